/- Walk of the reference's CheckDeed. -/
import Derived.Test.YtckkbkdcdkhglaaGreatDoorWV
set_option linter.unusedSimpArgs false
set_option linter.unusedVariables false
set_option maxRecDepth 100000
set_option maxHeartbeats 4000000
namespace Go.Proofs.YtckkbkdcdkhglaaGreatDoor
open Go.RowKit Go.Shelf
attribute [local go_sem] World.cell?_alloc_mark zag za5 zaq za8 zaw zax zay zaz za0 za1 za2
attribute [local go_sem] zap zad
theorem given_nil {n:ByteArray} {q:Rat} (h:q≠0):za3 [] n q=[(n,q)]:=by
 unfold za3;rw[if_neg Mdx]
theorem zpb {p:ByteArray×Rat} {r:Parts} {n:ByteArray} {q:Rat} (h:q≠0):za3 (p::r) n q=if zbo p.1 n then p::za3 r n q else if zae p.1 n then(n,p.2+q)::r else(n,q)::p::r:=by
 rw[za3,if_neg Mdx]
theorem given_zer (l:Parts) (n:ByteArray):za3 l n 0=l:=by
 cases l with
 |nil=>rfl
 |cons p r=>rw[za3,if_pos Mco]
def zml (done:Bool) (l:Parts) (n:ByteArray) (q:Rat):Parts:=if done then l else za3 l n q
theorem zcR (l:Parts) (n:ByteArray) (q:Rat) (A:Option Addr) (c:Nat) (w:World) (hl:l.length<=100000) (hs: ∀p∈l,zaK p.2) (hq:zaK q) (hS:Sl w 3 zaa A l):Calls Tryz.prog 38 #[.slice A l.length c, .string n,za9 q] w (zg8 w (za3 l n q)):=by
 have gw:=zHi hS;have pf:=zHi hs;have HQ:=zHi hq;obtain⟨R,hR⟩: ∃R,R=za3 l n q:=⟨_,rfl⟩
 rw[<-hR];have HR:=zHi hR;unfold zg8 za9;clear hS hs hq hR;go_enter Tryz.func38,Tryz.ntmps38
 go_upto_region 2 with fail
 obtain⟨W0,ao⟩: ∃W0,W0=w.alloc (.cells #[.int .i64 q.num, .int .i64 q.den] 58):=⟨_,rfl⟩
 have b0:W0.heap[w.heap.size]?=some (.cells #[.int .i64 q.num, .int .i64 q.den] 58):=Mdf;have aI:Below w.heap.size w W0:=McY;rw[<-ao];have ak:=zHi aI;have HS:=zHi (gw.o.keep aI);obtain⟨c0,c1⟩:=cF2 b0;have l0:=zab b0;clear ao b0 aI gw;go_upto_region 4 with fail
 go_loopw [7,8,9] (fun v d i wr=> ∃(k:Nat) (done:Bool) (out:Parts),k<=l.length/\d= .bool done/\i= .int .i64 k/\Hid (R=out++zml done (l.drop k) n q)/\Hid (done=false->q≠0)/\Hid (out.length<=k+(if done then 1 else 0))/\OwnS wr W0.heap.size 63 3 zaa v out/\Below W0.heap.size W0 wr) (fun _ _ i _=>l.length-(intOf i).toNat)
 case atStart=>
  refine⟨0,q.num==0,[],Nat.zero_le _,rfl,rfl,zHi ?_,zHi ?_,zHi Mco,OwnS.nil,Below.refl _ _⟩
  ·rw[List.drop_zero,List.nil_append,HR.o];unfold zml;cases hz:q.num==0
   ·rfl
   ·have:q=0:=Rat.num_eq_zero.1 Mds;rw[this,given_zer];rfl
  ·intro h e;rw[e]at h;exact absurd h Mcn
 case round=>
  obtain⟨k,done,out,hk,rfl,rfl,HX,HD,qN,ae,hB⟩:=hrel;have aK:=hB.size;have HO:=zHi ae;have HB:=zHi hB;have By:Hid (out.length<=k+1):=by show _<=_;have:=qN.o;split at this<;>omega
  have fU:Hid (out.length<=200000):=by show _<=_;have:=By.o;omega
  obtain⟨VA,vc,rfl,_,kC⟩:=ae.sl zan;have d0:wr.cell? ⟨w.heap.size,0,none⟩=some (.int .i64 q.num):=(zah hB l0).trans c0;have d1:wr.cell? ⟨w.heap.size,1,none⟩=some (.int .i64 q.den):=(zah hB l0).trans c1;have cx:w.heap.size<wr.heap.size:=Mcl;by_cases aa:k<l.length
  ·obtain⟨b,off,rfl,hb,ah⟩:=HS.o.at aa;have hx:=HX.o;rw[List.drop_eq_getElem_cons aa]at hx;have ct:=pf.o _ (List.getElem_mem aa);have aq:=zHi aa;generalize l[k]=x at*;obtain⟨nm,r⟩:=x;have e0:W0.cell? ⟨b,off+k*3,none⟩=some (.string nm):=ah 0 _ rfl;have e1:W0.cell? ⟨b,off+k*3+1,none⟩=some (.int .i64 r.num):=ah 1 _ rfl;have e2:W0.cell? ⟨b,off+k*3+2,none⟩=some (.int .i64 r.den):=ah 2 _ rfl;have i0:wr.cell? ⟨b,off+k*3,none⟩=some (.string nm):=(zah hB hb).trans e0;have i1:wr.cell? ⟨b,off+k*3+1,none⟩=some (.int .i64 r.num):=(zah hB hb).trans e1;have i2:wr.cell? ⟨b,off+k*3+2,none⟩=some (.int .i64 r.den):=(zah hB hb).trans e2;have ar:(k:Int)<(l.length:Int):=Mcl;have aT:(0:Int)<=(k:Int):=Mcl;have au:=zHi hx;have fK:=zHi ct;clear ah aa ae hB hx ct;cases done
   ·have gN:=HD.o rfl;have hx:=au.o;rw[show zml false ((nm,r)::l.drop (k+1)) n q=za3 ((nm,r)::l.drop (k+1)) n q from rfl,zpb gN]at hx;have If:=zHi gN;cases iT:zbo nm n
    ·have xt:Op.bytesLess nm.toList n.toList=false:=iT;rw[iT,if_neg Mco]at hx;cases dD:zae nm n
     ·have br:(nm.toList==n.toList)=false:=dD;rw[dD,if_neg Mco]at hx;have eY:=zHi hx;clear hx iT dD gN
      go_upto_region 11 with(at_builtin
                             go_loud(refine zav (v:= .slice VA out.length vc) (n:=out.length) (m:=1) rfl _ _ rfl zdO zan zce rfl (xs:=out) (ys:=[(n,q)]) (HO.o.keep (n:=wr.heap.size) Bw) rfl rfl rfl (zdd (zar _ _ _ rfl)) McU Mc8 Mcq ?_)
                             intro v3 w3 h1 h2 h3;have av:=Below.grown (B:=W0.heap.size) (a:=W0) (HB.o.trans (Below.mono (B:=wr.heap.size) (zac (Below.refl _ _) _) aK)) h2 Mcq (fun j hj=>(HO.o.ge j hj).1);have H1:=zHi h1;have aJ:=zHi av
                             clear h1 h2 h3 av)
      obtain⟨VB,vb,Gl,_,KL⟩:=H1.o.sl zan;rw[List.length_append]at Gl;subst Gl;have jl:=aJ.o.size;have j0:w3.cell? ⟨b,off+k*3,none⟩=some (.string nm):=(zah aJ.o hb).trans e0;have j1:w3.cell? ⟨b,off+k*3+1,none⟩=some (.int .i64 r.num):=(zah aJ.o hb).trans e1;have j2:w3.cell? ⟨b,off+k*3+2,none⟩=some (.int .i64 r.den):=(zah aJ.o hb).trans e2
      go_wp2_with (at_builtin
                   go_loud(refine zav (v:= .slice VB (out.length+[(n,q)].length) vb) (n:=out.length+[(n,q)].length) (m:=1) rfl _ _ rfl zdO zan zce rfl (xs:=out++[(n,q)]) (ys:=[(nm,r)]) (H1.o.keep (n:=w3.heap.size) Bw) Mco rfl rfl (zdd (zar _ _ _ rfl)) McU (by have:=fU.o;simp;omega) Mcq ?_)
                   intro v4 w4 g1 g2 g3;have aD:=Below.grown (B:=W0.heap.size) (a:=W0) (aJ.o.trans (Below.mono (B:=w3.heap.size) (zac (Below.refl _ _) _) jl)) g2 Mcq (fun j hj=>(H1.o.ge j hj).1);have G1:=zHi g1;have eE:=zHi aD
                   clear g1 g2 g3 aD)
      go_round
      case rel=>exact⟨k+1,true,out++[(n,q)]++[(nm,r)],aq.o,rfl,by go_num,zHi (by rw[eY.o,List.append_assoc,List.append_assoc];rfl),zHi (fun h=>by cases h),zHi (by have:=qN.o;simp at this⊢;omega),G1.o,eE.o⟩
      case measure=>have:=aq.o;simp only[intOf];omega
     ·have br:(nm.toList==n.toList)=true:=dD;rw[dD,if_pos rfl]at hx;have eY:=zHi hx;clear hx iT dD gN;have bj:b<wr.heap.size:=Nat.lt_of_lt_of_le hb aK;have aL:=zHi (fun(w':World) (h:Below wr.heap.size wr w')=>(show w'.cell? ⟨b,off+k*3+1,none⟩=some (.int .i64 r.num)/\w'.cell? ⟨b,off+k*3+2,none⟩=some (.int .i64 r.den)/\w'.cell? ⟨w.heap.size,0,none⟩=some (.int .i64 q.num)/\w'.cell? ⟨w.heap.size,1,none⟩=some (.int .i64 q.den) from⟨(zah h bj).trans i1,(zah h bj).trans i2,(zah h cx).trans d0,(zah h cx).trans d1⟩));have jR:=zHi (fun W=>znQ r q W fK.o HQ.o);unfold za9 at jR;go_upto_region 9 with fail
      refine zaC 11 (fun bb w'=>bb=true\/(w'.cell? ⟨b,off+k*3+1,none⟩=some (.int .i64 r.num)/\w'.cell? ⟨b,off+k*3+2,none⟩=some (.int .i64 r.den)/\w'.cell? ⟨w.heap.size,0,none⟩=some (.int .i64 q.num)/\w'.cell? ⟨w.heap.size,1,none⟩=some (.int .i64 q.den))) Mcm (.inr (aL.o _ (zaM (Below.refl _ _)))) ?hrest
      case hrest=>
       intro hHeld;refine TkM 0 ?_;refine TkM 1 ?_;refine TkM 2 ?_;refine TkM 3 ?_;refine TkM 4 ?_;refine TkM 5 ?_;refine TkM 6 ?_;refine TkM 7 ?_;refine OnM 8 false fun K hK=> ?_
       go_simp
       refine(jR.o _).mono ?_;rintro e w5 ⟨rfl,z,rfl⟩;have aj:Below wr.heap.size wr (wr.drew.ext z):=zbc (zaM (Below.refl _ _)) z;refine NxM hK (fun hHeld=> ?_) (.inr (aL.o _ aj));clear hK K;refine TkM 9 ?_;refine OnM 10 false fun K hK=> ?_
       go_simp
       have aE:Below wr.heap.size wr ((wr.drew.ext z).alloc (.cells #[.string n, .int .i64 (r+q).num, .int .i64 (r+q).den] 63)):=zac aj _;have n6:((wr.drew.ext z).alloc (.cells #[.string n, .int .i64 (r+q).num, .int .i64 (r+q).den] 63)).heap[(wr.drew.ext z).heap.size]?=some (.cells #[.string n, .int .i64 (r+q).num, .int .i64 (r+q).den] 63):=zar _ _ _ rfl;refine NxM hK (fun hHeld=> ?_) (.inr (aL.o _ aE));clear hK K;refine OnM 11 true fun K hK=> ?_
       refine zal (v:= .slice VA out.length vc) (n:=out.length) (m:=1) rfl _ _ rfl zdO zan zce rfl (xs:=out) (ys:=[(n,r+q)]) (HO.o.keep (n:=wr.heap.size) aE) rfl rfl rfl (zdd (zar _ _ _ MdB)) (by have:=fU.o;simp only[maxLen];omega) Mc8 Mdz ?_;intro v7 w7 h1 h2 h3;obtain⟨A7,c7,kB,_,_⟩:=h1.sl zan;rw[List.length_append]at kB;subst kB;have bG:Below W0.heap.size W0 w7:=Below.grown (HB.o.trans (aE.mono aK)) h2 Mdz (fun j hj=>(HO.o.ge j hj).1);refine NxM hK fun hHeld=> ?_
       clear hK K;refine OnM 12 true fun K hK=> ?_
       go_simp
       refine NxM hK fun hHeld=> ?_
       clear hK K;refine zaQ Mcm ?_ _;clear hHeld;have H7:=zHi h1;have bR:=zHi bG;clear h1 h2 h3 bG;go_wp2_with fail
       go_round
       case rel=>exact⟨k+1,true,out++[(n,r+q)],aq.o,rfl,by go_num,zHi (by rw[eY.o,List.append_assoc];rfl),zHi (fun h=>by cases h),zHi Mdg,H7.o,bR.o⟩
       case measure=>have:=aq.o;simp only[intOf];omega
    ·have xt:Op.bytesLess nm.toList n.toList=true:=iT;rw[iT,if_pos rfl]at hx;have eY:=zHi hx;clear hx iT gN
     go_wp2_with (at_builtin
                  go_loud(refine zav (v:= .slice VA out.length vc) (n:=out.length) (m:=1) rfl _ _ rfl zdO zan zce rfl (xs:=out) (ys:=[(nm,r)]) (HO.o.keep (n:=wr.heap.size) Bw) rfl rfl rfl (zdd (zar _ _ _ rfl)) McU Mc8 Mcq ?_)
                  intro v3 w3 h1 h2 h3;have av:=Below.grown (B:=W0.heap.size) (a:=W0) (HB.o.trans (Below.mono (B:=wr.heap.size) (zac (Below.refl _ _) _) aK)) h2 Mcq (fun j hj=>(HO.o.ge j hj).1);have H1:=zHi h1;have aJ:=zHi av
                  clear h1 h2 h3 av)
     go_round
     case rel=>exact⟨k+1,false,out++[(nm,r)],aq.o,rfl,by go_num,zHi (by rw[eY.o,List.append_assoc];rfl),zHi (fun _=>If.o),zHi Mdg,H1.o,aJ.o⟩
     case measure=>have:=aq.o;simp only[intOf];omega
   ·go_wp2_with (at_builtin
                 go_loud(refine zav (v:= .slice VA out.length vc) (n:=out.length) (m:=1) rfl _ _ rfl zdO zan zce rfl (xs:=out) (ys:=[(nm,r)]) (HO.o.keep (n:=wr.heap.size) Bw) rfl rfl rfl (zdd (zar _ _ _ rfl)) McU Mc8 Mcq ?_)
                 intro v3 w3 h1 h2 h3;have av:=Below.grown (B:=W0.heap.size) (a:=W0) (HB.o.trans (Below.mono (B:=wr.heap.size) (zac (Below.refl _ _) _) aK)) h2 Mcq (fun j hj=>(HO.o.ge j hj).1);have H1:=zHi h1;have aJ:=zHi av
                 clear h1 h2 h3 av)
    go_round
    case rel=>exact⟨k+1,true,out++[(nm,r)],aq.o,rfl,by go_num,zHi (by rw[au.o,List.append_assoc];rfl),zHi (fun h=>by cases h),zHi Mdg,H1.o,aJ.o⟩
    case measure=>have:=aq.o;simp only[intOf];omega
  ·have ar: ¬(k:Int)<(l.length:Int):=Mcl;have hx:=HX.o;rw[List.drop_of_length_le Mcl]at hx;clear ae hB;cases done
   ·have gN:=HD.o rfl;rw[show zml false [] n q=za3 [] n q from rfl,given_nil gN]at hx;have au:=zHi hx;clear hx gN
    go_wp2_with (at_builtin
                 go_loud(refine zav (v:= .slice VA out.length vc) (n:=out.length) (m:=1) rfl _ _ rfl zdO zan zce rfl (xs:=out) (ys:=[(n,q)]) (HO.o.keep (n:=wr.heap.size) Bw) rfl rfl rfl (zdd (zar _ _ _ rfl)) McU Mc8 Mcq ?_)
                 intro v3 w3 h1 h2 h3;have av:=Below.grown (B:=W0.heap.size) (a:=W0) (HB.o.trans (Below.mono (B:=wr.heap.size) (zac (Below.refl _ _) _) aK)) h2 Mcq (fun j hj=>(HO.o.ge j hj).1);have H1:=zHi h1;have aJ:=zHi av
                 clear h1 h2 h3 av)
    go_ret
    exact⟨_,rfl,by rw[au.o];exact H1.o.base_le ak.o.size,ak.o.trans (aJ.o.mono ak.o.size)⟩
   ·rw[show zml true [] n q=[]from rfl,List.append_nil]at hx;have au:=zHi hx;clear hx;go_wp2_with fail
    go_ret
    exact⟨_,rfl,by rw[au.o];exact HO.o.base_le ak.o.size,ak.o.trans (HB.o.mono ak.o.size)⟩
theorem zmm {d:Deed} (h1:inR d.kind 0 8=true) (h2:inR d.years 0 99=true):zfr d=zfI d:=
 zpa (zfz.1 h1) (zfz.1 h2).1
theorem zju (d:Deed) (B:Option Addr) (c:Nat) (w:World) (hl:zdv d) (hS:Sl w 3 RPart.cells B d.to):Calls Tryz.prog 63 #[d.v B c] w (Ret w (.int .i64 (zaI d))):=by
 obtain⟨R,hR⟩: ∃R,R=zaI d:=⟨_,rfl⟩
 rw[<-hR];have zO:=zmm (d:=d);have oz:=fun W (hl:d.to.length<=1000) (h:Below w.heap.size w W)=>znm d B c W hl (hS.keep h)
 obtain⟨kd,dy,pl,fr,ts,cl,yr⟩:=d;obtain⟨l1,l2,eO,aa⟩:=hl;have HS:=zHi hS;unfold zaI at hR;unfold Deed.v at oz⊢;simp only at hR l1 l2 eO aa hS zO oz;have HR:=zHi hR;have mY:=zHi zO;have nU:=zHi oz;have eG:=zHi eO;clear hR hS zO oz eO;go_enter Tryz.func63,Tryz.ntmps63
 go_upto_region 1 with fail
 generalize ao:w.alloc _=W0;obtain⟨g0,aI⟩:=boxed ao;obtain⟨d0,d1,d2,d3,d4,d5,d6⟩:=zaG g0;have l0:=zab g0;have ak:=zHi aI;clear ao aI;cases iD:inR kd 0 8
 ·have HE:Hid (R=15):=by show _=_;rw[HR.o];simp[iD]
  exact Ms
 go_upto_region 3 with(first
                        |(go_at_call 67;go_must(refine(zc3 _ _ _ _).mono ?_);rintro e wq ⟨rfl,rfl⟩;(first|rw[iD]|rw[mw]|rw[hy9]))
                        |(go_at_call 31;go_must(refine(zcL _ _).mono ?_);rintro e wq ⟨rfl,rfl⟩;rw[fj])
                        |(go_at_call 30;go_must(refine(zcK _ _ McV).mono ?_);rintro e wq ⟨rfl,rfl⟩;(first|rw[df]|rw[gR]|rw[nJ])))
 cases fj:zbm dy
 ·have HE:Hid (R=2):=by show _=_;rw[HR.o];simp[iD,fj]
  exact Ms
 cases mw:inR cl 0 4
 ·have HE:Hid (R=2):=by show _=_;rw[HR.o];simp[iD,fj,mw]
  exact Ms
 cases hy9:inR yr 0 99
 ·have HE:Hid (R=2):=by show _=_;rw[HR.o];simp[iD,fj,mw,hy9]
  exact Ms
 go_upto_region 5 with(first
                        |(go_at_call 67;go_must(refine(zc3 _ _ _ _).mono ?_);rintro e wq ⟨rfl,rfl⟩;(first|rw[iD]|rw[mw]|rw[hy9]))
                        |(go_at_call 31;go_must(refine(zcL _ _).mono ?_);rintro e wq ⟨rfl,rfl⟩;rw[fj])
                        |(go_at_call 30;go_must(refine(zcK _ _ McV).mono ?_);rintro e wq ⟨rfl,rfl⟩;(first|rw[df]|rw[gR]|rw[nJ])))
 by_cases h8:8<ts.length
 ·have h9:(8:Int)<(ts.length:Int):=Mcl;have HE:Hid (R=8):=by show _=_;rw[HR.o];simp[iD,fj,mw,hy9,h8]
  exact Ms
 have h9: ¬(8:Int)<(ts.length:Int):=Mcl;have tZ:R=if !zby pl||!zby fr||!ts.all (fun p=>zaR p.name)then 4 else if !zfI ⟨kd,dy,pl,fr,ts,cl,yr⟩then 3 else 0:=by rw[HR.o];simp[iD,fj,mw,hy9,h8]
 rw[<-mY.o iD hy9]at tZ;have bx:=zHi tZ;clear tZ mY HR;go_upto_region 7 with fail
 go_cut [47]from 28 to 47 (fun v wc=>v= .bool (!zby pl||!zby fr)/\W0=wc)
 case first=>
  cases z1:noB pl
  ·have w1: ¬pl.toList=[]:=by simpa using(show pl.toList.isEmpty=false from z1)
   cases ib:zaR pl
   ·have df:zcA pl=false:=by rw[<-zdt,ib]
    exact Mr
   ·have df:zcA pl=true:=by rw[<-zdt,ib]
    cases z2:noB fr
    ·exact Mb2
    ·exact Mce
  ·have w1:pl.toList=[]:=by simpa using(show pl.toList.isEmpty=true from z1)
   cases z2:noB fr
   ·exact Mb2
   ·exact Mce
 case rest=>
  obtain⟨rfl,rfl⟩:=hcut;cases Ac:(!zby pl||!zby fr)
  ·have xT:R=if !ts.all (fun p=>zaR p.name)then 4 else if !zfr ⟨kd,dy,pl,fr,ts,cl,yr⟩then 3 else 0:=by rw[bx.o,Ac,Bool.false_or]
   have qj:=zHi (fun W h=>nU.o W Mcl h);generalize zfr ⟨kd,dy,pl,fr,ts,cl,yr⟩=fo at*;have lR:=zHi xT;clear xT bx nU;go_upto_region 10 with fail
   go_loopw [3] (fun i wr=> ∃k:Nat,k<=ts.length/\i= .int .i64 k/\W0=wr/\Hid (R=if !(ts.drop k).all (fun p=>zaR p.name)then 4 else if !fo then 3 else 0)) (fun i _=>ts.length-(intOf i).toNat)
   case atStart=>exact⟨0,Nat.zero_le _,rfl,rfl,by rw[List.drop_zero];exact lR.o⟩
   case round=>
    obtain⟨k,hk,rfl,rfl,HX⟩:=hrel;by_cases aa:k<ts.length
    ·obtain⟨b,off,rfl,hb,ah⟩:=(HS.o.keep ak.o).at aa;have hx:=HX.o;rw[List.drop_eq_getElem_cons aa,List.all_cons]at hx;have hsz:=eG.o _ (List.getElem_mem aa);have au:=zHi hx;have aq:=zHi aa;generalize ts[k]=x at*;obtain⟨nm,nu,de⟩:=x;have i0:W0.cell? ⟨b,off+k*3,none⟩=some (.string nm):=ah 0 _ rfl;have ar:(k:Int)<(ts.length:Int):=Mcl;have aT:(0:Int)<=(k:Int):=Mcl;simp only at hsz;clear ah hx aa;cases hp3:zaR nm
     ·have nJ:zcA nm=false:=Med;have HE:Hid (R=4):=by show _=_;rw[au.o];simp[hp3]
      exact Ms
     ·have nJ:zcA nm=true:=Med;have HE:Hid (R=if !(ts.drop (k+1)).all (fun p=>zaR p.name)then 4 else if !fo then 3 else 0):=by show _=_;rw[au.o,hp3,Bool.true_and]
      go_wp2_with (first
                    |(go_at_call 67;go_must(refine(zc3 _ _ _ _).mono ?_);rintro e wq ⟨rfl,rfl⟩;(first|rw[iD]|rw[mw]|rw[hy9]))
                    |(go_at_call 31;go_must(refine(zcL _ _).mono ?_);rintro e wq ⟨rfl,rfl⟩;rw[fj])
                    |(go_at_call 30;go_must(refine(zcK _ _ McV).mono ?_);rintro e wq ⟨rfl,rfl⟩;(first|rw[df]|rw[gR]|rw[nJ])))
      exact MH
    ·have ar: ¬(k:Int)<(ts.length:Int):=Mcl;have HE:Hid (R=if !fo then 3 else 0):=by show _=_;rw[HX.o,List.drop_of_length_le Mcl];rfl
     cases fo
     ·exact MaG
     ·exact MaG
  ·have HE:Hid (R=4):=by show _=_;rw[bx.o,Ac];rfl
   exact Ms
end Go.Proofs.YtckkbkdcdkhglaaGreatDoor
