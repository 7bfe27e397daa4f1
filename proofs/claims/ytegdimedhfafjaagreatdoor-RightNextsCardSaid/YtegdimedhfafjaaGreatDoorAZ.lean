import Derived.Test.YtegdimedhfafjaaGreatDoorUF
import Derived.Test.YtegdimedhfafjaaGreatDoorRT
set_option linter.all false
set_option maxRecDepth 100000
set_option maxHeartbeats 4000000
namespace Go.Proofs.YtegdimedhfafjaaGreatDoor
open Go.RowKit Go.Shelf
attribute [local go_sem] World.cell?_alloc_mark zaf za5 zao za8 zav zaw zax zay zaz za0 za1
attribute [local go_sem] zaq zad
def famR:List RPart:=[⟨nBob,3,8⟩,⟨nCat,3,8⟩,⟨nDan,1,4⟩]
theorem fam_cells:zgD.map zaa=famR.map RPart.cells:=by kernel_rfl
theorem fam_holds:zfD fam5 nA1 200=zgD:=by kernel_rfl
theorem fam_err(names:List ByteArray)(day:Int)(hn:names.any (fun s=>!zaS s)=false)(hd:zb0 day=true):zeK zcj zbI names day=0:=by
 unfold zeK;have h:(zcR zcj zbI 200000).2=(5,0):=by rw[zfr,zhk 200000 Mco]
 rw[h,hn,hd];rfl
theorem fam_bury:zfE zcj zbI nA1 nAnn 300=(true,0):=by
 unfold zfE;rw[fam_err [nA1,nAnn] 300 Mcn Mcn,zhk 300 Mco];have h:zaP fam5 nA1 300=some 0:=Mcn;simp only[bne_self_eq_false,Bool.false_eq_true,if_false];rw[h];have hg:fam5.graves.getD 0 zgl=⟨nA1,1,-1,zgD,[nAnn]⟩:=rfl;simp only[hg];have he:entP fam5 ⟨nA1,1,-1,zgD,[nAnn]⟩ nAnn=true:=by
  unfold entP;have:[nAnn].any (zgc fam5 1 nAnn)=true:=by
   rw[List.any_cons];unfold zgc;rw[show zae nAnn nAnn=true from zbX _];rfl
  rw[this,Bool.or_true]
 rw[he,Bool.or_true]
theorem zol:∀d∈zbI,zdt d:=by
 intro d hd;simp only[zbI,List.mem_cons,List.not_mem_nil,or_false]at hd;rcases hd with rfl|rfl|rfl|rfl|rfl<;>exact⟨by decide,by decide,by simp[famD];try decide,by simp[famD]⟩
structure Laid5 (w:World):Prop where
 forms:FormsIn w
 lens:LensIn w
 tz:TzTab w
theorem Laid5.keep{w W:World}{n:Nat}(h:Laid5 w)(hB:Below n w W)(hn:w.heap.size<=n:=by first|exact Nat.le_refl _|omega):Laid5 W:=⟨h.forms.keep hB hn,h.lens.keep hB hn,h.tz.keep hB hn⟩
def HoldPost(w:World)(e:Ending)(w':World):Prop:= ∃A c,e=.returned (.tuple #[.slice A 3 c,.int .i64 0])/\3<=c/\Sl w' 3 RPart.cells A famR/\Below w.heap.size w w'
theorem zjn(LA DA:Option Addr)(w:World)(hR:RightsIn w zcj zbI LA 2 2 DA 5 5)(hL:Laid5 w):Calls Tryz.prog 13 #[.agg #[.slice LA 2 2,.slice DA 5 5],.string ⟨#[97,49]⟩,.int .i64 200] w (HoldPost w):=by
 refine(znd zcj zbI nA1 200 LA 2 2 DA 5 5 w hR hL.forms hL.lens zol Mco).mono ?_;rintro e w' ⟨hB,h⟩;rw[fam_err [nA1] 200 Mcn Mcn,zhk 200 Mco]at h;rcases h with⟨h,_⟩|⟨_,A,c,rfl,hc,hS⟩
 ·exact absurd rfl h
 ·rw[show((fam5,5,(0:Int)):St×Nat×Int).1=fam5 from rfl,fam_holds]at hc hS⊢;exact⟨A,c,rfl,hc,sl_same hS fam_cells,hB⟩
theorem znn(LA DA:Option Addr)(w:World)(hR:RightsIn w zcj zbI LA 2 2 DA 5 5)(hL:Laid5 w):Calls Tryz.prog 15 #[.agg #[.slice LA 2 2,.slice DA 5 5],.string ⟨#[97,49]⟩,.string ⟨#[97,110,110]⟩,.int .i64 300] w (Ret w (.tuple #[.bool true,.int .i64 0])):=by
 have:=znf zcj zbI nA1 nAnn 300 LA 2 2 DA 5 5 w hR hL.forms hL.lens zol Mco Mco;rw[fam_bury]at this;exact this
theorem zmc(A:Option Addr)(w:World)(hS:Sl w 8 Rec.cells A zfq)(hL:Laid5 w):Calls Tryz.prog 16 #[.slice A 5 5] w (zhl w):=zpa A 5 w (Nat.le_refl _) hL.tz hS
theorem fam_same(A2:Option Addr)(c2:Nat)(cd:3<=c2)(P:Nat)(W:World)(h:Sl W 3 RPart.cells A2 famR)(hP:W.heap[P]?=some (.cells #[.string ⟨#[98,111,98]⟩,.int .i64 3,.int .i64 8,.string ⟨#[99,97,116]⟩,.int .i64 3,.int .i64 8,.string ⟨#[100,97,110]⟩,.int .i64 1,.int .i64 4] 62)):
 Calls Tryz.prog 17 #[.slice A2 3 c2,.slice (some ⟨P,0,none⟩) 3 3] W (Ret W (.bool true)):=
 zkN famR A2 (some ⟨P,0,none⟩) c2 3 _ h (zec (fun _=>rfl) hP rfl) Mco cd Mco
theorem two_same(A5:Option Addr)(c5:Nat)(mi:2<=c5)(P:Nat)(W:World)(h:Sl W 1 intC A5 [0,2])(hP:W.heap[P]?=some (.cells #[.int .i64 0,.int .i64 2] 3)):
 Calls Tryz.prog 19 #[.slice A5 2 c5,.slice (some ⟨P,0,none⟩) 2 2] W (Ret W (.bool true)):=
 zmb [0,2] A5 (some ⟨P,0,none⟩) c5 2 _ h (zec (fun _=>rfl) hP rfl) Mco mi Mco
theorem zpc(w:World)(hL:Laid5 w):Calls Tryz.prog 4 #[] w (Ret w (.bool true)):=by
 have HL:=zHi hL;clear hL;go_enter Tryz.func4,Tryz.ntmps4
 go_upto_region 2 with(first
  |(go_at_call 14;go_must(refine(zjU _).mono ?_);rintro e w1 ⟨LA,DA,rfl,hr,hb⟩;obtain⟨HR,HB⟩:=yH2 hr hb;clear hr hb)
  |(go_at_call 13;go_must(refine(zjn LA DA _ HR.o (HL.o.keep HB.o)).mono ?_);rintro e w2 ⟨A2,c2,rfl,cd,bo,bF⟩;obtain⟨zu,aA⟩:=yH2 bo (HB.o.trans (bF.mono HB.o.size));clear bo bF))
 clear HR HB
 go_upto_region 3 with(first
  |(go_at_call 14;go_must(refine(zjU _).mono ?_);rintro e w3 ⟨LA3,DA3,rfl,hr,hb⟩;obtain⟨HR,aL,HB⟩:=yH3 hr hb (aA.o.trans (hb.mono aA.o.size));clear hr hb)
  |(go_at_call 15;go_must(refine(znn LA3 DA3 _ HR.o (HL.o.keep HB.o)).mono ?_);rintro e w4 ⟨rfl,z4,rfl⟩))
 obtain⟨ET,eo⟩:=yH2 ((zu.o.keep aL.o).keep (zap w3 z4)) (HB.o.trans ((zap w3 z4).mono HB.o.size));generalize w3.ext z4=W4 at*;clear HR HB zu aA aL;have Hk:w.heap.size<=W4.heap.size:=eo.o.size
 go_upto_region 4 with(go_at_call 16
                       go_must(refine(zmc _ _ (zec (fun _=>rfl) (zas _ _ _ rfl) rfl) ((HL.o.keep eo.o).keep (n:=W4.heap.size) Bw)).mono ?_)
                       rintro e w5 ⟨A5,c5,rfl,mi,iH,aq⟩)
 have EU:=zHi (ET.o.keep ((zac (Below.refl _ _) _ (Nat.le_refl _)).trans (aq.mono Mcp)));have cI:=zHi (eo.o.trans (((zac (Below.refl _ _) _ (Nat.le_refl _)).trans (aq.mono Mcp)).mono Hk));have Ex:=zHi iH;clear ET eo iH aq;obtain⟨im,tB⟩:=yH2 (fun(W:World) (hW:Below w5.heap.size w5 W)=>fun(P:Nat) hP=>fam_same A2 c2 cd P W (EU.o.keep hW) hP) (fun(W:World) (hW:Below w5.heap.size w5 W)=>fun(P:Nat) hP=>two_same A5 c5 mi P W (Ex.o.keep hW) hP);clear EU Ex;have AE:w.heap.size<=w5.heap.size:=cI.o.size;clear HL
 go_wp2_with (first
  |(go_at_call 18;go_must(refine(zma _ _ _ _).mono ?_);rintro e wq ⟨rfl,zq,rfl⟩)
  |(go_at_call 17;go_must(refine(im.o _ Bw _ (zas _ _ _ Mdk)).mono ?_);rintro e wq ⟨rfl,zq,rfl⟩)
  |(go_at_call 19;go_must(refine(tB.o _ Bw _ (zas _ _ _ Mdk)).mono ?_);rintro e wq ⟨rfl,zq,rfl⟩))
 go_ret
 exact Ret.of rfl (cI.o.trans (Below.mono (B:=w5.heap.size) Bw cI.o.size))
def zmd(n o:ByteArray)(m:ByteArray×ByteArray):ByteArray:=if zae m.1 n then m.2 else o
def spSt(n o:ByteArray)(m:ByteArray×ByteArray):ByteArray:=if zae m.2 n then m.1 else zmd n o m
def spGo(n:ByteArray)(l:List (ByteArray×ByteArray))(o:ByteArray):ByteArray:=l.foldl (spSt n) o
theorem zme(n:ByteArray)(l:List (ByteArray×ByteArray))(m:ByteArray×ByteArray)(o:ByteArray):spGo n (l++[m]) o=spSt n (spGo n l o) m:=by
 unfold spGo;rw[List.foldl_append];rfl
theorem spGo_eq(n:ByteArray)(l:List (ByteArray×ByteArray)):spGo n l.reverse ⟨#[]⟩=zdl n l:=by
 induction l with
 |nil=>rfl
 |cons m l ih=>
  rw[List.reverse_cons,zme,ih];obtain⟨a,b⟩:=m;rw[zdl];unfold spSt zmd;simp only;cases h1:zae a n
  ·cases h2:zae b n<;>simp
  ·cases h2:zae b n
   ·simp
   ·simp only[if_true];exact(za2.1 h1).trans (za2.1 h2).symm
def zgd(ms:List (ByteArray×ByteArray))(dd:List ByteArray)(n:ByteArray):ByteArray:=if dd.any (zae (spGo n ms ⟨#[]⟩))then⟨#[]⟩else spGo n ms ⟨#[]⟩
theorem zpd(s:St)(n:ByteArray):zgd s.marriages s.dead n=zaK s n:=by
 have h:=spGo_eq n s.marriages.reverse;rw[List.reverse_reverse]at h;unfold zgd zaK zaM;rw[h]
theorem zno(ms:List (ByteArray×ByteArray))(dd:List ByteArray)(n:ByteArray)(LA CA MA DA WA RA GA:Option Addr)(n0 c0 n1 c1 n2 c2 n3 c3 n4 c4 n5 c5 n6 c6:Nat)(w:World)(hl:ms.length<=100000)(hS:Sl w 2 zaR MA ms)(bA:dd.length<=100000)(kS:dd.length<=c3)(hD:Sl w 1 sC DA dd):
 Calls Tryz.prog 152 #[.agg #[.slice LA n0 c0,.slice CA n1 c1,.slice MA ms.length c2,.slice DA dd.length c3,.slice WA n4 c4,.slice RA n5 c5,.slice GA n6 c6],.string n] w (Ret w (.string (zgd ms dd n))):=by
 obtain⟨fY,ig⟩:=yH2 hS (fun x W (h:Below w.heap.size w W)=>zeI dd x LA CA MA DA WA RA GA n0 c0 n1 c1 ms.length c2 dd.length c3 n4 c4 n5 c5 n6 c6 W bA kS (hD.keep h));clear hS hD;go_enter Tryz.func152,Tryz.ntmps152
 go_upto_region 1 with fail
 obtain⟨W0,ao⟩:∃W0,W0=w.alloc (.cells #[.slice LA n0 c0,.slice CA n1 c1,.slice MA ms.length c2,.slice DA dd.length c3,.slice WA n4 c4,.slice RA n5 c5,.slice GA n6 c6] 41):=⟨_,rfl⟩
 have b0:W0.heap[w.heap.size]?=some (.cells #[.slice LA n0 c0,.slice CA n1 c1,.slice MA ms.length c2,.slice DA dd.length c3,.slice WA n4 c4,.slice RA n5 c5,.slice GA n6 c6] 41):=Mdi;have aO:Below w.heap.size w W0:=McW;rw[<-ao];obtain⟨ak,HS⟩:=yH2 aO (fY.o.keep aO);obtain⟨k0,k1,k2,k3,k4,k5,k6⟩:=cF7 b0;clear ao b0 aO fY;go_upto_region 3 with fail
 go_loopw [5,6,7] (fun v i _ wr=>∃(k:Nat) (o:ByteArray),k<=ms.length/\i=.int .i64 k/\v=.string o/\W0=wr/\Hid (o=spGo n (ms.take k) ⟨#[]⟩)) (fun _ i _ _=>ms.length-(intOf i).toNat)
 case atStart=>exact⟨0,⟨#[]⟩,Nat.zero_le _,rfl,rfl,rfl,zHi rfl⟩
 case round=>
  obtain⟨k,o,hk,rfl,rfl,rfl,HX⟩:=hrel;by_cases aa:k<ms.length
  ·obtain⟨b,off,rfl,hb,ah⟩:=HS.o.at aa;have dR:ms.take (k+1)=ms.take k++[ms[k]]:=by rw[List.take_add_one,List.getElem?_eq_getElem aa];rfl
   have am:=zHi aa;have av:Hid (spGo n (ms.take (k+1)) ⟨#[]⟩=spSt n o ms[k]):=by show _=_;rw[dR,zme,<-HX.o];rfl
   generalize ms[k]=m at*;obtain⟨ma,mb⟩:=m;have i0:W0.cell? ⟨b,off+k*2,none⟩=some (.string ma):=ah 0 _ rfl;have i1:W0.cell? ⟨b,off+k*2+1,none⟩=some (.string mb):=ah 1 _ rfl;have au:(k:Int)<(ms.length:Int):=Mcm;have aP:(0:Int)<=(k:Int):=Mcm;clear ah aa dR;go_upto_region 6 with fail
   go_loopw [5,7] (fun v z wr=>W0=wr/\((z=.int .i64 0/\v=.string o)\/(z=.int .i64 1/\v=.string (zmd n o (ma,mb)))\/(z=.int .i64 2/\v=.string (spSt n o (ma,mb))))) (fun _ z _=>2-(intOf z).toNat)
   case atStart=>exact⟨rfl,.inl ⟨rfl,rfl⟩⟩
   case round=>
    obtain⟨rfl,⟨rfl,rfl⟩|⟨rfl,rfl⟩|⟨rfl,rfl⟩⟩:=hrel
    ·cases hs:zae ma n
     ·have bo:(ma.toList==n.toList)=false:=hs;have he:zmd n o (ma,mb)=o:=by unfold zmd;simp[hs]
      exact Mas
     ·have bo:(ma.toList==n.toList)=true:=hs;have he:zmd n o (ma,mb)=mb:=by unfold zmd;simp[hs]
      exact Mas
    ·generalize hmid:zmd n o (ma,mb)=o2 at*;have HM:=zHi hmid;clear hmid;cases hs:zae mb n
     ·have bo:(mb.toList==n.toList)=false:=hs;have HE:Hid (spSt n o (ma,mb)=o2):=by show _=_;unfold spSt;rw[HM.o];simp[hs]
      exact MaJ
     ·have bo:(mb.toList==n.toList)=true:=hs;have HE:Hid (spSt n o (ma,mb)=ma):=by show _=_;unfold spSt;simp[hs]
      exact MaJ
    ·go_wp2_with fail
     go_round
     case rel=>exact⟨k+1,_,am.o,by go_num,rfl,by first|exact True.intro|rfl,zHi av.o.symm⟩
     case measure=>have:=am.o;simp only[intOf];omega
  ·have au:¬(k:Int)<(ms.length:Int):=Mcm;have hx:=HX.o;rw[List.take_of_length_le Mcm]at hx;have tt:=zHi (fun W h=>ig.o o W h);cases hd:dd.any (zae o)
   ·have HE:Hid (zgd ms dd n=o):=by show _=_;unfold zgd;rw[<-hx,hd];rfl
    exact Mav
   ·have HE:Hid (zgd ms dd n=⟨#[]⟩):=by show _=_;unfold zgd;rw[<-hx,hd];rfl
    exact Mav
theorem given_nil{n:ByteArray}{q:Rat}(h:q≠0):za4 [] n q=[(n,q)]:=by
 unfold za4;rw[if_neg Mc8]
theorem zpe{p:ByteArray×Rat}{r:Parts}{n:ByteArray}{q:Rat}(h:q≠0):za4 (p::r) n q=if zbq p.1 n then p::za4 r n q else if zae p.1 n then(n,p.2+q)::r else(n,q)::p::r:=by
 rw[za4,if_neg Mc8]
theorem given_zer(l:Parts)(n:ByteArray):za4 l n 0=l:=by
 cases l with
 |nil=>rfl
 |cons p r=>rw[za4,if_pos Mcp]
def zmf(done:Bool)(l:Parts)(n:ByteArray)(q:Rat):Parts:=if done then l else za4 l n q
theorem zcN(l:Parts)(n:ByteArray)(q:Rat)(A:Option Addr)(c:Nat)(w:World)(hl:l.length<=100000)(hs:∀p∈l,zaJ p.2)(hq:zaJ q)(hS:Sl w 3 zaa A l):Calls Tryz.prog 141 #[.slice A l.length c,.string n,zaC q] w (zgE w (za4 l n q)):=by
 obtain⟨fY,nr,HQ⟩:=yH3 hS hs hq;obtain⟨R,hR⟩:∃R,R=za4 l n q:=⟨_,rfl⟩
 rw[<-hR];have HR:=zHi hR;unfold zgE zaC;clear hS hs hq hR;go_enter Tryz.func141,Tryz.ntmps141
 go_upto_region 2 with fail
 obtain⟨W0,ao⟩:∃W0,W0=w.alloc (.cells #[.int .i64 q.num,.int .i64 q.den] 56):=⟨_,rfl⟩
 have b0:W0.heap[w.heap.size]?=some (.cells #[.int .i64 q.num,.int .i64 q.den] 56):=Mdi;have aO:Below w.heap.size w W0:=McW;rw[<-ao];obtain⟨ak,HS⟩:=yH2 aO (fY.o.keep aO);obtain⟨c0,c1⟩:=cF2 b0;have l0:=zab b0;clear ao b0 aO fY;go_upto_region 4 with fail
 go_loopw [7,8,9] (fun v d i wr=>∃(k:Nat) (done:Bool) (out:Parts),k<=l.length/\d=.bool done/\i=.int .i64 k/\Hid (R=out++zmf done (l.drop k) n q)/\Hid (done=false->q≠0)/\Hid (out.length<=k+(if done then 1 else 0))/\OwnS wr W0.heap.size 62 3 zaa v out/\Below W0.heap.size W0 wr) (fun _ _ i _=>l.length-(intOf i).toNat)
 case atStart=>
  refine⟨0,q.num==0,[],Nat.zero_le _,rfl,rfl,zHi ?_,zHi ?_,zHi Mcp,OwnS.nil,Below.refl _ _⟩
  ·rw[List.drop_zero,List.nil_append,HR.o];unfold zmf;cases hz:q.num==0
   ·rfl
   ·have:q=0:=Rat.num_eq_zero.1 Mdy;rw[this,given_zer];rfl
  ·intro h e;rw[e]at h;exact absurd h Mco
 case round=>
  obtain⟨k,done,out,hk,rfl,rfl,HX,HD,rl,ae,hB⟩:=hrel;have aE:=hB.size;obtain⟨HO,HB⟩:=yH2 ae hB;have C2:Hid (out.length<=k+1):=by show _<=_;have:=rl.o;split at this<;>omega
  have eZ:Hid (out.length<=200000):=by show _<=_;have:=C2.o;omega
  obtain⟨VA,vc,rfl,_,jV⟩:=ae.sl zan;have d0:wr.cell? ⟨w.heap.size,0,none⟩=some (.int .i64 q.num):=(zah hB l0).trans c0;have d1:wr.cell? ⟨w.heap.size,1,none⟩=some (.int .i64 q.den):=(zah hB l0).trans c1;have bW:w.heap.size<wr.heap.size:=Mcm;by_cases aa:k<l.length
  ·obtain⟨b,off,rfl,hb,ah⟩:=HS.o.at aa;have hx:=HX.o;rw[List.drop_eq_getElem_cons aa]at hx;have cj:=nr.o _ (List.getElem_mem aa);have am:=zHi aa;generalize l[k]=x at*;obtain⟨nm,r⟩:=x;have e0:W0.cell? ⟨b,off+k*3,none⟩=some (.string nm):=ah 0 _ rfl;have e1:W0.cell? ⟨b,off+k*3+1,none⟩=some (.int .i64 r.num):=ah 1 _ rfl;have e2:W0.cell? ⟨b,off+k*3+2,none⟩=some (.int .i64 r.den):=ah 2 _ rfl;have i0:wr.cell? ⟨b,off+k*3,none⟩=some (.string nm):=(zah hB hb).trans e0;have i1:wr.cell? ⟨b,off+k*3+1,none⟩=some (.int .i64 r.num):=(zah hB hb).trans e1;have i2:wr.cell? ⟨b,off+k*3+2,none⟩=some (.int .i64 r.den):=(zah hB hb).trans e2;have au:(k:Int)<(l.length:Int):=Mcm;have aP:(0:Int)<=(k:Int):=Mcm;obtain⟨av,im⟩:=yH2 hx cj;clear ah aa ae hB hx cj;cases done
   ·have gR:=HD.o rfl;have hx:=av.o;rw[show zmf false ((nm,r)::l.drop (k+1)) n q=za4 ((nm,r)::l.drop (k+1)) n q from rfl,zpe gR]at hx;have IO:=zHi gR;cases iD:zbq nm n
    ·have DH:Op.bytesLess nm.toList n.toList=false:=iD;rw[iD,if_neg Mcp]at hx;cases dt:zae nm n
     ·have bo:(nm.toList==n.toList)=false:=dt;rw[dt,if_neg Mcp]at hx;have eM:=zHi hx;clear hx iD dt gR
      go_upto_region 11 with(at_builtin
                             go_loud(refine zau (v:=.slice VA out.length vc) (n:=out.length) (m:=1) rfl _ _ rfl zdQ zan zcd rfl (xs:=out) (ys:=[(n,q)]) (HO.o.keep (n:=wr.heap.size) Bw) rfl rfl rfl (zda (zas _ _ _ rfl)) McV Mc3 Mcr ?_)
                             intro v3 w3 h1 h2 h3;have aC:=Below.grown (B:=W0.heap.size) (a:=W0) (HB.o.trans (Below.mono (B:=wr.heap.size) (zac (Below.refl _ _) _) aE)) h2 Mcr (fun j hj=>(HO.o.ge j hj).1);obtain⟨H1,aL⟩:=yH2 h1 aC
                             clear h1 h2 h3 aC)
      obtain⟨VB,vb,Hh,_,LE⟩:=H1.o.sl zan;rw[List.length_append]at Hh;subst Hh;have jq:=aL.o.size;have j0:w3.cell? ⟨b,off+k*3,none⟩=some (.string nm):=(zah aL.o hb).trans e0;have j1:w3.cell? ⟨b,off+k*3+1,none⟩=some (.int .i64 r.num):=(zah aL.o hb).trans e1;have j2:w3.cell? ⟨b,off+k*3+2,none⟩=some (.int .i64 r.den):=(zah aL.o hb).trans e2
      go_wp2_with (at_builtin
                   go_loud(refine zau (v:=.slice VB (out.length+[(n,q)].length) vb) (n:=out.length+[(n,q)].length) (m:=1) rfl _ _ rfl zdQ zan zcd rfl (xs:=out++[(n,q)]) (ys:=[(nm,r)]) (H1.o.keep (n:=w3.heap.size) Bw) Mcp rfl rfl (zda (zas _ _ _ rfl)) McV (by have:=eZ.o;simp;omega) Mcr ?_)
                   intro v4 w4 g1 g2 g3;have aD:=Below.grown (B:=W0.heap.size) (a:=W0) (aL.o.trans (Below.mono (B:=w3.heap.size) (zac (Below.refl _ _) _) jq)) g2 Mcr (fun j hj=>(H1.o.ge j hj).1);obtain⟨G1,eo⟩:=yH2 g1 aD
                   clear g1 g2 g3 aD)
      go_round
      case rel=>exact⟨k+1,true,out++[(n,q)]++[(nm,r)],am.o,rfl,by go_num,zHi (by rw[eM.o,List.append_assoc,List.append_assoc];rfl),zHi (fun h=>by cases h),zHi (by have:=rl.o;simp at this⊢;omega),G1.o,eo.o⟩
      case measure=>have:=am.o;simp only[intOf];omega
     ·have bo:(nm.toList==n.toList)=true:=dt;rw[dt,if_pos rfl]at hx;have eM:=zHi hx;clear hx iD dt gR;have aS:b<wr.heap.size:=Nat.lt_of_lt_of_le hb aE;obtain⟨ax,jX⟩:=yH2 (fun(w':World) (h:Below wr.heap.size wr w')=>(show w'.cell? ⟨b,off+k*3+1,none⟩=some (.int .i64 r.num)/\w'.cell? ⟨b,off+k*3+2,none⟩=some (.int .i64 r.den)/\w'.cell? ⟨w.heap.size,0,none⟩=some (.int .i64 q.num)/\w'.cell? ⟨w.heap.size,1,none⟩=some (.int .i64 q.den) from⟨(zah h aS).trans i1,(zah h aS).trans i2,(zah h bW).trans d0,(zah h bW).trans d1⟩)) (fun W=>znL r q W im.o HQ.o);unfold zaC at jX;go_upto_region 9 with fail
      refine zaB 11 (fun bb w'=>bb=true\/(w'.cell? ⟨b,off+k*3+1,none⟩=some (.int .i64 r.num)/\w'.cell? ⟨b,off+k*3+2,none⟩=some (.int .i64 r.den)/\w'.cell? ⟨w.heap.size,0,none⟩=some (.int .i64 q.num)/\w'.cell? ⟨w.heap.size,1,none⟩=some (.int .i64 q.den))) Mcn (.inr (ax.o _ (zaH (Below.refl _ _)))) ?hrest
      case hrest=>
       intro hHeld;refine TkM 0 ?_;refine TkM 1 ?_;refine TkM 2 ?_;refine TkM 3 ?_;refine TkM 4 ?_;refine TkM 5 ?_;refine TkM 6 ?_;refine TkM 7 ?_;refine OnM 8 false fun K hK=>?_
       go_simp
       refine(jX.o _).mono ?_;rintro e w5 ⟨rfl,z,rfl⟩;have aq:Below wr.heap.size wr (wr.drew.ext z):=zbm (zaH (Below.refl _ _)) z;refine NxM hK (fun hHeld=>?_) (.inr (ax.o _ aq));clear hK K;refine TkM 9 ?_;refine OnM 10 false fun K hK=>?_
       go_simp
       have aG:Below wr.heap.size wr ((wr.drew.ext z).alloc (.cells #[.string n,.int .i64 (r+q).num,.int .i64 (r+q).den] 62)):=zac aq _;have n6:((wr.drew.ext z).alloc (.cells #[.string n,.int .i64 (r+q).num,.int .i64 (r+q).den] 62)).heap[(wr.drew.ext z).heap.size]?=some (.cells #[.string n,.int .i64 (r+q).num,.int .i64 (r+q).den] 62):=zas _ _ _ rfl;refine NxM hK (fun hHeld=>?_) (.inr (ax.o _ aG));clear hK K;refine OnM 11 true fun K hK=>?_
       refine zal (v:=.slice VA out.length vc) (n:=out.length) (m:=1) rfl _ _ rfl zdQ zan zcd rfl (xs:=out) (ys:=[(n,r+q)]) (HO.o.keep (n:=wr.heap.size) aG) rfl rfl rfl (zda (zas _ _ _ MdI)) MdU Mc3 MdH ?_;intro v7 w7 h1 h2 h3;obtain⟨A7,c7,ja,_,_⟩:=h1.sl zan;rw[List.length_append]at ja;subst ja;have aR:Below W0.heap.size W0 w7:=Below.grown (HB.o.trans (aG.mono aE)) h2 MdH (fun j hj=>(HO.o.ge j hj).1);refine NxM hK fun hHeld=>?_
       clear hK K;refine OnM 12 true fun K hK=>?_
       go_simp
       refine NxM hK fun hHeld=>?_
       clear hK K;refine zaI Mcn ?_ _;clear hHeld;obtain⟨H7,bC⟩:=yH2 h1 aR;clear h1 h2 h3 aR;go_wp2_with fail
       go_round
       case rel=>exact⟨k+1,true,out++[(n,r+q)],am.o,rfl,by go_num,zHi (by rw[eM.o,List.append_assoc];rfl),zHi (fun h=>by cases h),zHi Mdj,H7.o,bC.o⟩
       case measure=>have:=am.o;simp only[intOf];omega
    ·have DH:Op.bytesLess nm.toList n.toList=true:=iD;rw[iD,if_pos rfl]at hx;have eM:=zHi hx;clear hx iD gR
     go_wp2_with (at_builtin
                  go_loud(refine zau (v:=.slice VA out.length vc) (n:=out.length) (m:=1) rfl _ _ rfl zdQ zan zcd rfl (xs:=out) (ys:=[(nm,r)]) (HO.o.keep (n:=wr.heap.size) Bw) rfl rfl rfl (zda (zas _ _ _ rfl)) McV Mc3 Mcr ?_)
                  intro v3 w3 h1 h2 h3;have aC:=Below.grown (B:=W0.heap.size) (a:=W0) (HB.o.trans (Below.mono (B:=wr.heap.size) (zac (Below.refl _ _) _) aE)) h2 Mcr (fun j hj=>(HO.o.ge j hj).1);obtain⟨H1,aL⟩:=yH2 h1 aC
                  clear h1 h2 h3 aC)
     go_round
     case rel=>exact⟨k+1,false,out++[(nm,r)],am.o,rfl,by go_num,zHi (by rw[eM.o,List.append_assoc];rfl),zHi (fun _=>IO.o),zHi Mdj,H1.o,aL.o⟩
     case measure=>have:=am.o;simp only[intOf];omega
   ·go_wp2_with (at_builtin
                 go_loud(refine zau (v:=.slice VA out.length vc) (n:=out.length) (m:=1) rfl _ _ rfl zdQ zan zcd rfl (xs:=out) (ys:=[(nm,r)]) (HO.o.keep (n:=wr.heap.size) Bw) rfl rfl rfl (zda (zas _ _ _ rfl)) McV Mc3 Mcr ?_)
                 intro v3 w3 h1 h2 h3;have aC:=Below.grown (B:=W0.heap.size) (a:=W0) (HB.o.trans (Below.mono (B:=wr.heap.size) (zac (Below.refl _ _) _) aE)) h2 Mcr (fun j hj=>(HO.o.ge j hj).1);obtain⟨H1,aL⟩:=yH2 h1 aC
                 clear h1 h2 h3 aC)
    go_round
    case rel=>exact⟨k+1,true,out++[(nm,r)],am.o,rfl,by go_num,zHi (by rw[av.o,List.append_assoc];rfl),zHi (fun h=>by cases h),zHi Mdj,H1.o,aL.o⟩
    case measure=>have:=am.o;simp only[intOf];omega
  ·have au:¬(k:Int)<(l.length:Int):=Mcm;have hx:=HX.o;rw[List.drop_of_length_le Mcm]at hx;clear ae hB;cases done
   ·have gR:=HD.o rfl;rw[show zmf false [] n q=za4 [] n q from rfl,given_nil gR]at hx;have av:=zHi hx;clear hx gR
    go_wp2_with (at_builtin
                 go_loud(refine zau (v:=.slice VA out.length vc) (n:=out.length) (m:=1) rfl _ _ rfl zdQ zan zcd rfl (xs:=out) (ys:=[(n,q)]) (HO.o.keep (n:=wr.heap.size) Bw) rfl rfl rfl (zda (zas _ _ _ rfl)) McV Mc3 Mcr ?_)
                 intro v3 w3 h1 h2 h3;have aC:=Below.grown (B:=W0.heap.size) (a:=W0) (HB.o.trans (Below.mono (B:=wr.heap.size) (zac (Below.refl _ _) _) aE)) h2 Mcr (fun j hj=>(HO.o.ge j hj).1);obtain⟨H1,aL⟩:=yH2 h1 aC
                 clear h1 h2 h3 aC)
    go_ret
    exact⟨_,rfl,by rw[av.o];exact H1.o.base_le ak.o.size,ak.o.trans (aL.o.mono ak.o.size)⟩
   ·rw[show zmf true [] n q=[]from rfl,List.append_nil]at hx;have av:=zHi hx;clear hx;go_wp2_with fail
    go_ret
    exact⟨_,rfl,by rw[av.o];exact HO.o.base_le ak.o.size,ak.o.trans (HB.o.mono ak.o.size)⟩
