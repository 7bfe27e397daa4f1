/- Walks of the reference's with, renew. -/
import Derived.Test.YtjhbofabmpfniaaGreatDoorXA
import Derived.Test.YtjhbofabmpfniaaGreatDoorDM
set_option linter.unusedSimpArgs false
set_option linter.unusedVariables false
set_option maxRecDepth 100000
set_option maxHeartbeats 4000000
namespace Go.Proofs.YtjhbofabmpfniaaGreatDoor
open Go.RowKit Go.Shelf
attribute [local go_sem] World.cell?_alloc_mark zae za3 zam za6 zas zat zau zav zaw zax zay
attribute [local go_sem] zaj zac
theorem zc7 {n:Nat} {q:Rat} (h0:0<n) (h1:n<=1000000000) (h:IsN n q) (h2:0<=q) (h3:q<=1):zaI q:=zcc h2 h3 (by
 have:=zkn h0 h;unfold bigQ;simp
 omega)
theorem wrap_m {k:Nat} (h:k<=1000):wrap64 ((k:Int)-1)=(k:Int)-1:=by
 unfold wrap64;omega
def zgg (wd:List Deed) (n:ByteArray):List RPart:=((wd.reverse.find? fun d=>zaf d.frm n).map (·.to)).getD []
theorem zje {s:St} {wd rd:List Deed} (h:StLink s wd rd) (n:ByteArray):zbs s n=zap (zgg wd n):=by
 unfold zbs zgg;rw[h.wills,<-List.map_reverse,List.find?_map];have e:((fun w:ByteArray×Parts=>zaf w.1 n)∘fun d:Deed=>(d.frm,zap d.to))=fun d:Deed=>zaf d.frm n:=rfl
 rw[e];cases wd.reverse.find? fun d=>zaf d.frm n<;>rfl
theorem zpf {wd:List Deed} {n:ByteArray} {k:Nat} (h:k<wd.length):zgg (wd.take (k+1)) n=if zaf wd[k].frm n then wd[k].to else zgg (wd.take k) n:=by
 unfold zgg;rw[List.take_add_one,List.getElem?_eq_getElem h];simp only[Option.toList_some,List.reverse_append,List.reverse_singleton,List.singleton_append,List.find?_cons];cases zaf wd[k].frm n<;>rfl
theorem own_key {law:Law} {out:Parts} {rest:Rat} (sp:ByteArray) (hl:za9 16 law.num law.den=true) (g1:GoodParts out) (g2: ∀p∈out,IsN 720720 p.2) (g3:IsN 720720 rest) (g4:0<=rest) (g5:rest<=1):
 0<=rest*Rat.divInt law.num law.den/\rest*Rat.divInt law.num law.den<=rest/\GoodParts (za4 out sp (rest*Rat.divInt law.num law.den))/\zaF (za4 out sp (rest*Rat.divInt law.num law.den))=false/\
  zaI (rest*Rat.divInt law.num law.den)/\zaI (rest-rest*Rat.divInt law.num law.den):=by
 obtain⟨_,_,l1,l2⟩:=zbj hl;have hd:za9 16 law.num law.den=true:=hl;have h1:0<=rest*Rat.divInt law.num law.den:=Rat.mul_nonneg g4 l1;have h2:rest*Rat.divInt law.num law.den<=rest:=by
  have:=Rat.mul_le_mul_of_nonneg_left l2 g4;grind
 have gZ: ∃d:Nat,0<d/\d<=16/\IsN d (Rat.divInt law.num law.den):=by
  exact M9
 obtain⟨d,d0,d1,CQ⟩:=gZ;have hN:=zkl g3 CQ;exact⟨h1,h2,zbv h1 g1,zc4 (n:=720720*d) Mcn Mcn (zcF hN fun p hp=>zle (g2 p hp)),zc7 (n:=720720*d) Mcn Mcn hN h1 McP,zc7 (n:=720720*d) Mcn Mcn (zgX (zle g3) hN) McP McP⟩
structure WillSt (out:Parts) (rest:Rat) (l:Parts) (L:List ByteArray):Prop where
 good:GoodParts out
 isN: ∀p∈out,IsN 720720 p.2
 rN:IsN 720720 rest
 names:zci out L
 sum:sumQ out+rest=1
 left:sumQ l<=rest
 pos: ∀p∈l,0<p.2
 lN: ∀p∈l,IsN 720720 p.2
theorem WillSt.bounds {out:Parts} {rest:Rat} {l:Parts} {L:List ByteArray} (h:WillSt out rest l L):0<=rest/\rest<=1/\0<=sumQ out/\sumQ out<=1/\zaI rest/\zaF out=false:=by
 have h1:0<=sumQ l:=zbp fun p hp=>by have:=h.pos p hp;grind
 have h2:0<=sumQ out:=zbp fun p hp=>by have:=h.good.pos p hp;grind
 have h3:=h.left;have h4:=h.sum;have h5:0<=rest:=McP;have h6:rest<=1:=McP;exact⟨h5,h6,h2,by grind,zc7 Mcp Mcp h.rN h5 h6,zc4 Mcp Mcp h.isN⟩
theorem WillSt.hd {out:Parts} {rest:Rat} {l:Parts} {L:List ByteArray} (h:WillSt out rest l L):Hd out L:=⟨h.good,h.bounds.2.2.2.2.2,h.names⟩
theorem WillSt.give {out:Parts} {rest:Rat} {n:ByteArray} {q:Rat} {l:Parts} {L:List ByteArray} (h:WillSt out rest ((n,q)::l) L) (hn:n∈L):WillSt (za4 out n q) (rest-q) l L:=by
 have hq:=h.pos (n,q) Mcq;have hN:=h.lN (n,q) Mcq;have hs:=h.left;rw[sumQ]at hs;simp only at hq hN hs;exact⟨zbv McP h.good,zcF hN h.isN,zgX h.rN hN,zjc h.names hn,by rw[zbZ];have:=h.sum;grind,by grind,fun p hp=>h.pos p Mdo,fun p hp=>h.lN p Mdo⟩
theorem WillSt.skip {out:Parts} {rest:Rat} {x:ByteArray×Rat} {l:Parts} {L:List ByteArray} (h:WillSt out rest (x::l) L):WillSt out rest l L:=by
 have hq:=h.pos x Mcq;have hs:=h.left;rw[sumQ]at hs;exact⟨h.good,h.isN,h.rN,h.names,h.sum,by grind,fun p hp=>h.pos p Mdo,fun p hp=>h.lN p Mdo⟩
def zkR (w:World) (R:Option Parts) (e:Ending) (w':World):Prop:=
 ∃(A:Option Addr) (c:Nat) (xs:Parts) (b:Bool),e= .returned (.tuple #[.slice A xs.length c, .bool b])/\Sl w' 3 zaa A xs/\Below w.heap.size w w'/\xs.length<=100000/\((R=some xs/\b=false)\/(R=none/\b=true))
theorem zny (laws:List Law) (s:St) (wd rd:List Deed) (LA CA MA DA WA RA GA:Option Addr) (c0 c1 c2 c3 c4 c5 c6:Nat) (n:ByteArray) (day:Int) (w:World) (h:StIn w laws s wd rd LA CA MA DA WA RA GA c0 c1 c2 c3 c4 c5 c6) (hk:StLink s wd rd) (hf:StFew s wd rd) (aU:za8 laws=0) (hW:WillOk (zbs s n)) (pw: ∀a,¬Desc s a a) (bS:(zbs s n).length<=8):
 Calls Tryz.prog 33 #[.agg #[.slice LA laws.length c0, .slice CA s.children.length c1, .slice MA s.marriages.length c2, .slice DA s.dead.length c3, .slice WA wd.length c4, .slice RA rd.length c5, .slice GA s.graves.length c6], .string n, .int .i64 day] w (zkR w (zct s (zaY laws day) n)):=by
 have xh:laws.length<=10:=by
  unfold za8 at aU;split at aU
  ·cases aU
  ·rename_i h1;simpa using h1
 have qA:=zHi (fun W (hB:Below w.heap.size w W)=>zoY laws LA c0 day W xh (h.laws.keep hB));have bO:=zes aU day;obtain⟨R,hR⟩: ∃R,R=zct s (zaY laws day) n:=⟨_,rfl⟩
 rw[<-hR];unfold Law.v at qA;generalize zaY laws day=law at*;obtain⟨L,hL⟩: ∃L:List ByteArray,L=(zgg wd n).map (·.name)++s.children.map (·.2)++[zaJ s n,⟨#[]⟩]:=⟨_,rfl⟩
 have Fd: ∀p∈zgg wd n,p.name∈L:=fun p hp=>by rw[hL];exact List.mem_append_left _ (List.mem_append_left _ (List.mem_map_of_mem hp))
 have Fa: ∀c∈s.children,c.2∈L:=fun c hc=>by rw[hL];exact List.mem_append_left _ (List.mem_append_right _ (List.mem_map_of_mem hc))
 have Fc:zaJ s n∈L:=by rw[hL];exact List.mem_append_right _ Mcq
 have vG:(⟨#[]⟩:ByteArray)∈L:=by rw[hL];exact List.mem_append_right _ Mcq
 have xt:(zgg wd n).length<=8:=by
  have:=bS;rw[zje hk]at this;simpa[zap]using this
 have tw:L.length<=90000:=by
  rw[hL];have:=hf.kids;simp;omega
 have xq: ∀p∈zgg wd n,za9 16 p.num p.den=true:=by
  unfold zgg;intro p hp;cases ow:wd.reverse.find? fun d=>zaf d.frm n with
  |none=>rw[ow]at hp;simp at hp
  |some d=>
   rw[ow]at hp;exact hk.shares d (by have:=List.mem_of_find?_eq_some ow;simpa using this) p hp
 have cU:=zHi (fun W (hB:Below w.heap.size w W)=>zhn laws s wd rd LA CA MA DA WA RA GA c0 c1 c2 c3 c4 c5 c6 law n hk hf (zaW s) n W (h.keep hB) (zk9 pw n));have qH:=zHi (fun share A c out W (hB:Below w.heap.size w W)=>zjd laws s wd rd LA CA MA DA WA RA GA c0 c1 c2 c3 c4 c5 c6 law n L hk hf Fa tw (zaW s) n share A c out W (h.keep hB) (zk9 pw n));have fD:=zHi (fun x W (hB:Below w.heap.size w W)=>sAble x n W (h.keep hB) hk hf);have jh:=zHi (fun W (hB:Below w.heap.size w W)=>sSpouse n W (h.keep hB) hf);have qO:=zHi (fun W (hB:Below w.heap.size w W)=>h.wills.keep zbM hB);have fg:=zgL s law.stems n (zaW s) n;rw[zje hk]at hW;have BI:Hid (WillSt [] 1 (zap (zgg wd n)) L):=zHi ⟨zd7,by simp,zgY _,fun p hp=>by(cases hp),by simp[sumQ];grind,hW.le,hW.pos,hW.isN⟩;unfold zct at hR;rw[zje hk]at hR;obtain⟨Z,hZ⟩: ∃Z,Z=zcp s n (zap (zgg wd n)) [] 1:=⟨_,rfl⟩
 rw[<-hZ]at hR;have HZ:=zHi hZ;have HR:=zHi hR;have B8:=zHi xq;have cM:=zHi Fd;have jg:=zHi bO;have eE:=zHi (show LA=LA/\zaJ s n∈L/\(⟨#[]⟩:ByteArray)∈L/\L.length<=90000 from⟨rfl,Fc,vG,tw⟩);have nY:=zHi xt;have lH:=zHi fg;have qt:=zHi hf.wills;unfold Law.v at cU qH;unfold zaB at qH;unfold zkR;clear aU hW pw bS xh bO hR hL Fd Fa Fc vG xt tw xq fg hZ h hf hk;generalize zd4 s law.stems n (zaW s) n=ls at*;generalize zb5 s law.stems n (zaW s) n=T at*;generalize oE:zgg wd n=lw at*;have B7:=zHi oE.symm;clear oE;go_enter Tryz.func33,Tryz.ntmps33
 go_upto_block 0 with(first
  |(go_at_call 84;go_must(refine(qA.o _ Bw).mono ?_);rintro e wq ⟨rfl,z1,rfl⟩)
  |(go_at_call 85;go_must(refine(zhS _).mono ?_);rintro e wq ⟨rfl,z2,rfl⟩))
 obtain⟨LB,tu⟩: ∃LB,LB=w.heap.size+1+z1.os.size:=⟨_,rfl⟩
 obtain⟨QB,rl⟩: ∃QB,QB=LB+1+z2.os.size:=⟨_,rfl⟩
 obtain⟨W2,cF⟩: ∃W2,W2=((((w.alloc (.cells #[.slice LA laws.length c0, .slice CA s.children.length c1, .slice MA s.marriages.length c2, .slice DA s.dead.length c3, .slice WA wd.length c4, .slice RA rd.length c5, .slice GA s.graves.length c6] 36)).ext z1).alloc (.cells #[.int .i64 law.frm, .bool law.stems, .int .i64 law.num, .int .i64 law.den] 130)).ext z2).alloc (.cells #[.int .i64 1, .int .i64 1] 71):=⟨_,rfl⟩
 have g0:W2.heap[w.heap.size]?=some (.cells #[.slice LA laws.length c0, .slice CA s.children.length c1, .slice MA s.marriages.length c2, .slice DA s.dead.length c3, .slice WA wd.length c4, .slice RA rd.length c5, .slice GA s.graves.length c6] 36):=by rw[cF];exact zal (zb2 (zal (zb2 (zar _ _ _ rfl))))
 have g1:W2.heap[LB]?=some (.cells #[.int .i64 law.frm, .bool law.stems, .int .i64 law.num, .int .i64 law.den] 130):=by rw[cF];exact zal (zb2 (zar _ _ _ (by rw[tu];simp[zae])))
 have g2:W2.heap[QB]?=some (.cells #[.int .i64 ((1:Rat)).num, .int .i64 ((1:Rat)).den] 71):=by rw[cF];exact zar _ _ _ (by rw[rl,tu];simp[zae])
 have bB:Below w.heap.size w W2:=by rw[cF];exact Bw
 rw[<-cF,<-tu,<-rl];have gK:w.heap.size<LB:=Mcn;have cZ:LB<QB:=Mcn;have gN:=zab g2;have aB:=zHi bB;have fN:=zHi g2
 have ax:=zHi (fun W (hB:Below QB W2 W)=>(show(W.cell? ⟨w.heap.size,0,none⟩=some (.slice LA laws.length c0)/\W.cell? ⟨w.heap.size,1,none⟩=some (.slice CA s.children.length c1)/\W.cell? ⟨w.heap.size,2,none⟩=some (.slice MA s.marriages.length c2)/\W.cell? ⟨w.heap.size,3,none⟩=some (.slice DA s.dead.length c3)/\W.cell? ⟨w.heap.size,4,none⟩=some (.slice WA wd.length c4)/\W.cell? ⟨w.heap.size,5,none⟩=some (.slice RA rd.length c5)/\W.cell? ⟨w.heap.size,6,none⟩=some (.slice GA s.graves.length c6))/\(W.cell? ⟨LB,0,none⟩=some (.int .i64 law.frm)/\W.cell? ⟨LB,1,none⟩=some (.bool law.stems)/\W.cell? ⟨LB,2,none⟩=some (.int .i64 law.num)/\W.cell? ⟨LB,3,none⟩=some (.int .i64 law.den)) from by
  have x0:=(hB.block _ Mcn).trans g0;have x1:=(hB.block _ cZ).trans g1
  refine⟨zaG x0,?_,?_,?_,?_⟩<;>(simp only[World.cell?,x1];rfl)))
 clear cF tu rl g0 g1 g2 bB qA;obtain⟨⟨d0,d1,d2,d3,d4,d5,d6⟩,e0,e1,e2,e3⟩:=ax.o W2 (Below.refl _ _);have rX:=qt.o;go_cut [10,11,12,13]from 25 to 71 (fun v10 _ _ _ wc=> ∃(YA:Option Addr) (yc:Nat) (ys:Parts) (q:Rat),v10= .slice YA ys.length yc/\Hid (Z=(ys,q))/\Hid (WillSt ys q [] L)/\Sl wc 3 zaa YA ys/\wc.heap[QB]?=some (.cells #[.int .i64 (q).num, .int .i64 (q).den] 71)/\Below QB W2 wc)
 case first=>
  go_wp2_with fail
  go_loopw [10,11,12,13] (fun v10 v11 _ _ wr=> ∃(j:Nat) (i:Int),j<=wd.length/\v10= .slice none 0 0/\v11= .int .i64 i/\i=(j:Int)-1/\Hid (lw=zgg (wd.take j) n)/\W2=wr) (fun _ v11 _ _ _=>(intOf v11+1).toNat)
  case atStart=>exact⟨wd.length,(wd.length:Int)-1,Nat.le_refl _,rfl,by first|go_num|rw[wrap_m rX],rfl,zHi (by rw[List.take_length];exact B7.o),rfl⟩
  case round=>
   obtain⟨j,i,hj,rfl,rfl,hi,HJ,rfl⟩:=hrel;cases j with
   |zero=>
    have tM:i= -1:=Mcn;subst tM;have sm:lw=[]:=by rw[HJ.o,List.take_zero];rfl
    have BP:Hid (Z=([],1)):=by show _=_;rw[HZ.o,sm];rfl
    have IJ:Hid (WillSt [] 1 [] L):=by have:=BI;rw[sm]at this;exact this
    clear sm hi;go_wp2_with fail
    go_meet
    exact⟨none,0,[],1,rfl,BP,IJ,Sl.nil,fN.o,Below.refl _ _⟩
   |succ m=>
    have tM:i=(m:Int):=Mcn;subst tM;obtain⟨b,off,cs,hA,hb,⟨B,c,hc,rfl,hP⟩,ah⟩:=(qO.o w (Below.refl _ _)).at (k:=m) hj;have aj:=HJ.o;rw[zpf hj]at aj;generalize wd[m]=x at*;subst hA;have aZ:b<W2.heap.size:=Nat.lt_of_lt_of_le hb aB.o.size;have i3:W2.cell? ⟨b,off+m*7+3,none⟩=some (.string x.frm):=(zah aB.o hb).trans (ah 3 _ rfl);have i4:w.cell? ⟨b,off+m*7+4,none⟩=some (.slice B x.to.length c):=ah 4 _ rfl;have fK:(m:Int)<(wd.length:Int):=Mcn;have nD:(0:Int)<=(m:Int):=Mcn;have Ie:=zHi hj;have HP:=zHi hP;obtain⟨kd,dy,pl,fr,ts,cl,yr⟩:=x;simp only at i3 i4 hc aj HP;clear ah hi hj hP;cases hs:zaf fr n
    ·have bp:(fr.toList==n.toList)=false:=hs;have aD:Hid (lw=zgg (wd.take m) n):=by show _=_;rw[aj,hs];rfl
     clear aj hs;go_wp2_with fail
     go_round
     case rel=>exact⟨m,(m:Int)-1,by have:=Ie.o;omega,rfl,by go_num,rfl,aD,by first|exact True.intro|rfl⟩
     case measure=>simp only[intOf];omega
    ·have bp:(fr.toList==n.toList)=true:=hs;have Dp:ts=lw:=by rw[aj,hs];rfl
     clear aj hs;subst Dp;have hts:ts.length<=8:=nY.o;go_upto_region 9 with fail
     go_loopw [10,12,13] (fun v10 v12 _ wr=> ∃(k:Nat) (ys:Parts) (q:Rat),k<=ts.length/\v12= .int .i64 k/\Hid (Z=zcp s n (zap (ts.drop k)) ys q)/\Hid (WillSt ys q (zap (ts.drop k)) L)/\OwnS wr QB 75 3 zaa v10 ys/\wr.heap[QB]?=some (.cells #[.int .i64 (q).num, .int .i64 (q).den] 71)/\Below QB W2 wr) (fun _ v12 _ _=>ts.length-(intOf v12).toNat)
     case atStart=>exact⟨0,[],1,Nat.zero_le _,rfl,HZ,BI,OwnS.nil,fN.o,Below.refl _ _⟩
     case round=>
      obtain⟨k,ys,q,hk,rfl,HX,EG,ae,hQ,hB⟩:=hrel;obtain⟨YA,yc,rfl,rD,ud⟩:=ae.sl zao;have fu:Below w.heap.size w wr:=aB.o.trans (hB.mono Mcn);have aE:=fu.size;have Gp:=zab hQ;obtain⟨⟨d0,d1,d2,d3,d4,d5,d6⟩,e0,e1,e2,e3⟩:=ax.o wr hB;have j4:wr.cell? ⟨b,off+m*7+4,none⟩=some (.slice B ts.length c):=(zah fu hb).trans i4;have aW:=zHi fu;have HB:=zHi hB;have dJ:=zHi ae;by_cases aa:k<ts.length
      ·obtain⟨pb,po,lV,hpb,oJ⟩:=(HP.o.keep fu).at aa;have hx:=HX.o;have kF:=EG.o;have gD:zap (ts.drop k)=(ts[k].name,ts[k].rat)::zap (ts.drop (k+1)):=by rw[List.drop_eq_getElem_cons aa];rfl
       rw[gD,zcp]at hx;rw[gD]at kF;have kC:=B8.o _ (List.getElem_mem aa);have oH:=cM.o _ (List.getElem_mem aa);have am:=zHi aa;generalize ts[k]=x at*;obtain⟨nm,nu,de⟩:=x;simp only at kC oH hx kF;subst lV;have p0:wr.cell? ⟨pb,po+k*3,none⟩=some (.string nm):=oJ 0 _ rfl;have p1:wr.cell? ⟨pb,po+k*3+1,none⟩=some (.int .i64 nu):=oJ 1 _ rfl;have p2:wr.cell? ⟨pb,po+k*3+2,none⟩=some (.int .i64 de):=oJ 2 _ rfl;have ar:(k:Int)<(ts.length:Int):=Mcn;have aT:(0:Int)<=(k:Int):=Mcn;have mO:(⟨nm,nu,de⟩:RPart).rat=Rat.divInt nu de:=rfl;rw[mO]at hx kF;obtain⟨r1,r2,r3,r4⟩:=zbj kC;have Am:=zc7 Mcp Mcp (zep kC) r3 r4;obtain⟨b1,b2,b3,b4,b5,b6⟩:=kF.bounds;generalize Rat.divInt nu de=r at*;have eJ:=zgN kF.good kF.names;have eD:=zHi (fun W (hW:Below wr.heap.size wr W)=>zcS ys nm r YA yc W (by have:=eE.o.2.2.2;omega) (kF.hd.parts b4) Am (rD.keep hW));have eP:=zHi (fun W=>zhQ q r W b5 Am);unfold zaB at eD eP;rw[r1,r2]at eD eP;have kG:=zHi (fun W (hW:Below wr.heap.size wr W)=>fD.o nm W (aW.o.trans (hW.mono aE)));have av:=zHi hx;have nZ:=zHi kF;have Bj:=zHi oH;have hqB:QB<wr.heap.size:=Gp;have HQ:=zHi hQ;clear oJ hx kF gD kC oH mO r1 r2 r3 r4 Am b1 b2 b3 b4 b5 b6 eJ ae rD hB fu aa hQ;go_upto_region 12 with fail
       obtain⟨WP,zK⟩: ∃WP,WP=wr.alloc (.cells #[.string nm, .int .i64 nu, .int .i64 de] 75):=⟨_,rfl⟩
       have gP:WP.heap[wr.heap.size]?=some (.cells #[.string nm, .int .i64 nu, .int .i64 de] 75):=by rw[zK];exact zar _ _ _ rfl
       have vp:Below wr.heap.size wr WP:=by rw[zK];exact Bw
       rw[<-zK];have sN:=zHi vp;have eA:=vp.size;have pT:=zab gP;obtain⟨s0,s1,s2⟩:WP.cell? ⟨wr.heap.size,0,none⟩=some (.string nm)/\WP.cell? ⟨wr.heap.size,1,none⟩=some (.int .i64 nu)/\WP.cell? ⟨wr.heap.size,2,none⟩=some (.int .i64 de):=by
        simp only[World.cell?,gP];exact⟨rfl,rfl,rfl⟩
       obtain⟨⟨x0,x1,x2,x3,x4,x5,x6⟩,_⟩:=ax.o WP (HB.o.trans (vp.mono Mcn));have hqW:QB<WP.heap.size:=Mcn;have GQ:=zHi ((vp.block _ Gp).trans HQ.o);have GP:=zHi gP;clear zK gP vp d0 d1 d2 d3 d4 d5 d6 e0 e1 e2 e3 j4 p0 p1 p2;cases cG:zdZ s nm n
       ·rw[cG]at kG av;have eS:Hid (Z=zcp s n (zap (ts.drop (k+1))) ys q):=MdH;clear cG;go_wp2_with (go_at_call 86;go_must(refine(kG.o _ (by have:=sN.o;exact Bw)).mono ?_);rintro e wq ⟨rfl,z,rfl⟩)
        go_round
        case rel=>exact⟨k+1,ys,q,am.o,by go_num,eS,zHi nZ.o.skip,(dJ.o.keep sN.o).keep (n:=WP.heap.size) (zaq WP z),zb2 GQ.o,zb6 (HB.o.trans (sN.o.mono Mcn)) z⟩
        case measure=>have:=am.o;simp only[intOf];omega
       ·rw[cG]at kG av;have eS:Hid (Z=zcp s n (zap (ts.drop (k+1))) (za4 ys nm r) (q-r)):=MdH;have BJ:=zHi (nZ.o.give Bj.o);clear cG
        go_upto_region 14 with(first
         |(go_at_call 86;go_must(refine(kG.o _ (by have:=sN.o;exact Bw)).mono ?_);rintro e wq ⟨rfl,z,rfl⟩)
         |(go_at_call 87;go_must(refine(eD.o _ (by have:=sN.o;exact Bw)).mono ?_);rintro e w5 ⟨v5,rfl,o5,b5⟩))
        obtain⟨YB,yd,rfl,_,_⟩:=o5.sl zao;have Ap:=b5.size;have ti:=(b5.block QB Mcw).trans (zb2 (z:=z) GQ.o);have BR:=(b5.block wr.heap.size Mcw).trans (zb2 (z:=z) GP.o);have bi:=zHi (HB.o.trans ((zb6 sN.o z |>.trans (b5.mono Mcw)).mono Mcn));have kM:=zHi (o5.base_le (show QB<=(WP.ext z).heap.size by simp[zae];omega));have h5l:=zab BR;have h5m:=zab ti;obtain⟨y0,y1⟩:=zbu ti;have f0:=frz ti;obtain⟨-,s1,s2⟩:=cF3 BR;clear o5 b5 BR Ap;go_wp2_with (go_at_call 39;go_must(refine(eP.o _).mono ?_);rintro e wq ⟨rfl,z5,rfl⟩)
        go_round
        case rel=>exact⟨k+1,za4 ys nm r,q-r,am.o,by go_num,eS,BJ,((kM.o.kept (zaz _ _ _ _) ti Mcp).kept (zaz _ _ _ _) (Joins.block_setCell (i:=0) ti _) Mcp).keep (zaq _ z5),zb2 (zer ti),zb6 (zaM (zaM bi.o (Nat.le_refl _) _) (Nat.le_refl _) _) z5⟩
        case measure=>have:=am.o;simp only[intOf];omega
      ·have ar: ¬(k:Int)<(ts.length:Int):=Mcn;have hx:=HX.o;have kF:=EG.o;rw[List.drop_of_length_le Mcn]at hx kF;have av:Hid (Z=(ys,q)):=Md7;have nZ:=zHi kF;have qS:=zHi rD;have HQ:=zHi hQ;clear hx kF ae rD hQ hB fu;go_wp2_with fail
       go_meet
       exact⟨YA,yc,ys,q,rfl,av,nZ,qS.o,HQ.o,HB.o⟩
 case rest=>
  obtain⟨YA,yc,ys,q,rfl,IR,lR,hY,hQ,hB⟩:=hcut;clear d0 d1 d2 d3 d4 d5 d6 e0 e1 e2 e3;have hr:=HR.o;rw[IR.o]at hr;simp only at hr;obtain⟨b1,b2,b3,b4,b5,b6⟩:=lR.o.bounds;have oU:=zgN lR.o.good lR.o.names;have sL:ys.length<=90000:=by have:=eE.o.2.2.2;omega
  have fu:Below w.heap.size w wc:=aB.o.trans (hB.mono Mcn);obtain⟨q0,q1⟩:=zbu hQ;have Dx:=zab hQ;have Fx:=zHi hY;have ko:=zHi sL;have aW:=zHi fu;by_cases hqz:q=0
  ·have Dy:(q.num==0)=true:=by rw[hqz];rfl
   have bz:Hid (R=some ys):=by show _=_;rw[hr,if_pos (by simpa using hqz)]
   clear hr hqz b1 b2 b3 b4 b5 b6 oU sL hB hY fu;go_wp2_with fail
   go_ret2
   exact⟨YA,yc,ys,false,rfl,Fx.o,aW.o,by have:=ko.o;omega, .inl ⟨bz.o,rfl⟩⟩
  ·have Dy:(q.num==0)=false:=by
    have:q.num≠0:=fun e=>hqz (Rat.num_eq_zero.1 e)
    simpa using this
   rw[if_neg (by simpa using hqz)]at hr;obtain⟨sp,cn⟩: ∃sp,sp=if zdZ s (zaJ s n) n then zaJ s n else⟨#[]⟩:=⟨_,rfl⟩
   rw[<-cn]at hr;have yj:sp∈L:=by
    rw[cn];split
    ·exact eE.o.2.1
    ·exact eE.o.2.2.1
   have qV:=zHi hB;have aA:=zHi (show 0<=q/\q<=1/\zaI q from⟨b1,b2,b5⟩);have br:=zHi hr;have BB:=zHi yj;have BA:=zHi cn;have bX:=zHi (fun W (hW:Below wc.heap.size wc W)=>jh.o W (fu.trans (hW.mono fu.size)));have kG:=zHi (fun x W (hW:Below wc.heap.size wc W)=>fD.o x W (fu.trans (hW.mono fu.size)));obtain⟨⟨d0,d1,d2,d3,d4,d5,d6⟩,e0,e1,e2,e3⟩:=ax.o wc hB;have L8:w.heap.size<wc.heap.size:=Mcn;have L9:LB<wc.heap.size:=Mcn;have HQ:=zHi hQ;clear hr hqz b1 b2 b3 b4 b5 b6 oU sL hB hY fu cn yj hQ;obtain⟨WC,tD⟩: ∃WC,WC=wc:=⟨_,rfl⟩
   subst tD;go_upto_region 18 with(go_at_call 48;go_must(refine(bX.o _ Bw).mono ?_);rintro e wq ⟨rfl,z3,rfl⟩)
   have kD:=BA.o;have DY:=zHi (fun W hW=>kG.o (zaJ s n) W hW);generalize zaJ s n=sq at*;go_upto_if 83 with(go_at_call 86;go_must(refine(DY.o _ Bw).mono ?_);rintro e wq ⟨rfl,z4,rfl⟩)
   go_cut [14]from 79 to 84 (fun v wc=>v= .string sp/\(WC.ext z3).ext z4=wc)
   case first=>
    cases cG:zdZ s sq n
    ·rw[cG]at kD;simp only[Bool.false_eq_true,if_false]at kD;exact Mby
    ·rw[cG]at kD;simp only[if_true]at kD;exact Mby
   case rest=>
    obtain⟨rfl,rfl⟩:=hcut;obtain⟨WD,Ct⟩: ∃WD,WD=(WC.ext z3).ext z4:=⟨_,rfl⟩
    have dg:Below WC.heap.size WC WD:=by rw[Ct];exact Bw
    rw[<-Ct];clear Ct d0 d1 d2 d3 d4 d5 d6 e0 e1 e2 e3 q0 q1 kD DY bX kG;have JL:=dg.size;have gQ:=(dg.block QB Dx).trans HQ.o;have cw:=qV.o.trans (dg.mono Mcn);have aZ:=aW.o.trans (dg.mono aW.o.size);obtain⟨⟨d0,d1,d2,d3,d4,d5,d6⟩,e0,e1,e2,e3⟩:=ax.o WD cw;obtain⟨q0,q1⟩:=zbu gQ;have Gl:=zab gQ;have lI:=zHi (fun W (hW:Below WD.heap.size WD W)=>cU.o W (aZ.trans (hW.mono aZ.size)));have EK:=zHi (Fx.o.keep dg);have da:=zHi cw;have qO:=zHi aZ;have kO:=zHi (lR.o.hd.parts lR.o.bounds.2.2.2.1);have GQ:=zHi gQ;clear dg gQ cw aZ;by_cases hlz:ls.length=0
    ·have eJ:((ls.length:Int)==0)=true:=by rw[hlz];rfl
     have bz:Hid (R=some (za4 ys sp q)):=by
      show _=_;have hT:T=[]:=List.eq_nil_of_length_eq_zero (by rw[lH.o];exact hlz);rw[br.o,hT];rfl
     have eD:=zHi (fun W (hW:Below WD.heap.size WD W)=>zcS ys sp q YA yc W (by have:=ko.o;omega) kO.o aA.o.2.2 (EK.o.keep hW));have qv:=zHi (zcz sp q ys);generalize za4 ys sp q=gv at*;unfold zaB at eD;clear hlz;go_upto_region 21 with(go_at_call 88;go_must(refine(lI.o _ Bw).mono ?_);rintro e w6 ⟨v6,rfl,o6,b6⟩;obtain⟨KA,kc,rfl,_,_⟩:=o6.sl zaD;clear o6)
     have lU:=b6.size;have sz:=(b6.block QB Gl).trans GQ.o;obtain⟨x0,x1⟩:=zbu sz;have bV:=zHi b6;clear d0 d1 d2 d3 d4 d5 d6 e0 e1 e2 e3 q0 q1 sz b6;go_wp2_with (go_at_call 87;go_must(refine(eD.o _ bV.o).mono ?_);rintro e w7 ⟨v7,rfl,o7,b7⟩;obtain⟨GV,gc,rfl,aK,_⟩:=o7.sl zao;have dE:=zHi aK;have bT:=zHi (bV.o.trans (b7.mono lU));clear o7 b7 aK)
     go_ret2
     exact⟨GV,gc,gv,false,rfl,dE.o,qO.o.trans (bT.o.mono qO.o.size),by have:=ko.o;have:=qv.o;omega, .inl ⟨bz.o,rfl⟩⟩
    ·have eJ:((ls.length:Int)==0)=false:=by
      have:(ls.length:Int)≠0:=by omega
      simpa using this
     have hT: ¬T.isEmpty=true:=by
      intro e;rw[List.isEmpty_iff]at e;have:=lH.o;rw[e]at this;exact hlz this.symm
     obtain⟨own,out2,ae,cm,xR⟩: ∃(own:Rat) (out2:Parts),own=(if noB sp=true then 0 else q*Rat.divInt law.num law.den)/\out2=(if noB sp=true then ys else za4 ys sp own)/\R=if(q-own==0)=true then some out2 else zeN (q-own) T out2:=
      ⟨_,_,rfl,rfl,by
        rw[br.o,if_neg hT];unfold zeN
        rw[<-zh5]⟩
     obtain⟨k1,k2,k3,k4,k5,k6⟩:=own_key sp jg.o lR.o.good lR.o.isN lR.o.rN aA.o.1 aA.o.2.1
     have AT:Hid (Hd out2 L/\0<=q-own/\q-own<=1/\zaI (q-own)/\sumQ out2+(q-own)=1/\out2.length<=90001):=zHi (by
      have dR:=lR.o.sum;cases hn:noB sp
      ·rw[hn]at ae cm;simp only[Bool.false_eq_true,if_false]at ae cm;rw[cm,ae];refine⟨⟨k3,k4,zjc lR.o.names BB.o⟩,by grind,by have:=aA.o.2.1;grind,k6,by rw[zbZ];grind,?_⟩;have:=zcz sp (q*Rat.divInt law.num law.den) ys;have:=ko.o;omega
      ·rw[hn]at ae cm;simp only[if_true]at ae cm;rw[cm,ae];have e:q-0=q:=McP;rw[e]
       exact⟨lR.o.hd,aA.o.1,aA.o.2.1,aA.o.2.2,dR,by have:=ko.o;omega⟩)
     have lP:=zHi xR;have dJ:=zHi ae;have Em:=zHi cm;have uF:=zHi (show 0<ls.length/\zaI (q*Rat.divInt law.num law.den) from⟨by omega,k5⟩);clear hlz hT ae cm xR k1 k2 k3 k4 k5 k6;go_upto_region 22 with(go_at_call 88;go_must(refine(lI.o _ Bw).mono ?_);rintro e w6 ⟨v6,rfl,o6,b6⟩;obtain⟨KA,kc,rfl,_,_⟩:=o6.sl zaD;clear o6)
     have lU:=b6.size;have sz:=(b6.block QB Gl).trans GQ.o;have rO:=da.o.trans (b6.mono Mcn);have Fy:=EK.o.keep b6;clear d0 d1 d2 d3 d4 d5 d6 e0 e1 e2 e3 q0 q1;have bV:=zHi rO;have Eo:=zHi sz;have EJ:=zHi Fy;have IW:=zab sz;obtain⟨⟨d0,d1,d2,d3,d4,d5,d6⟩,e0,e1,e2,e3⟩:=ax.o w6 rO;obtain⟨q0,q1⟩:=zbu sz;have h6l:LB<w6.heap.size:=Mcn;clear b6 sz rO Fy;go_upto_if 96 with fail
     go_cut [10,15]from 95 to 107 (fun v10 _ wc=> ∃(ZA:Option Addr) (zc:Nat),v10= .slice ZA out2.length zc/\Sl wc 3 zaa ZA out2/\wc.heap[QB]?=some (.cells #[.int .i64 (q-own).num, .int .i64 (q-own).den] 71)/\Below QB W2 wc)
     case first=>
      cases hn:noB sp
      ·have w2: ¬sp.toList=[]:=by simpa using(show sp.toList.isEmpty=false from hn)
       have y2:sp.toList.isEmpty=false:=hn;have y3:(!sp.toList.isEmpty)=true:=by rw[y2];rfl
       rw[y3];have ae:=dJ.o;have cm:=Em.o;rw[hn]at ae cm;simp only[Bool.false_eq_true,if_false]at ae cm;obtain⟨r1,r2,r3,r4⟩:=zbj jg.o;have nC:=uF.o.2;rw[<-ae]at nC;have jd:=zHi (fun W=>zg7 q (Rat.divInt law.num law.den) W aA.o.2.2 (zc7 Mcp Mcp (zep jg.o) r3 r4));have eP:=zHi (fun W=>zhQ q own W aA.o.2.2 nC);have eD:=zHi (fun W (hW:Below w6.heap.size w6 W)=>zcS ys sp own YA yc W (by have:=ko.o;omega) kO.o nC (EJ.o.keep hW));rw[<-ae]at jd;rw[<-cm]at eD;unfold zaB at jd eP eD;rw[r1,r2]at jd;clear hn ae cm r1 r2 r3 r4 nC;go_upto_region 24 with(go_at_call 40;go_must(refine(jd.o _).mono ?_);rintro e wq ⟨rfl,z6,rfl⟩)
       obtain⟨OB,gU⟩: ∃OB,OB=w6.heap.size+z6.os.size:=⟨_,rfl⟩
       obtain⟨WO,zJ⟩: ∃WO,WO=(w6.ext z6).alloc (.cells #[.int .i64 (own).num, .int .i64 (own).den] 71):=⟨_,rfl⟩
       have gO:WO.heap[OB]?=some (.cells #[.int .i64 (own).num, .int .i64 (own).den] 71):=by rw[zJ];exact zar _ _ _ (by rw[gU];simp[zae])
       have CF:Below w6.heap.size w6 WO:=by rw[zJ];exact zad (zaq w6 z6) _
       rw[<-zJ,<-gU];clear zJ gU d0 d1 d2 d3 d4 d5 d6 e0 e1 e2 e3 q0 q1;obtain⟨o0,o1⟩:=zbu gO;have Jl:=CF.size;have vM:=zab gO;have AB:=zHi CF;have GO:=zHi gO;clear gO CF;go_upto_region 25 with(go_at_call 87;go_must(refine(eD.o _ (by have:=AB.o;exact Bw)).mono ?_);rintro e w7 ⟨v7,rfl,o7,b7⟩)
       obtain⟨GV,gc,rfl,_,_⟩:=o7.sl zao;have vm:=b7.size;have tj:=(b7.block QB Mcn).trans ((AB.o.block QB IW).trans Eo.o);have BT:=(b7.block OB vM).trans GO.o;have bT:=zHi (bV.o.trans ((AB.o.trans (b7.mono Jl)).mono Mcn));have uO:=zHi (o7.base_le (show QB<=WO.heap.size by omega));have h7l:=zab BT;have h7m:=zab tj;obtain⟨y0,y1⟩:=zbu tj;obtain⟨y2,y3⟩:=zbu BT;have f0:=frz tj;clear o7 b7 BT o0 o1;go_wp2_with (go_at_call 39;go_must(refine(eP.o _).mono ?_);rintro e wq ⟨rfl,z5,rfl⟩)
       go_meet
       exact⟨GV,gc,rfl,(ziT zao (((uO.o.kept (zaz _ _ _ _) tj Mcp).kept (zaz _ _ _ _) (Joins.block_setCell (i:=0) tj _) Mcp).keep (zaq _ z5))).1,zb2 (zer tj),zb6 (zaM (zaM bT.o (Nat.le_refl _) _) (Nat.le_refl _) _) z5⟩
      ·have w2:sp.toList=[]:=by simpa using(show sp.toList.isEmpty=true from hn)
       have y2:sp.toList.isEmpty=true:=hn;have y3:(!sp.toList.isEmpty)=false:=by rw[y2];rfl
       rw[y3];have ae:=dJ.o;have cm:=Em.o;rw[hn]at ae cm;simp only[if_true]at ae cm;have AI:Hid (q-own=q/\out2=ys):=zHi ⟨by rw[ae];grind,cm⟩;clear hn ae cm;go_wp2_with fail
       go_meet
       exact⟨YA,yc,by rw[AI.o.2],by rw[AI.o.2];exact EJ.o,by rw[AI.o.1];exact Eo.o,bV.o⟩
     case rest=>
      obtain⟨ZA,zc,rfl,Cw,hQ,hB⟩:=hcut;clear d0 d1 d2 d3 d4 d5 d6 e0 e1 e2 e3 q0 q1;obtain⟨kk1,kk2,kk3,kk4,kk5,kk6⟩:=AT.o;have KR:=zab hQ;have aZ:=aB.o.trans (hB.mono Mcn);have BQ:=zHi Cw;have qf:=zHi aZ;have La:w.heap.size<wc.heap.size:=Mcn;have Lb:LB<wc.heap.size:=Mcn;obtain⟨⟨d0,d1,d2,d3,d4,d5,d6⟩,e0,e1,e2,e3⟩:=ax.o wc hB;obtain⟨q0,q1⟩:=zbu hQ;have Ii:=zHi kk6;by_cases hz:q-own=0
      ·have mV: ¬(0:Int)<(q-own).num:=by rw[hz];decide
       have bz:Hid (R=some out2):=by show _=_;rw[lP.o,if_pos Mdu]
       have cL:=zHi (fun W (hW:Below wc.heap.size wc W)=>zdI out2 ZA zc W Mcn (BQ.o.keep hW));rw[kk1.small]at cL;clear hz kk1 kk2 kk3 kk4 kk5 kk6 hB hQ Cw aZ;go_wp2_with (go_at_call 90;go_must(refine(cL.o _ Bw).mono ?_);rintro e wq ⟨rfl,rfl⟩)
       go_ret2
       exact⟨ZA,zc,out2,false,rfl,BQ.o,qf.o,by have:=Ii.o;omega, .inl ⟨bz.o,rfl⟩⟩
      ·have GN:0<q-own:=McP;have mV:(0:Int)<(q-own).num:=zkF.1 GN;have DG:R=zeN (q-own) T out2:=by rw[lP.o,if_neg Mdu]
       have bX:=zHi (fun W (hW:Below wc.heap.size wc W)=>qH.o (q-own) ZA zc out2 W (aZ.trans (hW.mono aZ.size)) (BQ.o.keep hW) kk1 kk2 kk4 McP uF.o.1)
       have yR:Hid (∀xs,R=some xs->zaF xs=false):=zHi (fun xs hx=>by
        rw[DG]at hx;unfold zeN at hx;split at hx
        ·cases hx
        ·exact(ze5 (Rat.mul_nonneg kk2 (zhP (by rw[lH.o];exact uF.o.1)).2.2.1) kk1.good kk1.small hx).2)
       rw[<-DG]at bX;clear hz GN DG kk1 kk2 kk3 kk4 kk5 kk6 hB hQ Cw aZ;go_upto_region 28 with(go_at_call 89;go_must(refine(bX.o _ Bw).mono ?_);rintro e w8 ⟨XA,xc,xs,rfl,x1,x2,x3,x4⟩)
       have cL:=zHi (fun W (hW:Below w8.heap.size w8 W)=>zdI xs XA xc W Mcn (x1.keep hW));have EI:=zHi x1;have av:=zHi (qf.o.trans (x2.mono qf.o.size));have eS:=zHi x3;have kn:=zHi x4;clear x1 x2 x3 x4 d0 d1 d2 d3 d4 d5 d6 e0 e1 e2 e3 q0 q1;cases hlg:zaF xs
       ·rw[hlg]at cL;go_wp2_with (go_at_call 90;go_must(refine(cL.o _ (Below.refl _ _)).mono ?_);rintro e wq ⟨rfl,rfl⟩)
        go_ret2
        rcases kn.o with h|⟨h1,h2⟩
        ·exact⟨XA,xc,xs,false,rfl,EI.o,av.o,eS.o, .inl ⟨h,rfl⟩⟩
        ·rw[hlg]at h2;cases h2
       ·rw[hlg]at cL;go_wp2_with (go_at_call 90;go_must(refine(cL.o _ (Below.refl _ _)).mono ?_);rintro e wq ⟨rfl,rfl⟩)
        go_ret2
        rcases kn.o with h|⟨h1,h2⟩
        ·have:=yR.o xs h;rw[hlg]at this;cases this
        ·exact⟨XA,xc,xs,true,rfl,EI.o,av.o,eS.o, .inr ⟨h1,rfl⟩⟩
theorem slw_list {α β:Type} {W:World} {size:Nat} {R:World->α->List Value->Prop} {f:β->List Value} {pr:β->α} {G:β->Prop} (hR: ∀x cs,R W x cs-> ∃y,pr y=x/\G y/\f y=cs) {A:Option Addr} {xs:List α} (h:SlW W size R A xs):
 ∃ys:List β,ys.map pr=xs/\(∀y∈ys,G y)/\Sl W size f A ys:=by
 by_cases h0:xs=[]
 ·subst h0;exact⟨[],rfl,by simp,fun h=>absurd h Mcq⟩
 ·have hl:0<xs.length:=List.length_pos_iff.2 h0;obtain⟨b,off,hA,hb,hc⟩:=h hl;have b9: ∀n,n<=xs.length-> ∃ys:List β,ys.map pr=xs.take n/\(∀y∈ys,G y)/\ ∀k y,ys[k]?=some y-> ∀j u,(f y)[j]?=some u->W.cell? ⟨b,off+k*size+j,none⟩=some u:=by
   intro n;induction n with
   |zero=>intro _;exact⟨[],by simp,by simp,by simp⟩
   |succ n ih=>
    intro hn;obtain⟨ys,h1,h2,h3⟩:=ih Mcn;obtain⟨cs,hr,ah⟩:=hc n _ (List.getElem?_eq_getElem (show n<xs.length by omega));obtain⟨y,e1,e2,e3⟩:=hR _ _ hr;have ag:ys.length=n:=by
     have:=congrArg List.length h1;simp at this;omega
    refine⟨ys++[y],?_,?_,?_⟩
    ·rw[List.map_append,h1,List.take_add_one,List.getElem?_eq_getElem (show n<xs.length by omega)];simp[e1]
    ·intro z hz;rcases List.mem_append.1 hz with hz|hz
     ·exact h2 z hz
     ·rw[List.mem_singleton.1 hz];exact e2
    ·intro k z hk;by_cases jC:k<n
     ·rw[List.getElem?_append_left Mcn]at hk;exact h3 k z hk
     ·have fS:k=n:=by
       exact MbJ
      subst fS;rw[List.getElem?_append_right Mcn,ag]at hk;simp at hk;subst hk;intro j u hu;exact ah j u (by rw[<-e3];exact hu)
  obtain⟨ys,h1,h2,h3⟩:=b9 xs.length (Nat.le_refl _);rw[List.take_length]at h1;exact⟨ys,h1,h2,fun _=>⟨b,off,hA,hb,h3⟩⟩
theorem slw_back {α β:Type} {W:World} {size:Nat} {R:World->α->List Value->Prop} {f:β->List Value} {pr:β->α} {G:β->Prop} (hG: ∀y,G y->R W (pr y) (f y)) {A:Option Addr} {xs:List α} {ys:List β} (h:Sl W size f A ys) (hm:ys.map pr=xs) (hg: ∀y∈ys,G y):SlW W size R A xs:=fun hl=>by
 subst hm;obtain⟨b,off,hA,hb,hc⟩:=h (by simpa using hl);refine⟨b,off,hA,hb,fun k x hk=> ?_⟩;rw[List.getElem?_map]at hk;obtain⟨y,hy,rfl⟩:=Option.map_eq_some_iff.1 hk;exact⟨f y,hG y (hg y (List.mem_of_getElem? hy)),fun j u hu=>hc k y hy j u hu⟩
structure GX where
 g:Grave
 H:Option Addr
 hc:Nat
 D:Option Addr
 dc:Nat
def GX.cells (x:GX):List Value:=[.string x.g.place, .int .i64 x.g.cls, .int .i64 x.g.fin, .slice x.H x.g.holders.length x.hc, .slice x.D x.g.died.length x.dc]
theorem zcT (x:GX):x.cells.length=5:=rfl
theorem zkb (x:GX): ∀u∈x.cells,u.oneCell'=true:=by simp[GX.cells,Value.oneCell']
def GX.ok (W:World) (x:GX):Prop:=Sl W 3 zaa x.H x.g.holders/\Sl W 1 sC x.D x.g.died
theorem GX.ok.keep {W W':World} {x:GX} {n:Nat} (h:x.ok W) (hB:Below n W W') (hn:W.heap.size<=n:=by first|exact Nat.le_refl _|omega):x.ok W':=⟨h.1.keep hB hn,h.2.keep hB hn⟩
theorem gx_of {W:World} {A:Option Addr} {gs:List Grave} (h:SlW W 5 zid A gs): ∃xs:List GX,xs.map (·.g)=gs/\(∀x∈xs,x.ok W)/\Sl W 5 GX.cells A xs:=
 slw_list (fun x cs hr=>by
  obtain⟨H,hc,D,dc,rfl,h1,h2⟩:=hr
  exact⟨⟨x,H,hc,D,dc⟩,rfl,⟨h1,h2⟩,rfl⟩) h
theorem slw_gx {W:World} {A:Option Addr} {gs:List Grave} {xs:List GX} (h:Sl W 5 GX.cells A xs) (hm:xs.map (·.g)=gs) (hg: ∀x∈xs,x.ok W):SlW W 5 zid A gs:=
 slw_back (fun y hy=>⟨y.H,y.hc,y.D,y.dc,rfl,hy.1,hy.2⟩) h hm hg
theorem zho:ElTy Tryz.prog 34 49 5 80:=zd6 (z:= .agg #[.string ⟨#[]⟩, .int .i64 0, .int .i64 0, .slice none 0 0, .slice none 0 0]) Mco Mco rfl Mcp
structure RowC (W:World) (e:TypeId) (g o size:Nat) (css:List (List Value)):Prop where
 len: ∀c∈css,c.length=size
 row: ∃cur,W.heap[g]?=some (.cells cur e (0,0))/\o+css.length*size<=cur.size/\ ∀k c,css[k]?=some c-> ∀j u,c[j]?=some u->cur[o+k*size+j]?=some u
section
variable {W W':World} {e:TypeId} {g o size:Nat} {css:List (List Value)}
theorem RowC.at (h:RowC W e g o size css) {k:Nat} {c:List Value} (hk:css[k]?=some c) {j:Nat} {u:Value} (hj:c[j]?=some u):W.cell? ⟨g,o+k*size+j,none⟩=some u:=by
 obtain⟨cur,h1,_,h3⟩:=h.row;simp only[World.cell?,h1];exact h3 k c hk j u hj
theorem RowC.lt (h:RowC W e g o size css):g<W.heap.size:=by
 obtain⟨cur,h1,_⟩:=h.row;exact zab h1
theorem RowC.frz (h:RowC W e g o size css): ∀j,W.frozen? ⟨g,j,none⟩=false:=by
 obtain⟨cur,h1,_⟩:=h.row;exact Go.Proofs.YtjhbofabmpfniaaGreatDoor.frz h1
theorem RowC.block (h:RowC W e g o size css) (hb:W'.heap[g]?=W.heap[g]?):RowC W' e g o size css:=by
 obtain⟨cur,h1,h2⟩:=h.row;exact⟨h.len,cur,hb.trans h1,h2⟩
theorem RowC.keep {n:Nat} (h:RowC W e g o size css) (hB:Below n W W') (hn:W.heap.size<=n:=by first|exact Nat.le_refl _|omega):RowC W' e g o size css:=h.block (hB.block g (Nat.lt_of_lt_of_le h.lt hn))
theorem RowC.sl {α:Type} {f:α->List Value} {xs:List α} (h:RowC W e g o size css) (hc:css=xs.map f):Sl W size f (some ⟨g,o,none⟩) xs:=fun _=>
 ⟨g,o,rfl,h.lt,fun k x hk j u hu=>h.at (k:=k) (by rw[hc,List.getElem?_map,hk];rfl) hu⟩
theorem OwnS.row {α:Type} {base n cap:Nat} {f:α->List Value} {xs:List α} (ag: ∀x,(f x).length=size) (h:OwnS W base e size f (.slice (some ⟨g,o,none⟩) n cap) xs):RowC W e g o size (xs.map f):=by
 rcases h with⟨h,_⟩|⟨g',o',c',cur,h,hb,hg,hc,hm,hs,hx⟩
 ·cases h
 ·simp only[Value.slice.injEq,Option.some.injEq,Addr.mk.injEq,and_true]at h;obtain⟨⟨rfl,rfl⟩,rfl,rfl⟩:=h;refine⟨fun c hc=> ?_,cur,hg,?_,fun k c hk j u hu=> ?_⟩
  ·obtain⟨x,_,rfl⟩:=List.mem_map.1 hc;exact ag x
  ·rw[List.length_map];exact Nat.le_trans (Nat.add_le_add_left (Nat.mul_le_mul_right _ hc) _) hs
  ·rw[List.getElem?_map]at hk;obtain⟨x,dC,rfl⟩:=Option.map_eq_some_iff.1 hk;have:=hx (k*size+j) u (zeY f size ag xs k x dC j u hu);rw[Nat.add_assoc];exact this
theorem RowC.set (h:RowC W e g o size css) {i j:Nat} {c:List Value} {u:Value} (hi:css[i]?=some c) (hj:j<size):RowC (W.setCell ⟨g,o+i*size+j,none⟩ u) e g o size (css.set i (c.set j u)):=by
 obtain⟨cur,h1,h2,h3⟩:=h.row;have bm:=h.len c (List.mem_of_getElem? hi);have f9:i<css.length:=(List.getElem?_eq_some_iff.1 hi).1;have aO:o+i*size+j<cur.size:=by
  have:(i+1)*size<=css.length*size:=Nat.mul_le_mul_right _ f9;rw[Nat.add_mul]at this;omega
 have hb:=Joins.block_setCell (i:=o+i*size+j) h1 u;refine⟨fun d hd=> ?_,_,hb,?_,fun k d hk m v hm=> ?_⟩
 ·rcases List.mem_or_eq_of_mem_set hd with hd|rfl
  ·exact h.len d hd
  ·rw[List.length_set];exact bm
 ·rw[List.length_set];simpa using h2
 ·rw[List.getElem?_set]at hk;by_cases ar:i=k
  ·subst ar;rw[if_pos rfl,if_pos f9]at hk;simp only[Option.some.injEq]at hk;subst hk;rw[List.getElem?_set]at hm;by_cases hjm:j=m
   ·subst hjm;rw[if_pos rfl,if_pos Mcn]at hm;simp only[Option.some.injEq]at hm;subst hm;simp[aO]
   ·rw[if_neg hjm]at hm;have:=h3 i c hi m v hm;rw[Array.getElem?_setIfInBounds_ne Mcn];exact this
  ·rw[if_neg ar]at hk;have fh:m<size:=by
    have:=(List.getElem?_eq_some_iff.1 hm).1;rw[h.len d (List.mem_of_getElem? hk)]at this;exact this
   have ai:o+i*size+j≠o+k*size+m:=by
    intro he;have mw:i*size+j=k*size+m:=Mcn;rcases Nat.lt_or_gt_of_ne ar with aa|aa
    ·have:(i+1)*size<=k*size:=Nat.mul_le_mul_right _ aa;rw[Nat.add_mul]at this;omega
    ·have:(k+1)*size<=i*size:=Nat.mul_le_mul_right _ aa;rw[Nat.add_mul]at this;omega
   rw[Array.getElem?_setIfInBounds_ne ai];exact h3 k d hk m v hm
end
def StAt (w:World) (laws:List Law) (s:St) (a0 a1 a2 a3 a4 a5 a6:Value):Prop:=
 ∃(wd rd:List Deed) (LA CA MA DA WA RA GA:Option Addr) (c0 c1 c2 c3 c4 c5 c6:Nat),a0= .slice LA laws.length c0/\a1= .slice CA s.children.length c1/\a2= .slice MA s.marriages.length c2/\a3= .slice DA s.dead.length c3/\a4= .slice WA wd.length c4/\a5= .slice RA rd.length c5/\a6= .slice GA s.graves.length c6/\
  StIn w laws s wd rd LA CA MA DA WA RA GA c0 c1 c2 c3 c4 c5 c6/\StLink s wd rd
def zcC:Value->Bool
 | .slice ..=>true
 |_=>false
theorem zeO {a:Value} (h:zcC a=true): ∃A n c,a= .slice A n c:=by
 cases a<;>first|exact⟨_,_,_,rfl⟩|cases h
theorem zck {a0 a1 a2 a3 a4 a5 a6:Value} (h:([a0,a1,a2,a3,a4,a5,a6].all zcC)=true):(∃A n c,a0= .slice A n c)/\(∃A n c,a1= .slice A n c)/\(∃A n c,a2= .slice A n c)/\(∃A n c,a3= .slice A n c)/\(∃A n c,a4= .slice A n c)/\(∃A n c,a5= .slice A n c)/\(∃A n c,a6= .slice A n c):=by
 simp only[List.all_cons,Bool.and_eq_true]at h;obtain⟨h0,h1,h2,h3,h4,h5,h6,_⟩:=h;exact⟨zeO h0,zeO h1,zeO h2,zeO h3,zeO h4,zeO h5,zeO h6⟩
def zeX (w:World) (laws:List Law) (R:St×Int) (e:Ending) (w':World):Prop:=
 ∃a0 a1 a2 a3 a4 a5 a6,e= .returned (.tuple #[.agg #[a0,a1,a2,a3,a4,a5,a6], .int .i64 R.2])/\([a0,a1,a2,a3,a4,a5,a6].all zcC)=true/\Below w.heap.size w w'/\(R.2=0->StAt w' laws R.1 a0 a1 a2 a3 a4 a5 a6)
theorem zpg {fn:Func} {p q:Tmp} {a:TypeId} (h:fn.results= #[.cell p a, .tmp q]) (tmps:Array Value) (P:Program) (w:World):
 (results fn tmps).run P w=((asAddr (tmps.getD p undef)).run P w).andThen fun x w₁=>((loadVar a x).run P w₁).andThen fun v w₂=> .ok (.tuple #[v,tmps.getD q undef]) w₂:=by
 exact Mbr
section
variable {w:World} {B:Nat} {x0 x1 x2 x3 x4 x5 x6 y:Value}
theorem zbB {fn:Func} {p q:Tmp} (h:fn.results= #[.cell p 36, .tmp q]) (tmps:Array Value) (hp:tmps.getD p undef= .pointer (some ⟨B,0,none⟩)) (hq:tmps.getD q undef=y)
 (hx:w.heap[B]?=some (.cells #[x0,x1,x2,x3,x4,x5,x6] 36)):(results fn tmps).run Tryz.prog w= .ok (.tuple #[.agg #[x0,x1,x2,x3,x4,x5,x6],y]) w:=by
 obtain⟨h0,h1,h2,h3,h4,h5,h6⟩:=zaG hx;clear hx;rw[zpg h,hp,hq];go_simp
theorem zkc {fn:Func} {p:Tmp} (h:fn.results= #[.cell p 36]) (tmps:Array Value) (hp:tmps.getD p undef= .pointer (some ⟨B,0,none⟩))
 (hx:w.heap[B]?=some (.cells #[x0,x1,x2,x3,x4,x5,x6] 36)):(results fn tmps).run Tryz.prog w= .ok (.agg #[x0,x1,x2,x3,x4,x5,x6]) w:=by
 obtain⟨h0,h1,h2,h3,h4,h5,h6⟩:=zaG hx;exact Ma5
end
theorem RowC.ne {W:World} {e:TypeId} {g o size b j:Nat} {u:Value} {css:List (List Value)} (h:RowC W e g o size css) (ai:g≠b):RowC (W.setCell ⟨b,j,none⟩ u) e g o size css:=by
 obtain⟨cur,h1,h2⟩:=h.row;exact⟨h.len,cur,J_ne ai h1,h2⟩
theorem zc9 {n b:Nat} {w W:World} {a0 a1 a2 a3 a4 a5 a6:Value} (h:Below n w W) (hb:n<=b):Below n w (((((((W.setCell ⟨b,0,none⟩ a0).setCell ⟨b,1,none⟩ a1).setCell ⟨b,2,none⟩ a2).setCell ⟨b,3,none⟩ a3).setCell ⟨b,4,none⟩ a4).setCell ⟨b,5,none⟩ a5).setCell ⟨b,6,none⟩ a6):=
 zaM (zaM (zaM (zaM (zaM (zaM (zaM h hb _) hb _) hb _) hb _) hb _) hb _) hb _
theorem RowC.ne7 {W:World} {e:TypeId} {g o size b:Nat} {a0 a1 a2 a3 a4 a5 a6:Value} {css:List (List Value)} (h:RowC W e g o size css) (ai:g≠b):RowC (((((((W.setCell ⟨b,0,none⟩ a0).setCell ⟨b,1,none⟩ a1).setCell ⟨b,2,none⟩ a2).setCell ⟨b,3,none⟩ a3).setCell ⟨b,4,none⟩ a4).setCell ⟨b,5,none⟩ a5).setCell ⟨b,6,none⟩ a6) e g o size css:=
 ((((((h.ne ai).ne ai).ne ai).ne ai).ne ai).ne ai).ne ai
theorem zkd (W:World) (base:Nat) (h:base<=W.heap.size):OwnS (W.alloc (.cells #[] 49)) base 49 5 GX.cells (.slice (some ⟨W.heap.size,0,none⟩) 0 0) []:=
 OwnS.of_own zcT (World.ownsRow_made W #[] 0 h (Nat.zero_le _) Mcq)
def zgO (w:World) (laws:List Law) (s:St) (wd rd:List Deed) (LA CA MA DA WA RA GA:Option Addr) (c0 c1 c2 c3 c4 c5 c6:Nat) (gxs:List GX) (i:Nat) (x:GX) (e:Ending) (w':World):Prop:=
 ∃(ga go c:Nat),e= .returned (.agg #[.slice LA laws.length c0, .slice CA s.children.length c1, .slice MA s.marriages.length c2, .slice DA s.dead.length c3, .slice WA wd.length c4, .slice RA rd.length c5, .slice (some ⟨ga,go,none⟩) s.graves.length c])/\RowC w' 49 ga go 5 ((gxs.set i x).map GX.cells)/\Below w.heap.size w w'
theorem zjf (laws:List Law) (s:St) (wd rd:List Deed) (LA CA MA DA WA RA GA:Option Addr) (c0 c1 c2 c3 c4 c5 c6:Nat) (xs:List GX) (i:Nat) (x:GX) (w:World) (hm:xs.map (·.g)=s.graves) (bw:Sl w 5 GX.cells GA xs) (hf:StFew s wd rd) (hi:i<s.graves.length):
 Calls Tryz.prog 235 #[.agg #[.slice LA laws.length c0, .slice CA s.children.length c1, .slice MA s.marriages.length c2, .slice DA s.dead.length c3, .slice WA wd.length c4, .slice RA rd.length c5, .slice GA s.graves.length c6], .int .i64 i, .agg x.cells.toArray] w (zgO w laws s wd rd LA CA MA DA WA RA GA c0 c1 c2 c3 c4 c5 c6 xs i x):=by
 have bv:xs.length=s.graves.length:=by rw[<-hm,List.length_map]
 have K6:=hf.graves;have cf:=zHi bw;unfold zgO GX.cells;rw[<-bv]at hi K6⊢;have fP:=zHi bv;clear hm bw hf bv;go_enter Tryz.func235,Tryz.ntmps235
 go_upto_region 1 with fail
 obtain⟨W0,ao⟩: ∃W0,W0=((w.alloc (.cells #[.slice LA laws.length c0, .slice CA s.children.length c1, .slice MA s.marriages.length c2, .slice DA s.dead.length c3, .slice WA wd.length c4, .slice RA rd.length c5, .slice GA xs.length c6] 36)).alloc (.cells #[.string x.g.place, .int .i64 x.g.cls, .int .i64 x.g.fin, .slice x.H x.g.holders.length x.hc, .slice x.D x.g.died.length x.dc] 49)).alloc (.cells #[.slice none 0 0, .slice none 0 0, .slice none 0 0, .slice none 0 0, .slice none 0 0, .slice none 0 0, .slice none 0 0] 36):=⟨_,rfl⟩
 have g0:W0.heap[w.heap.size]?=some (.cells #[.slice LA laws.length c0, .slice CA s.children.length c1, .slice MA s.marriages.length c2, .slice DA s.dead.length c3, .slice WA wd.length c4, .slice RA rd.length c5, .slice GA xs.length c6] 36):=Mdq;have g1:W0.heap[w.heap.size+1]?=some (.cells #[.string x.g.place, .int .i64 x.g.cls, .int .i64 x.g.fin, .slice x.H x.g.holders.length x.hc, .slice x.D x.g.died.length x.dc] 49):=by rw[ao];exact zal (zar _ _ _ Mcq)
 have g2:W0.heap[w.heap.size+2]?=some (.cells #[.slice none 0 0, .slice none 0 0, .slice none 0 0, .slice none 0 0, .slice none 0 0, .slice none 0 0, .slice none 0 0] 36):=by rw[ao];exact zar _ _ _ Mcq
 have aJ:Below w.heap.size w W0:=McU;rw[<-ao];clear ao;obtain⟨s0,s1,s2,s3,s4,s5,s6⟩:=zaG g0;have l2:=zab g2;have l0:w.heap.size<W0.heap.size:=Mcn;have ak:=zHi aJ;have lT:=aJ.size;clear aJ
 go_upto_region 2 with(at_builtin
                       go_loud(refine za1 (v:= .slice (some ⟨W0.heap.size,0,none⟩) 0 0) (n:=0) (m:=xs.length) rfl _ _ rfl zho zcT zkb rfl (xs:=[]) (ys:=xs) (zkd W0 W0.heap.size (Nat.le_refl _)) rfl rfl rfl (cf.o.keep (ak.o.trans (Below.mono (B:=W0.heap.size) Bw lT))) McW Mcn Mcq ?_)
                       intro v2 w2 h1 h2 h3;rw[List.nil_append]at h1;have e0:w2.heap[w.heap.size]?=_:=(h2.block w.heap.size Mcr MdD).trans (zal g0);have e1:w2.heap[w.heap.size+1]?=_:=(h2.block (w.heap.size+1) Mcr MdD).trans (zal g1);have e2:w2.heap[w.heap.size+2]?=_:=(h2.block (w.heap.size+2) Mcr MdD).trans (zal g2);have bn:Below W0.heap.size W0 w2:=Below.grown (zad (Below.refl _ _) _) h2 Mcq Mc1;have fA:=h1.ge;obtain⟨V2,c2',rfl,_,_⟩:=h1.sl zcT;obtain⟨ga,go,rfl⟩: ∃ga go,V2=some ⟨ga,go,none⟩:=by
                        rcases h1 with⟨he,h0⟩|⟨g',o',_,_,he,_⟩
                        ·rw[h0]at hi;exact absurd hi Mcq
                        ·simp only[Value.slice.injEq]at he;exact⟨g',o',he.1⟩
                       have zY:=(fA ga rfl).1;have bh:=OwnS.row zcT h1;have f6:=frz e0 6;obtain⟨y0,y1,y2,y3,y4,y5,y6⟩:=zaG e0
                       clear h1 h2 h3 fA)
 obtain⟨W3,aX⟩: ∃W3,W3=w2.setCell ⟨w.heap.size,6,none⟩ (.slice (some ⟨ga,go,none⟩) xs.length c2'):=⟨_,rfl⟩
 have b0:W3.heap[w.heap.size]?=some (.cells #[.slice LA laws.length c0, .slice CA s.children.length c1, .slice MA s.marriages.length c2, .slice DA s.dead.length c3, .slice WA wd.length c4, .slice RA rd.length c5, .slice (some ⟨ga,go,none⟩) xs.length c2'] 36):=by
  rw[aX];have:=Joins.block_setCell (i:=6) e0 (.slice (some ⟨ga,go,none⟩) xs.length c2');simpa using this
 have b1:W3.heap[w.heap.size+1]?=some (.cells #[.string x.g.place, .int .i64 x.g.cls, .int .i64 x.g.fin, .slice x.H x.g.holders.length x.hc, .slice x.D x.g.died.length x.dc] 49):=by rw[aX];exact J_ne Mcn e1
 have b2:W3.heap[w.heap.size+2]?=some (.cells #[.slice none 0 0, .slice none 0 0, .slice none 0 0, .slice none 0 0, .slice none 0 0, .slice none 0 0, .slice none 0 0] 36):=by rw[aX];exact J_ne Mcn e2
 have r3:RowC W3 49 ga go 5 (xs.map GX.cells):=by rw[aX];exact bh.ne Mcn
 have eT:Below w.heap.size w W3:=by rw[aX];exact zaM (ak.o.trans (bn.mono lT)) Mcq _
 rw[<-aX];clear aX bh e0 e1 e2 bn f6 y0 y1 y2 y3 y4 y5 y6 s0 s1 s2 s3 s4 s5 s6 g0 g1 g2;obtain⟨s0,s1,s2,s3,s4,s5,s6⟩:=zaG b0;obtain⟨v0,v1,v2,v3,v4⟩:=zef b1;have aN:(xs.map GX.cells)[i]?=some (xs[i]).cells:=by rw[List.getElem?_map,List.getElem?_eq_getElem hi];rfl
 have gW: ∀j u,(xs[i]).cells[j]?=some u->W3.cell? ⟨ga,go+i*5+j,none⟩=some u:=fun j u hu=>r3.at aN hu
 have rf:=r3.frz;have q0:=gW 0 _ rfl;have q1:=gW 1 _ rfl;have q2:=gW 2 _ rfl;have q3:=gW 3 _ rfl;have q4:=gW 4 _ rfl;simp only[Nat.add_zero]at q0;have t0:RowC (W3.setCell ⟨ga,go+i*5,none⟩ (.string x.g.place)) 49 ga go 5 _:=r3.set (j:=0) (u:= .string x.g.place) aN Mcp;have sj:i<(xs.map GX.cells).length:=by rw[List.length_map];exact hi
 have t1:=t0.set (i:=i) (j:=1) (u:= .int .i64 x.g.cls) (c:=(xs[i]).cells.set 0 (.string x.g.place)) (by rw[List.getElem?_set_self sj]) Mcp;have t2:=t1.set (i:=i) (j:=2) (u:= .int .i64 x.g.fin) (c:=((xs[i]).cells.set 0 (.string x.g.place)).set 1 (.int .i64 x.g.cls)) (by rw[List.getElem?_set_self (by rw[List.length_set];exact sj)]) Mcp;have t3:=t2.set (i:=i) (j:=3) (u:= .slice x.H x.g.holders.length x.hc) (c:=(((xs[i]).cells.set 0 (.string x.g.place)).set 1 (.int .i64 x.g.cls)).set 2 (.int .i64 x.g.fin)) (by rw[List.getElem?_set_self (by rw[List.length_set,List.length_set];exact sj)]) Mcp;have t4:=t3.set (i:=i) (j:=4) (u:= .slice x.D x.g.died.length x.dc) (c:=((((xs[i]).cells.set 0 (.string x.g.place)).set 1 (.int .i64 x.g.cls)).set 2 (.int .i64 x.g.fin)).set 3 (.slice x.H x.g.holders.length x.hc)) (by rw[List.getElem?_set_self (by rw[List.length_set,List.length_set,List.length_set];exact sj)]) Mcp;have x8:(i:Int)<(xs.length:Int):=Mcn;have fB:(0:Int)<=(i:Int):=Mcn;have T4:=zHi t4;have R3:=zHi r3;have aH:=zHi eT;have B0:=zHi b0;have B2:=zHi b2;have aK:w.heap.size≠ga:=Mcn;have sd:ga≠w.heap.size:=Mcn;have dl:ga≠w.heap.size+2:=Mcn;have mB:w.heap.size+2≠ga:=Mcn;clear t0 t1 t2 t3 t4 r3 eT b0 b1 b2 gW sj;go_upto_region 3 with fail
 obtain⟨W4,ip⟩: ∃W4,W4=((((W3.setCell ⟨ga,go+i*5,none⟩ (.string x.g.place)).setCell ⟨ga,go+i*5+1,none⟩ (.int .i64 x.g.cls)).setCell ⟨ga,go+i*5+2,none⟩ (.int .i64 x.g.fin)).setCell ⟨ga,go+i*5+3,none⟩ (.slice x.H x.g.holders.length x.hc)).setCell ⟨ga,go+i*5+4,none⟩ (.slice x.D x.g.died.length x.dc):=⟨_,rfl⟩
 have t4:=T4.o;rw[<-ip]at t4⊢;have b0:W4.heap[w.heap.size]?=some (.cells #[.slice LA laws.length c0, .slice CA s.children.length c1, .slice MA s.marriages.length c2, .slice DA s.dead.length c3, .slice WA wd.length c4, .slice RA rd.length c5, .slice (some ⟨ga,go,none⟩) xs.length c2'] 36):=by rw[ip];exact J_ne aK (J_ne aK (J_ne aK (J_ne aK (J_ne aK B0.o))))
 have b2:W4.heap[w.heap.size+2]?=some (.cells #[.slice none 0 0, .slice none 0 0, .slice none 0 0, .slice none 0 0, .slice none 0 0, .slice none 0 0, .slice none 0 0] 36):=by rw[ip];exact J_ne mB (J_ne mB (J_ne mB (J_ne mB (J_ne mB B2.o))))
 have EQ:Below w.heap.size w W4:=by rw[ip];exact zaM (zaM (zaM (zaM (zaM aH.o Mdm _) Mdm _) Mdm _) Mdm _) Mdm _
 have bl:(xs.set i x).map GX.cells=(((((xs.map GX.cells).set i ((xs[i]).cells.set 0 (.string x.g.place))).set i (((xs[i]).cells.set 0 (.string x.g.place)).set 1 (.int .i64 x.g.cls))).set i ((((xs[i]).cells.set 0 (.string x.g.place)).set 1 (.int .i64 x.g.cls)).set 2 (.int .i64 x.g.fin))).set i (((((xs[i]).cells.set 0 (.string x.g.place)).set 1 (.int .i64 x.g.cls)).set 2 (.int .i64 x.g.fin)).set 3 (.slice x.H x.g.holders.length x.hc))).set i ((((((xs[i]).cells.set 0 (.string x.g.place)).set 1 (.int .i64 x.g.cls)).set 2 (.int .i64 x.g.fin)).set 3 (.slice x.H x.g.holders.length x.hc)).set 4 (.slice x.D x.g.died.length x.dc)):=by
  simp only[List.set_set,List.map_set];rfl
 rw[<-bl]at t4;have T5:=zHi t4;have eB:=zHi EQ;clear t4 bl T4 R3 aH B0 B2 ip EQ s0 s1 s2 s3 s4 s5 s6 v0 v1 v2 v3 v4 q0 q1 q2 q3 q4 rf aN;obtain⟨s0,s1,s2,s3,s4,s5,s6⟩:=zaG b0;obtain⟨r0,r1,r2,r3,r4,r5,r6⟩:=zaG b2;have rf:=frz b2;go_wp2_with fail
 refine bodyPost_ret (v:= .agg #[.slice LA laws.length c0, .slice CA s.children.length c1, .slice MA s.marriages.length c2, .slice DA s.dead.length c3, .slice WA wd.length c4, .slice RA rd.length c5, .slice (some ⟨ga,go,none⟩) xs.length c2']) ?_ rfl ?_
 ·exact zkc rfl _ rfl (zc0 b2)
 ·have ik:=zc9 (a0:= .slice LA laws.length c0) (a1:= .slice CA s.children.length c1) (a2:= .slice MA s.marriages.length c2) (a3:= .slice DA s.dead.length c3) (a4:= .slice WA wd.length c4) (a5:= .slice RA rd.length c5) (a6:= .slice (some ⟨ga,go,none⟩) xs.length c2') eB.o (show w.heap.size<=w.heap.size+2 by omega);exact⟨ga,go,c2',by first|rfl|rw[fP.o],T5.o.ne7 dl,ik⟩
end Go.Proofs.YtjhbofabmpfniaaGreatDoor
