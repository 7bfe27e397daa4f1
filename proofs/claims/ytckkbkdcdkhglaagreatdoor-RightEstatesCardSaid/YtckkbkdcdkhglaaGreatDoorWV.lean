/- Plain: the shares of a place and of an estate are right. -/
import Derived.Test.YtckkbkdcdkhglaaGreatDoorUI
import Derived.Test.YtckkbkdcdkhglaaGreatDoorEI
set_option linter.unusedSimpArgs false
set_option linter.unusedVariables false
set_option maxRecDepth 100000
set_option maxHeartbeats 4000000
namespace Go.Proofs.YtckkbkdcdkhglaaGreatDoor
open Go.RowKit Go.Shelf
attribute [local go_sem] World.cell?_alloc_mark zag za5 zaq za8 zaw zax zay zaz za0 za1 za2
attribute [local go_sem] zap zad
theorem zgC {fn:Func} {p q:Tmp} (h:fn.results= #[.cell p 58, .tmp q]) (tmps:Array Value) (w:World) (B:Nat) (x0 x1 e:Value) (hp:tmps.getD p undef= .pointer (some ⟨B,0,none⟩)) (hq:tmps.getD q undef=e)
 (hx:w.heap[B]?=some (.cells #[x0,x1] 58)):(results fn tmps).run Tryz.prog w= .ok (.tuple #[.agg #[x0,x1],e]) w:=by
 obtain⟨h0,h1⟩:=cF2 hx;clear hx;rw[Array.getD_eq_getD_getElem?]at hp hq;simp only[results,h];simp[Sem.run_bind,hp,hq];go_simp
def zdS (p:RPart):Bool:=za6 16 p.num p.den&&p.num != 0
def sumR:List RPart->Rat->Rat×Bool
 | [],o=>(o,true)
 |p::l,o=>if zdS p then sumR l (o+p.rat)else(o,false)
theorem zjZ {k:Nat} {o:Rat} (hk:k<=1000) (h:IsN 720720 o) (h0:0<=o) (h1:o<=(k:Rat)):zaK o:=by
 have hd:=zkn Mcn h;have hn:0<=o.num:=Rat.num_nonneg.2 h0;have h2:=(Rat.le_iff o (k:Rat)).1 h1;have e1:((k:Rat)).num=(k:Int):=Rat.num_natCast k;have e2:((k:Rat)).den=1:=Rat.den_natCast k;rw[e1,e2]at h2;have h3:o.num<=(k:Int)*(o.den:Int):=Md8;have h4:(k:Int)*(o.den:Int)<=1000*720720:=Int.mul_le_mul Mcl Mcl Mcl Mcl;exact⟨by omega,by omega⟩
theorem zod (l:List RPart) (A:Option Addr) (c:Nat) (w:World) (hl:l.length<=1000) (hS:Sl w 3 RPart.cells A l):Calls Tryz.prog 132 #[.slice A l.length c] w (Ret w (.tuple #[za9 (sumR l 0).1, .bool (sumR l 0).2])):=by
 have HS:=zHi hS;obtain⟨R,hR⟩: ∃R,R=sumR l 0:=⟨_,rfl⟩
 rw[<-hR];have HR:=zHi hR;clear hS hR;go_enter Tryz.func132,Tryz.ntmps132
 go_upto_region 2 with(go_at_call 78;go_must(refine(ziE _).mono ?_);rintro e wq ⟨rfl,z0,rfl⟩)
 obtain⟨OB,jL⟩: ∃OB,OB=w.heap.size+1+z0.os.size:=⟨_,rfl⟩
 obtain⟨W0,ao⟩: ∃W0,W0=((w.alloc (.cells #[.int .i64 0, .int .i64 0] 58)).ext z0).alloc (.cells #[.int .i64 0, .int .i64 1] 58):=⟨_,rfl⟩
 have b0:W0.heap[w.heap.size]?=some (.cells #[.int .i64 0, .int .i64 0] 58):=by rw[ao];exact zak (zb9 (zar _ _ _ rfl))
 have b1:W0.heap[OB]?=some (.cells #[.int .i64 0, .int .i64 1] 58):=by rw[ao];exact zar _ _ _ (by rw[jL];simp[zag])
 have aI:Below w.heap.size w W0:=McY;rw[<-ao,<-jL];have ak:=zHi aI;have dI:w.heap.size<OB:=Mcl;clear ao aI jL;go_upto_region 3 with fail
 go_loopw [5] (fun i wr=> ∃(k:Nat) (o:Rat),k<=l.length/\i= .int .i64 k/\Hid (R=sumR (l.drop k) o)/\Hid (IsN 720720 o/\0<=o/\o<=(k:Rat))/\Below w.heap.size w wr/\wr.heap[w.heap.size]?=some (.cells #[.int .i64 0, .int .i64 0] 58)/\wr.heap[OB]?=some (.cells #[.int .i64 o.num, .int .i64 o.den] 58)) (fun i _=>l.length-(intOf i).toNat)
 case atStart=>exact⟨0,0,Nat.zero_le _,rfl,by rw[List.drop_zero];exact HR.o,zHi ⟨zkm _,Rat.le_refl,by simp⟩,ak.o,b0,b1⟩
 case round=>
  obtain⟨k,o,hk,rfl,HX,HN,hB,g0,g1⟩:=hrel;have HB:=zHi hB;have aK:=hB.size;have x0:=zab g0;have x1:=zab g1;obtain⟨c0,c1⟩:=cF2 g1;obtain⟨t0,t1⟩:=cF2 g0;have f0: ∀j,wr.frozen? ⟨w.heap.size,j,none⟩=false:=fun j=>by simp[World.frozen?,g0]
  by_cases aa:k<l.length
  ·obtain⟨b,off,rfl,hb,ah⟩:=(HS.o.keep hB).at aa;have hx:=HX.o;rw[List.drop_eq_getElem_cons aa,sumR]at hx;have au:=zHi hx;have aq:=zHi aa;generalize l[k]=x at*;obtain⟨nm,nu,de⟩:=x;have i1:wr.cell? ⟨b,off+k*3+1,none⟩=some (.int .i64 nu):=ah 1 _ rfl;have i2:wr.cell? ⟨b,off+k*3+2,none⟩=some (.int .i64 de):=ah 2 _ rfl;have ar:(k:Int)<(l.length:Int):=Mcl;have aT:(0:Int)<=(k:Int):=Mcl;have sY:=zHi (fun W=>zhz nu de W);clear ah hx aa hB;cases bn:za6 16 nu de
   ·have HE:Hid (R=(o,false)):=by show _=_;rw[au.o];simp[zdS,bn]
    rw[bn]at sY;exact MV
   ·rw[bn]at sY;by_cases hz:nu=0
    ·subst hz;have HE:Hid (R=(o,false)):=by show _=_;rw[au.o];simp[zdS]
     exact MV
    ·have j9:(nu==0)=false:=Mds;have l8:=zbl bn;have CR:=zel bn;have l7:=l8.1;have Gc:=l8.2.1;generalize hq:Rat.divInt nu de=q at*;have HE:Hid (R=sumR (l.drop (k+1)) (o+q)):=by show _=_;rw[au.o];unfold zdS RPart.rat;simp only;rw[bn,hq];simp[hz]
     have hn:=HN.o;have fX:((k+1:Nat):Rat)=(k:Rat)+1:=Mco;have kK:Hid (IsN 720720 (o+q)/\0<=o+q/\o+q<=((k+1:Nat):Rat)):=by
      refine zHi ⟨zkk hn.1 CR,?_,?_⟩
      ·have:=l8.2.2.1;have:=hn.2.1;grind
      ·rw[fX];have:=l8.2.2.2;have:=hn.2.2;grind
     have u7:zaK o:=zjZ Mcl hn.1 hn.2.1 hn.2.2;have dO:zaK q:=zjZ (k:=1) Mcl CR l8.2.2.1 (by simpa using l8.2.2.2);have jR:=zHi (fun W=>znQ o q W u7 dO);unfold za9 at jR;rw[l7,Gc]at jR;clear l8 CR l7 Gc hq hn fX u7 dO bn;go_upto_region 7 with(go_at_call 102;go_must(refine(sY.o _).mono ?_);rintro e wq ⟨rfl,z,rfl⟩)
     have j1:(wr.ext z).cell? ⟨b,off+k*3+1,none⟩=some (.int .i64 nu):=(za5 _ _ _ _ hb).trans i1;have j2:(wr.ext z).cell? ⟨b,off+k*3+2,none⟩=some (.int .i64 de):=(za5 _ _ _ _ hb).trans i2;have y0:(wr.ext z).heap[w.heap.size]?=_:=zb9 g0;have y1:(wr.ext z).heap[OB]?=_:=zb9 g1;have Fm:Below w.heap.size w (wr.ext z):=zbc HB.o z;clear c0 c1 t0 t1 f0 i1 i2 g0 g1 hb aK x0 x1;generalize wr.ext z=WY at*;have fI:=zHi Fm;obtain⟨c0,c1⟩:=cF2 y1;clear Fm;refine zaC 6 (fun bb w'=>bb=true\/(w'.cell? ⟨OB,0,none⟩=some (.int .i64 o.num)/\w'.cell? ⟨OB,1,none⟩=some (.int .i64 o.den)/\w'.cell? ⟨b,off+k*3+1,none⟩=some (.int .i64 nu)/\w'.cell? ⟨b,off+k*3+2,none⟩=some (.int .i64 de))) Mcm (.inr ⟨c0,c1,j1,j2⟩) ?hrest
     case hrest=>
      intro hHeld;refine TkM 0 ?_;refine TkM 1 ?_;refine TkM 2 ?_;refine TkM 3 ?_;refine TkM 4 ?_;refine TkM 5 ?_;refine OnM 6 true fun K hK=> ?_
      go_simp
      refine(jR.o _).mono ?_;rintro e w5 ⟨rfl,z5,rfl⟩;have v0:(WY.drew.ext z5).heap[w.heap.size]?=_:=zb9 (w:=WY.drew) y0;have v1:(WY.drew.ext z5).heap[OB]?=_:=zb9 (w:=WY.drew) y1;have aj:Below w.heap.size w (WY.drew.ext z5):=zbc (zaM fI.o) z5;refine NxM hK fun hHeld=> ?_
      clear hK K;generalize WY.drew.ext z5=W5 at*;obtain⟨s0,s1⟩:=cF2 v1;have sf: ∀j,W5.frozen? ⟨OB,j,none⟩=false:=fun j=>by simp[World.frozen?,v1]
      refine OnM 7 true fun K hK=> ?_
      go_simp
      refine NxM hK fun hHeld=> ?_
      clear hK K;refine zaQ Mcm ?_ _;clear hHeld;go_wp2_with fail
      go_round
      case rel=>exact⟨k+1,o+q,aq.o,by go_num,HE,kK,zaO (zaO aj Mcq _) Mcq _,J_ne Mcl (J_ne Mcl v0),zen v1⟩
      case measure=>have:=aq.o;simp only[intOf];omega
  ·have ar: ¬(k:Int)<(l.length:Int):=Mcl;have HE:Hid (R=(o,true)):=by show _=_;rw[HX.o,List.drop_of_length_le Mcl];rfl
   clear hB;go_wp2_with fail
   rw[HE.o];refine bodyPost_ret (v:= .tuple #[za9 o, .bool true]) ?_ rfl ?_
   ·exact zgC rfl _ _ w.heap.size _ _ _ rfl rfl (zen g0)
   ·exact Ret.of rfl (zaO (zaO HB.o Mco _) Mco _)
def sixV (a b c d e f:Int):Value:= .agg #[.int .i64 a, .int .i64 b, .int .i64 c, .int .i64 d, .int .i64 e, .int .i64 f]
def zkQ (k:Int):Value:=if k=0 then sixV 1 0 2 1 1 1 else if k=1 then sixV 1 1 2 1 0 0 else if k=2 then sixV 1 1 0 0 0 0 else if k=3 then sixV 1 0 0 0 0 1 else if k=4 then sixV 0 1 2 1 0 0 else if k=8 then sixV 0 1 0 0 0 0 else sixV 0 1 1 0 0 0
theorem znj {fn:Func} {p:Tmp} (h:fn.results= #[.cell p 181]) (tmps:Array Value) (w:World) (B:Nat) (a b c d e f:Int) (hp:tmps.getD p undef= .pointer (some ⟨B,0,none⟩))
 (h0:w.cell? ⟨B,0,none⟩=some (.int .i64 a)) (h1:w.cell? ⟨B,1,none⟩=some (.int .i64 b)) (h2:w.cell? ⟨B,2,none⟩=some (.int .i64 c)) (h3:w.cell? ⟨B,3,none⟩=some (.int .i64 d)) (h4:w.cell? ⟨B,4,none⟩=some (.int .i64 e)) (h5:w.cell? ⟨B,5,none⟩=some (.int .i64 f)):
 (results fn tmps).run Tryz.prog w= .ok (sixV a b c d e f) w:=by
 rw[zdE h,hp];unfold sixV;go_simp
theorem znk (k:Int) (w:World):Calls Tryz.prog 129 #[.int .i64 k] w (Ret w (zkQ k)):=by
 unfold zkQ;go_enter Tryz.func129,Tryz.ntmps129
 by_cases h0:k=0
 ·rw[if_pos h0];subst h0;go_wp2_with fail
  refine bodyPost_ret (v:=sixV 1 0 2 1 1 1) ?_ rfl ?_
  ·exact MY
  ·exact Ret.of rfl Bw
 rw[if_neg h0];have e0:(k==0)=false:=Mdm;by_cases h1:k=1
 ·rw[if_pos h1];subst h1;go_wp2_with fail
  refine bodyPost_ret (v:=sixV 1 1 2 1 0 0) ?_ rfl ?_
  ·exact MY
  ·exact Ret.of rfl Bw
 rw[if_neg h1];have e1:(k==1)=false:=McR;by_cases h2:k=2
 ·rw[if_pos h2];subst h2;go_wp2_with fail
  refine bodyPost_ret (v:=sixV 1 1 0 0 0 0) ?_ rfl ?_
  ·exact MY
  ·exact Ret.of rfl Bw
 rw[if_neg h2];have e2:(k==2)=false:=Md8;by_cases h3:k=3
 ·rw[if_pos h3];subst h3;go_wp2_with fail
  refine bodyPost_ret (v:=sixV 1 0 0 0 0 1) ?_ rfl ?_
  ·exact MY
  ·exact Ret.of rfl Bw
 rw[if_neg h3];have e3:(k==3)=false:=by simpa using h3
 by_cases h4:k=4
 ·rw[if_pos h4];subst h4;go_wp2_with fail
  refine bodyPost_ret (v:=sixV 0 1 2 1 0 0) ?_ rfl ?_
  ·exact MY
  ·exact Ret.of rfl Bw
 rw[if_neg h4];have e4:(k==4)=false:=by simpa using h4
 by_cases h8:k=8
 ·rw[if_pos h8];subst h8;go_wp2_with fail
  refine bodyPost_ret (v:=sixV 0 1 0 0 0 0) ?_ rfl ?_
  ·exact MY
  ·exact Ret.of rfl Bw
 rw[if_neg h8];have e8:(k==8)=false:=by simpa using h8
 go_wp2_with fail
 refine bodyPost_ret (v:=sixV 0 1 1 0 0 0) ?_ rfl ?_
 ·exact MY
 ·exact Ret.of rfl Bw
section
variable {W w:World} {b:Nat} {t:TypeId} {fr:Nat×Nat} {a0 a1 a2 a3 a4 a5 a6:Value}
theorem zba (h:W.heap[b]?=some (.cells #[a0,a1] t fr)):W.cell? ⟨b,0,none⟩=some a0/\W.cell? ⟨b,1,none⟩=some a1:=by
 simp only[World.cell?,h];exact⟨rfl,rfl⟩
theorem zec (h:W.heap[b]?=some (.cells #[a0,a1,a2,a3,a4] t fr)):W.cell? ⟨b,0,none⟩=some a0/\W.cell? ⟨b,1,none⟩=some a1/\W.cell? ⟨b,2,none⟩=some a2/\W.cell? ⟨b,3,none⟩=some a3/\W.cell? ⟨b,4,none⟩=some a4:=by
 simp only[World.cell?,h];exact⟨rfl,rfl,rfl,rfl,rfl⟩
theorem cells6 (h:W.heap[b]?=some (.cells #[a0,a1,a2,a3,a4,a5] t fr)):W.cell? ⟨b,0,none⟩=some a0/\W.cell? ⟨b,1,none⟩=some a1/\W.cell? ⟨b,2,none⟩=some a2/\W.cell? ⟨b,3,none⟩=some a3/\W.cell? ⟨b,4,none⟩=some a4/\W.cell? ⟨b,5,none⟩=some a5:=by
 simp only[World.cell?,h];exact⟨rfl,rfl,rfl,rfl,rfl,rfl⟩
theorem zaG (h:W.heap[b]?=some (.cells #[a0,a1,a2,a3,a4,a5,a6] t fr)):W.cell? ⟨b,0,none⟩=some a0/\W.cell? ⟨b,1,none⟩=some a1/\W.cell? ⟨b,2,none⟩=some a2/\W.cell? ⟨b,3,none⟩=some a3/\W.cell? ⟨b,4,none⟩=some a4/\W.cell? ⟨b,5,none⟩=some a5/\W.cell? ⟨b,6,none⟩=some a6:=by
 simp only[World.cell?,h];exact⟨rfl,rfl,rfl,rfl,rfl,rfl,rfl⟩
theorem frz {cs:Array Value} (h:W.heap[b]?=some (.cells cs t (0,0))): ∀j,W.frozen? ⟨b,j,none⟩=false:=fun j=>by simp[World.frozen?,h]
theorem boxed {o:Obj} (h:w.alloc o=W):W.heap[w.heap.size]?=some o/\Below w.heap.size w W:=by
 subst h;exact⟨zar _ _ _ rfl,zac (Below.refl _ _) _⟩
end
theorem ziT {α:Type} {W:World} {base size n c:Nat} {e:TypeId} {f:α->List Value} {A:Option Addr} {xs:List α} (ag: ∀x,(f x).length=size) (h:OwnS W base e size f (.slice A n c) xs):Sl W size f A xs/\xs.length<=c:=by
 obtain⟨A',c',he,h1,h2⟩:=h.sl ag;simp only[Value.slice.injEq]at he;obtain⟨rfl,_,rfl⟩:=he;exact⟨h1,h2⟩
structure Fld where
 p:Int
 f:Int
 n:Int
 s:Int
 c:Int
 y:Int
def fldP (k:Int):Fld:=if k=0 then⟨1,0,2,1,1,1⟩else if k=1 then⟨1,1,2,1,0,0⟩else if k=2 then⟨1,1,0,0,0,0⟩else if k=3 then⟨1,0,0,0,0,1⟩else if k=4 then⟨0,1,2,1,0,0⟩else if k=8 then⟨0,1,0,0,0,0⟩else⟨0,1,1,0,0,0⟩
theorem zoX (k:Int):zkQ k=sixV (fldP k).p (fldP k).f (fldP k).n (fldP k).s (fldP k).c (fldP k).y:=by
 unfold zkQ fldP;repeat' split
 all_goals rfl
structure FldOk (x:Fld):Prop where
 p:x.p=0\/x.p=1
 f:x.f=0\/x.f=1
 n:x.n=0\/x.n=1\/x.n=2
 s:x.s=0\/x.s=1
 c:x.c=0\/x.c=1
 y:x.y=0\/x.y=1
theorem fld_ok (k:Int):FldOk (fldP k):=by
 unfold fldP;repeat' split
 all_goals exact⟨by decide,by decide,by decide,by decide,by decide,by decide⟩
def fm1 (pl fr:ByteArray) (p f:Int) (ap:Bool):Bool:=(!noB pl) != (p==1)||(!noB fr) != (f==1)||!ap
def fm2 (n:Int) (m:Nat):Bool:=n==0&&decide (0<m)||n==1&&m != 1||n==2&&m==0
def fm3 (c y cl yr kd:Int):Bool:=c==0&&cl != 0||y==0&&yr != 0||kd==3&&yr==0
def fm5 (kd cl yr:Int) (q:Rat):Bool:=kd != 0||q==1&&(cl != 2||decide (0<yr))
def zfr (d:Deed):Bool:=
 if fm1 d.place d.frm (fldP d.kind).p (fldP d.kind).f (zdx d.to d.frm 0)then false else
 if fm2 (fldP d.kind).n d.to.length then false else
 if fm3 (fldP d.kind).c (fldP d.kind).y d.cls d.years d.kind then false else
 if(fldP d.kind).s==0 then d.to.all zh3 else
 if !(sumR d.to 0).2||decide ((sumR d.to 0).1.den<(sumR d.to 0).1.num)then false else fm5 d.kind d.cls d.years (sumR d.to 0).1
theorem znl: ∀(l:List RPart) (o:Rat),(sumR l o).2=l.all zdS/\(l.all zdS=true->(sumR l o).1=o+sumQ (zao l))
 | [],o=>⟨rfl,fun _=>by show o=o+0;grind⟩
 |p::l,o=>by
  unfold sumR;cases h:zdS p
  ·rw[if_neg Mco];exact⟨by rw[List.all_cons,h];rfl,fun h2=>by rw[List.all_cons,h]at h2;cases h2⟩
  ·rw[if_pos rfl,List.all_cons,h,Bool.true_and];have ih:=znl l (o+p.rat);refine⟨ih.1,fun h2=> ?_⟩;rw[ih.2 h2];show _=o+(p.rat+sumQ (zao l));grind
theorem zoY (l:List RPart) (frm:ByteArray):zdx l frm 0=(zcW l []&&l.all fun p=>!zae p.name frm):=rfl
theorem one_le {q:Rat}:decide ((q.den:Int)<q.num)=!decide (q<=1):=by
 have h:=Rat.le_iff q 1;have e:(q<=1)↔ ¬(q.den:Int)<q.num:=by rw[h];simp
 by_cases h1:q<=1
 ·rw[decide_eq_true h1,decide_eq_false (e.1 h1)];rfl
 ·rw[decide_eq_false h1,decide_eq_true (Classical.not_not.1 (fun h2=>h1 (e.2 h2)))];rfl
theorem parts_sum (all:Bool) (frm:ByteArray) (l:List RPart):zcB true all frm l=(zdx l frm 0&&((sumR l 0).2&&decide ((sumR l 0).1<=1)&&(!all||(sumR l 0).1==1))):=by
 have h:=znl l 0;rw[zoY,h.1];unfold zcB;rw[if_pos rfl];show(_&&(l.all zdS&&_&&_))=_;cases ha:l.all zdS
 ·simp
 ·rw[h.2 ha,Rat.zero_add]
theorem zoZ (all:Bool) (frm:ByteArray) (l:List RPart):zcB false all frm l=(zdx l frm 0&&l.all zh3):=rfl
theorem len_empty (l:List RPart):(l.length==0)=l.isEmpty:=by cases l<;>rfl
theorem zpa {d:Deed} (hk:0<=d.kind/\d.kind<=8) (hy:0<=d.years):zfr d=zfI d:=by
 obtain⟨kd,dy,pl,fr,ts,cl,yr⟩:=d;have fY:kd=0\/kd=1\/kd=2\/kd=3\/kd=4\/kd=5\/kd=6\/kd=7\/kd=8:=by simp only at hk;omega
 unfold zfr zfI fm1 fm2 fm3 fm5;simp only[parts_sum,zoZ,one_le]at hy⊢;have Kf:ts.isEmpty=true->zdx ts fr 0=true/\ts.all zh3=true:=by cases ts with
  |nil=>exact fun _=>⟨rfl,rfl⟩
  |cons=>exact fun h=>by cases h
 generalize zdx ts fr 0=ap at*;generalize(sumR ts 0).2=s2;generalize(sumR ts 0).1=q;generalize ts.all zh3=bt at*;have bQ:=len_empty ts;have pG:decide (0<ts.length)=!ts.isEmpty:=by cases ts<;>simp
 have pH:(ts.length==1)=true->ts.isEmpty=false:=by cases ts<;>simp
 have FK:(ts.length != 1)=!(ts.length==1):=rfl;rw[pG,FK,bQ];generalize ts.isEmpty=em at*;generalize(ts.length==1)=on at*;generalize noB pl=np;generalize noB fr=nf;have hy:decide (0<yr)=!(yr==0):=by rw[Bool.eq_iff_iff];simp;omega
 have ui:(yr != 0)=!(yr==0):=rfl;have ah:(cl != 0)=!(cl==0):=rfl;have tH:(cl != 2)=!(cl==2):=rfl;rw[hy,ui,ah,tH];generalize(yr==0)=y0;generalize(cl==0)=c0;generalize(cl==2)=c2;generalize decide (q<=1)=q1;generalize(q==1)=q2;clear bQ pG FK hy ui ah tH hk;rcases fY with rfl|rfl|rfl|rfl|rfl|rfl|rfl|rfl|rfl<;>(clear q;simp[fldP])<;>(cases em<;>cases ap<;>simp at Kf⊢ <;>cases on<;>simp at pH⊢ <;>cases y0<;>cases c0<;>cases s2<;>cases q1<;>cases q2<;>simp_all)
theorem znm (d:Deed) (B:Option Addr) (c:Nat) (w:World) (hl:d.to.length<=1000) (hS:Sl w 3 RPart.cells B d.to):Calls Tryz.prog 103 #[d.v B c] w (Ret w (.bool (zfr d))):=by
 obtain⟨R,hR⟩: ∃R,R=zfr d:=⟨_,rfl⟩
 rw[<-hR];obtain⟨kd,dy,pl,fr,ts,cl,yr⟩:=d;have HS:=zHi hS;unfold zfr at hR;have fk:=zoX kd;have ko:=fld_ok kd;simp only at hR hl hS;obtain⟨FP,EM⟩: ∃FP,FP=fldP kd:=⟨_,rfl⟩
 rw[<-EM]at hR fk ko;clear EM;obtain⟨fp,ff,fn,fs,fc,fy⟩:=FP;have sQ:=zHi ko;have sR:=zHi (fun W=>znk kd W);rw[fk]at sR;simp only at sR hR;unfold sixV at sR;have nB:=fun W (h:Below w.heap.size w W)=>zoF ts fr B c W Mcl (HS.o.keep h)
 have dD:=fun W (h:Below w.heap.size w W)=>zod ts B c W hl (HS.o.keep h)
 have Fl:=fun W (h:Below w.heap.size w W)=>rBare_any ts B c W Mcl (HS.o.keep h)
 generalize zdx ts fr 0=ap at*;generalize sumR ts 0=sq at*;generalize ts.all zh3=bt at*;obtain⟨q,s2⟩:=sq;unfold za9 at dD;have HR:=zHi hR;have pf:=zHi dD;have q8:=zHi Fl;unfold Deed.v;clear hR hS fk ko dD Fl;go_enter Tryz.func103,Tryz.ntmps103
 go_upto_region 2 with(go_at_call 129;go_must(refine(sR.o _).mono ?_);rintro e wq ⟨rfl,z0,rfl⟩)
 obtain⟨F,hF⟩: ∃F,F=w.heap.size+1+z0.os.size:=⟨_,rfl⟩
 obtain⟨W0,ao⟩: ∃W0,W0=((w.alloc (.cells #[.int .i64 kd, .int .i64 dy, .string pl, .string fr, .slice B ts.length c, .int .i64 cl, .int .i64 yr] 68)).ext z0).alloc (.cells #[.int .i64 fp, .int .i64 ff, .int .i64 fn, .int .i64 fs, .int .i64 fc, .int .i64 fy] 181):=⟨_,rfl⟩
 have g0:W0.heap[w.heap.size]?=some (.cells #[.int .i64 kd, .int .i64 dy, .string pl, .string fr, .slice B ts.length c, .int .i64 cl, .int .i64 yr] 68):=by rw[ao];exact zak (zb9 (zar _ _ _ rfl))
 have g1:W0.heap[F]?=some (.cells #[.int .i64 fp, .int .i64 ff, .int .i64 fn, .int .i64 fs, .int .i64 fc, .int .i64 fy] 181):=by rw[ao];exact zar _ _ _ (by rw[hF];simp[zag])
 have hB:Below w.heap.size w W0:=McY;rw[<-ao,<-hF];clear ao hF;have DH:=zHi (fun W (h:Below W0.heap.size W0 W)=>nB W (hB.trans (h.mono hB.size)));clear nB;have HB:=zHi hB;obtain⟨d0,d1,d2,d3,d4,d5,d6⟩:=zaG g0;obtain⟨e0,e1,e2,e3,e4,e5⟩:=cells6 g1;have l0:=zab g0;have l1:=zab g1;clear hB;go_cut [32]from 6 to 32 (fun v wc=>v= .bool (fm1 pl fr fp ff ap)/\Below w.heap.size w wc/\wc.heap[w.heap.size]?=some (.cells #[.int .i64 kd, .int .i64 dy, .string pl, .string fr, .slice B ts.length c, .int .i64 cl, .int .i64 yr] 68)/\wc.heap[F]?=some (.cells #[.int .i64 fp, .int .i64 ff, .int .i64 fn, .int .i64 fs, .int .i64 fc, .int .i64 fy] 181))
 case first=>
  cases ep:(fp==1)<;>cases ef:(ff==1)<;>cases z1:noB pl<;>cases z2:noB fr
  all_goals(
   first
    |(have w1: ¬pl.toList=[]:=by simpa using(show pl.toList.isEmpty=false from z1))
    |(have w1:pl.toList=[]:=by simpa using(show pl.toList.isEmpty=true from z1))
   first
    |(have w2: ¬fr.toList=[]:=by simpa using(show fr.toList.isEmpty=false from z2))
    |(have w2:fr.toList=[]:=by simpa using(show fr.toList.isEmpty=true from z2))
   go_wp2_with (go_at_call 130;go_must(refine(DH.o _ Bw).mono ?_);rintro e wq ⟨rfl,z,rfl⟩)
   go_meet
   exact⟨zaP (by simp[fm1, *]),by first|exact HB.o|exact zbc HB.o z,by first|exact g0|exact zb9 g0,by first|exact g1|exact zb9 g1⟩)
 case rest=>
  obtain⟨rfl,hB,g0,g1⟩:=hcut;clear DH d0 d1 d2 d3 d4 d5 d6 e0 e1 e2 e3 e4 e5 l0 l1 HB;have HB:=zHi hB;obtain⟨d0,d1,d2,d3,d4,d5,d6⟩:=zaG g0;obtain⟨e0,e1,e2,e3,e4,e5⟩:=cells6 g1;have l0:=zab g0;have l1:=zab g1;clear hB;cases jQ:fm1 pl fr fp ff ap
  ·have bx:=HR.o;rw[jQ,if_neg Mco]at bx;have HR:=zHi bx;clear bx jQ;go_upto_region 4 with fail
   go_cut [63]from 33 to 63 (fun v w4=>v= .bool (fm2 fn ts.length)/\wc=w4)
   case first=>
    rcases sQ.o.n with h|h|h
    ·simp only at h;subst h;by_cases h1:0<ts.length
     ·have h2:(0:Int)<(ts.length:Int):=Mcl;exact MT
     ·have h2: ¬(0:Int)<(ts.length:Int):=Mcl;exact MT
    ·simp only at h;subst h;by_cases h1:ts.length=1
     ·have h2:((ts.length:Int) != 1)=false:=by rw[h1];rfl
      have h3:(ts.length != 1)=false:=McR;exact MT
     ·have h2:((ts.length:Int) != 1)=true:=by
       have:(ts.length:Int)≠1:=by omega
       simpa using this
      have h3:(ts.length != 1)=true:=McR;exact MT
    ·simp only at h;subst h;by_cases h1:ts.length=0
     ·have h2:((ts.length:Int)==0)=true:=McR;have h3:(ts.length==0)=true:=McR;exact MT
     ·have h2:((ts.length:Int)==0)=false:=McR;have h3:(ts.length==0)=false:=McR;exact MT
   case rest=>
    obtain⟨rfl,rfl⟩:=hcut;cases eR:fm2 fn ts.length
    ·have bx:=HR.o;rw[eR,if_neg Mco]at bx;have HR:=zHi bx;clear bx eR;go_upto_region 6 with fail
     go_cut [91]from 64 to 91 (fun v w4=>v= .bool (fm3 fc fy cl yr kd)/\wc=w4)
     case first=>
      cases ec:(fc==0)<;>cases ey:(fy==0)<;>cases ecl:(cl==0)<;>cases eyr:(yr==0)<;>cases ek:(kd==3)
      all_goals(
       have ecl2:(cl != 0)=!(cl==0):=rfl;have eyr2:(yr != 0)=!(yr==0):=rfl;simp only[ecl,eyr,Bool.not_true,Bool.not_false]at ecl2 eyr2;go_wp2_with fail
       go_meet
       exact⟨zaP (by simp[fm3, *]),by first|exact True.intro|rfl⟩)
     case rest=>
      obtain⟨rfl,rfl⟩:=hcut;cases hx3:fm3 fc fy cl yr kd
      ·have bx:=HR.o;rw[hx3,if_neg Mco]at bx;have HR:=zHi bx;clear bx hx3;go_upto_region 8 with fail
       rcases sQ.o.s with h|h
       ·simp only at h;subst h;have HE:Hid (R=bt):=by show _=_;rw[HR.o];rfl
        go_wp2_with (go_at_call 131;go_must(refine(q8.o _ HB.o).mono ?_);rintro e wq ⟨rfl,rfl⟩)
        go_ret
        exact Ret.of (zaP HE.o.symm) HB.o
       ·simp only at h;subst h;have bx:Hid (R=if !s2||decide ((q.den:Int)<q.num)then false else fm5 kd cl yr q):=by show _=_;rw[HR.o];rfl
        go_upto_region 11 with(go_at_call 132;go_must(refine(pf.o _ HB.o).mono ?_);rintro e wq ⟨rfl,z1,rfl⟩)
        obtain⟨Q,hQ⟩: ∃Q,Q=wc.heap.size+z1.os.size:=⟨_,rfl⟩
        obtain⟨W3,aX⟩: ∃W3,W3=(wc.ext z1).alloc (.cells #[.int .i64 q.num, .int .i64 q.den] 58):=⟨_,rfl⟩
        have g3:W3.heap[Q]?=some (.cells #[.int .i64 q.num, .int .i64 q.den] 58):=by rw[aX];exact zar _ _ _ (by rw[hQ];simp[zag])
        have g2:W3.heap[w.heap.size]?=some (.cells #[.int .i64 kd, .int .i64 dy, .string pl, .string fr, .slice B ts.length c, .int .i64 cl, .int .i64 yr] 68):=by rw[aX];exact zak (zb9 g0)
        have aJ:Hid (Below w.heap.size w W3):=by show Below _ _ _;rw[aX];exact zac (zbc HB.o z1) _
        rw[<-aX,<-hQ];clear aX hQ d0 d1 d2 d3 d4 d5 d6 e0 e1 e2 e3 e4 e5 l0 l1 g0 g1;obtain⟨d0,d1,d2,d3,d4,d5,d6⟩:=zaG g2;obtain⟨q0,q1⟩:=zba g3;have l2:=zab g2;have l3:=zab g3;cases s2
        ·have HE:Hid (R=false):=by show _=_;rw[bx.o];rfl
         have HB:=aJ;exact MU
        ·by_cases hq:(q.den:Int)<q.num
         ·have HE:Hid (R=false):=by show _=_;rw[bx.o,if_pos MdA]
          have HB:=aJ;exact MU
         ·have HE:Hid (R=fm5 kd cl yr q):=by show _=_;rw[bx.o,if_neg MdA]
          go_upto_region 13 with fail
          by_cases k0:kd=0
          ·subst k0;by_cases u1:q.num=1
           ·by_cases u2:(q.den:Int)=1
            ·have cd:q.den=1:=Mcl;have df:q=1:=Rat.ext (by rw[u1];rfl) (by rw[cd];rfl);subst df;cases k2:(cl != 2)
             ·cases k3:decide (0<yr)
              ·exact Mu
              ·exact Mu
             ·exact Mu
            ·have df:(q==1)=false:=by simp;rintro rfl;exact u2 rfl
             have u3:((q.den:Int)==1)=false:=by simpa using u2
             exact Mu
           ·have df:(q==1)=false:=by simp;rintro rfl;exact u1 rfl
            have u3:(q.num==1)=false:=by simpa using u1
            exact Mu
          ·have k1:(kd != 0)=true:=by simpa using k0
           exact Mu
      ·have HE:Hid (R=false):=by show _=_;rw[HR.o,hx3];rfl
       exact MU
    ·have HE:Hid (R=false):=by show _=_;rw[HR.o,eR];rfl
     exact MU
  ·have HE:Hid (R=false):=by show _=_;rw[HR.o,jQ];rfl
   exact MU
end Go.Proofs.YtckkbkdcdkhglaaGreatDoor
namespace Go.Proofs.YtckkbkdcdkhglaaGreatDoor
open Go.RowKit Go.Shelf
theorem on_stop {laws:List Law} {ds:List Deed} {names:List ByteArray} {day:Int} (h:zbL laws ds names day=0):(zdV laws ds 200000).2.2=0/\zbm day=true:=by
 unfold zbL at h;split at h
 ·rename_i h1
  rw[h]at h1;simp at h1
 ·rename_i h1
  refine⟨by simpa using h1,?_⟩;split at h
  ·cases h
  ·split at h
   ·cases h
   ·rename_i h2
    simpa using h2
end Go.Proofs.YtckkbkdcdkhglaaGreatDoor
