/- Walks of the reference's dates: the day so many years later. -/
import Derived.Test.YtjhbofabmpfniaaGreatDoorOD
set_option linter.unusedSimpArgs false
set_option linter.unusedVariables false
set_option maxRecDepth 100000
set_option maxHeartbeats 4000000
namespace Go.Proofs.YtjhbofabmpfniaaGreatDoor
open Go.RowKit Go.Shelf
attribute [local go_sem] World.cell?_alloc_mark zae za3 zam za6 zas zat zau zav zaw zax zay
attribute [local go_sem] zaj zac
section
variable {W w:World} {b:Nat} {t:TypeId} {fr:Nat×Nat} {a0 a1 a2 a3 a4 a5 a6:Value}
theorem zbu (h:W.heap[b]?=some (.cells #[a0,a1] t fr)):W.cell? ⟨b,0,none⟩=some a0/\W.cell? ⟨b,1,none⟩=some a1:=by
 simp only[World.cell?,h];exact⟨rfl,rfl⟩
theorem zef (h:W.heap[b]?=some (.cells #[a0,a1,a2,a3,a4] t fr)):W.cell? ⟨b,0,none⟩=some a0/\W.cell? ⟨b,1,none⟩=some a1/\W.cell? ⟨b,2,none⟩=some a2/\W.cell? ⟨b,3,none⟩=some a3/\W.cell? ⟨b,4,none⟩=some a4:=by
 simp only[World.cell?,h];exact⟨rfl,rfl,rfl,rfl,rfl⟩
theorem cells6 (h:W.heap[b]?=some (.cells #[a0,a1,a2,a3,a4,a5] t fr)):W.cell? ⟨b,0,none⟩=some a0/\W.cell? ⟨b,1,none⟩=some a1/\W.cell? ⟨b,2,none⟩=some a2/\W.cell? ⟨b,3,none⟩=some a3/\W.cell? ⟨b,4,none⟩=some a4/\W.cell? ⟨b,5,none⟩=some a5:=by
 simp only[World.cell?,h];exact⟨rfl,rfl,rfl,rfl,rfl,rfl⟩
theorem zaG (h:W.heap[b]?=some (.cells #[a0,a1,a2,a3,a4,a5,a6] t fr)):W.cell? ⟨b,0,none⟩=some a0/\W.cell? ⟨b,1,none⟩=some a1/\W.cell? ⟨b,2,none⟩=some a2/\W.cell? ⟨b,3,none⟩=some a3/\W.cell? ⟨b,4,none⟩=some a4/\W.cell? ⟨b,5,none⟩=some a5/\W.cell? ⟨b,6,none⟩=some a6:=by
 simp only[World.cell?,h];exact⟨rfl,rfl,rfl,rfl,rfl,rfl,rfl⟩
theorem frz {cs:Array Value} (h:W.heap[b]?=some (.cells cs t (0,0))): ∀j,W.frozen? ⟨b,j,none⟩=false:=fun j=>by simp[World.frozen?,h]
theorem boxed {o:Obj} (h:w.alloc o=W):W.heap[w.heap.size]?=some o/\Below w.heap.size w W:=by
 subst h;exact⟨zar _ _ _ rfl,zad (Below.refl _ _) _⟩
end
theorem ziT {α:Type} {W:World} {base size n c:Nat} {e:TypeId} {f:α->List Value} {A:Option Addr} {xs:List α} (ag: ∀x,(f x).length=size) (h:OwnS W base e size f (.slice A n c) xs):Sl W size f A xs/\xs.length<=c:=by
 obtain⟨A',c',he,h1,h2⟩:=h.sl ag;simp only[Value.slice.injEq]at he;obtain⟨rfl,_,rfl⟩:=he;exact⟨h1,h2⟩
structure Fld where
 p:Int
 f:Int
 n:Int
 s:Int
 c:Int
 y:Int
def fldP (k:Int):Fld:=if k=0 then⟨1,0,2,1,1,1⟩else if k=1 then⟨1,1,2,1,0,0⟩else if k=2 then⟨1,1,0,0,0,0⟩else if k=3 then⟨1,0,0,0,0,1⟩else if k=4 then⟨0,1,2,1,0,0⟩else if k=8 then⟨0,1,0,0,0,0⟩else⟨0,1,1,0,0,0⟩
theorem zoU (k:Int):zkP k=sixV (fldP k).p (fldP k).f (fldP k).n (fldP k).s (fldP k).c (fldP k).y:=by
 unfold zkP fldP;repeat' split
 all_goals rfl
structure FldOk (x:Fld):Prop where
 p:x.p=0\/x.p=1
 f:x.f=0\/x.f=1
 n:x.n=0\/x.n=1\/x.n=2
 s:x.s=0\/x.s=1
 c:x.c=0\/x.c=1
 y:x.y=0\/x.y=1
theorem fld_ok (k:Int):FldOk (fldP k):=by
 unfold fldP;repeat' split
 all_goals exact⟨by decide,by decide,by decide,by decide,by decide,by decide⟩
def fm1 (pl fr:ByteArray) (p f:Int) (ap:Bool):Bool:=(!noB pl) != (p==1)||(!noB fr) != (f==1)||!ap
def fm2 (n:Int) (m:Nat):Bool:=n==0&&decide (0<m)||n==1&&m != 1||n==2&&m==0
def fm3 (c y cl yr kd:Int):Bool:=c==0&&cl != 0||y==0&&yr != 0||kd==3&&yr==0
def fm5 (kd cl yr:Int) (q:Rat):Bool:=kd != 0||q==1&&(cl != 2||decide (0<yr))
def zfx (d:Deed):Bool:=
 if fm1 d.place d.frm (fldP d.kind).p (fldP d.kind).f (zd3 d.to d.frm 0)then false else
 if fm2 (fldP d.kind).n d.to.length then false else
 if fm3 (fldP d.kind).c (fldP d.kind).y d.cls d.years d.kind then false else
 if(fldP d.kind).s==0 then d.to.all zh8 else
 if !(sumR d.to 0).2||decide ((sumR d.to 0).1.den<(sumR d.to 0).1.num)then false else fm5 d.kind d.cls d.years (sumR d.to 0).1
theorem znj: ∀(l:List RPart) (o:Rat),(sumR l o).2=l.all zdX/\(l.all zdX=true->(sumR l o).1=o+sumQ (zap l))
 | [],o=>⟨rfl,fun _=>by show o=o+0;grind⟩
 |p::l,o=>by
  unfold sumR;cases h:zdX p
  ·rw[if_neg Mcq];exact⟨by rw[List.all_cons,h];rfl,fun h2=>by rw[List.all_cons,h]at h2;cases h2⟩
  ·rw[if_pos rfl,List.all_cons,h,Bool.true_and];have ih:=znj l (o+p.rat);refine⟨ih.1,fun h2=> ?_⟩;rw[ih.2 h2];show _=o+(p.rat+sumQ (zap l));grind
theorem zoV (l:List RPart) (frm:ByteArray):zd3 l frm 0=(zcX l []&&l.all fun p=>!zaf p.name frm):=rfl
theorem one_le {q:Rat}:decide ((q.den:Int)<q.num)=!decide (q<=1):=by
 have h:=Rat.le_iff q 1;have e:(q<=1)↔ ¬(q.den:Int)<q.num:=by rw[h];simp
 by_cases h1:q<=1
 ·rw[decide_eq_true h1,decide_eq_false (e.1 h1)];rfl
 ·rw[decide_eq_false h1,decide_eq_true (Classical.not_not.1 (fun h2=>h1 (e.2 h2)))];rfl
theorem parts_sum (all:Bool) (frm:ByteArray) (l:List RPart):zcB true all frm l=(zd3 l frm 0&&((sumR l 0).2&&decide ((sumR l 0).1<=1)&&(!all||(sumR l 0).1==1))):=by
 have h:=znj l 0;rw[zoV,h.1];unfold zcB;rw[if_pos rfl];show(_&&(l.all zdX&&_&&_))=_;cases ha:l.all zdX
 ·simp
 ·rw[h.2 ha,Rat.zero_add]
theorem zoW (all:Bool) (frm:ByteArray) (l:List RPart):zcB false all frm l=(zd3 l frm 0&&l.all zh8):=rfl
theorem len_empty (l:List RPart):(l.length==0)=l.isEmpty:=by cases l<;>rfl
theorem zoX {d:Deed} (hk:0<=d.kind/\d.kind<=8) (hy:0<=d.years):zfx d=zfS d:=by
 obtain⟨kd,dy,pl,fr,ts,cl,yr⟩:=d;have fT:kd=0\/kd=1\/kd=2\/kd=3\/kd=4\/kd=5\/kd=6\/kd=7\/kd=8:=by simp only at hk;omega
 unfold zfx zfS fm1 fm2 fm3 fm5;simp only[parts_sum,zoW,one_le]at hy⊢;have Kx:ts.isEmpty=true->zd3 ts fr 0=true/\ts.all zh8=true:=by cases ts with
  |nil=>exact fun _=>⟨rfl,rfl⟩
  |cons=>exact fun h=>by cases h
 generalize zd3 ts fr 0=ap at*;generalize(sumR ts 0).2=s2;generalize(sumR ts 0).1=q;generalize ts.all zh8=bt at*;have bN:=len_empty ts;have pI:decide (0<ts.length)=!ts.isEmpty:=by cases ts<;>simp
 have pJ:(ts.length==1)=true->ts.isEmpty=false:=by cases ts<;>simp
 have G8:(ts.length != 1)=!(ts.length==1):=rfl;rw[pI,G8,bN];generalize ts.isEmpty=em at*;generalize(ts.length==1)=on at*;generalize noB pl=np;generalize noB fr=nf;have hy:decide (0<yr)=!(yr==0):=by rw[Bool.eq_iff_iff];simp;omega
 have ud:(yr != 0)=!(yr==0):=rfl;have ah:(cl != 0)=!(cl==0):=rfl;have jW:(cl != 2)=!(cl==2):=rfl;rw[hy,ud,ah,jW];generalize(yr==0)=y0;generalize(cl==0)=c0;generalize(cl==2)=c2;generalize decide (q<=1)=q1;generalize(q==1)=q2;clear bN pI G8 hy ud ah jW hk;rcases fT with rfl|rfl|rfl|rfl|rfl|rfl|rfl|rfl|rfl<;>(clear q;simp[fldP])<;>(cases em<;>cases ap<;>simp at Kx⊢ <;>cases on<;>simp at pJ⊢ <;>cases y0<;>cases c0<;>cases s2<;>cases q1<;>cases q2<;>simp_all)
theorem znk (d:Deed) (B:Option Addr) (c:Nat) (w:World) (hl:d.to.length<=1000) (hS:Sl w 3 RPart.cells B d.to):Calls Tryz.prog 126 #[d.v B c] w (Ret w (.bool (zfx d))):=by
 obtain⟨R,hR⟩: ∃R,R=zfx d:=⟨_,rfl⟩
 rw[<-hR];obtain⟨kd,dy,pl,fr,ts,cl,yr⟩:=d;have HS:=zHi hS;unfold zfx at hR;have dL:=zoU kd;have kw:=fld_ok kd;simp only at hR hl hS;obtain⟨FP,F1⟩: ∃FP,FP=fldP kd:=⟨_,rfl⟩
 rw[<-F1]at hR dL kw;clear F1;obtain⟨fp,ff,fn,fs,fc,fy⟩:=FP;have sU:=zHi kw;have sV:=zHi (fun W=>zni kd W);rw[dL]at sV;simp only at sV hR;unfold sixV at sV;have ny:=fun W (h:Below w.heap.size w W)=>zoT ts fr B c W Mcn (HS.o.keep h)
 have dw:=fun W (h:Below w.heap.size w W)=>zoe ts B c W hl (HS.o.keep h)
 have FA:=fun W (h:Below w.heap.size w W)=>rBare_any ts B c W Mcn (HS.o.keep h)
 generalize zd3 ts fr 0=ap at*;generalize sumR ts 0=sq at*;generalize ts.all zh8=bt at*;obtain⟨q,s2⟩:=sq;unfold zaB at dw;have HR:=zHi hR;have pe:=zHi dw;have qd:=zHi FA;unfold Deed.v;clear hR hS dL kw dw FA;go_enter Tryz.func126,Tryz.ntmps126
 go_upto_region 2 with(go_at_call 176;go_must(refine(sV.o _).mono ?_);rintro e wq ⟨rfl,z0,rfl⟩)
 obtain⟨F,hF⟩: ∃F,F=w.heap.size+1+z0.os.size:=⟨_,rfl⟩
 obtain⟨W0,ao⟩: ∃W0,W0=((w.alloc (.cells #[.int .i64 kd, .int .i64 dy, .string pl, .string fr, .slice B ts.length c, .int .i64 cl, .int .i64 yr] 52)).ext z0).alloc (.cells #[.int .i64 fp, .int .i64 ff, .int .i64 fn, .int .i64 fs, .int .i64 fc, .int .i64 fy] 217):=⟨_,rfl⟩
 have g0:W0.heap[w.heap.size]?=some (.cells #[.int .i64 kd, .int .i64 dy, .string pl, .string fr, .slice B ts.length c, .int .i64 cl, .int .i64 yr] 52):=by rw[ao];exact zal (zb2 (zar _ _ _ rfl))
 have g1:W0.heap[F]?=some (.cells #[.int .i64 fp, .int .i64 ff, .int .i64 fn, .int .i64 fs, .int .i64 fc, .int .i64 fy] 217):=by rw[ao];exact zar _ _ _ (by rw[hF];simp[zae])
 have hB:Below w.heap.size w W0:=McU;rw[<-ao,<-hF];clear ao hF;have DX:=zHi (fun W (h:Below W0.heap.size W0 W)=>ny W (hB.trans (h.mono hB.size)));clear ny;have HB:=zHi hB;obtain⟨d0,d1,d2,d3,d4,d5,d6⟩:=zaG g0;obtain⟨e0,e1,e2,e3,e4,e5⟩:=cells6 g1;have l0:=zab g0;have l1:=zab g1;clear hB;go_cut [32]from 6 to 32 (fun v wc=>v= .bool (fm1 pl fr fp ff ap)/\Below w.heap.size w wc/\wc.heap[w.heap.size]?=some (.cells #[.int .i64 kd, .int .i64 dy, .string pl, .string fr, .slice B ts.length c, .int .i64 cl, .int .i64 yr] 52)/\wc.heap[F]?=some (.cells #[.int .i64 fp, .int .i64 ff, .int .i64 fn, .int .i64 fs, .int .i64 fc, .int .i64 fy] 217))
 case first=>
  cases ep:(fp==1)<;>cases ef:(ff==1)<;>cases z1:noB pl<;>cases z2:noB fr
  all_goals(
   first
    |(have w1: ¬pl.toList=[]:=by simpa using(show pl.toList.isEmpty=false from z1))
    |(have w1:pl.toList=[]:=by simpa using(show pl.toList.isEmpty=true from z1))
   first
    |(have w2: ¬fr.toList=[]:=by simpa using(show fr.toList.isEmpty=false from z2))
    |(have w2:fr.toList=[]:=by simpa using(show fr.toList.isEmpty=true from z2))
   go_wp2_with (go_at_call 177;go_must(refine(DX.o _ Bw).mono ?_);rintro e wq ⟨rfl,z,rfl⟩)
   go_meet
   exact⟨zaQ (by simp[fm1, *]),by first|exact HB.o|exact zb6 HB.o z,by first|exact g0|exact zb2 g0,by first|exact g1|exact zb2 g1⟩)
 case rest=>
  obtain⟨rfl,hB,g0,g1⟩:=hcut;clear DX d0 d1 d2 d3 d4 d5 d6 e0 e1 e2 e3 e4 e5 l0 l1 HB;have HB:=zHi hB;obtain⟨d0,d1,d2,d3,d4,d5,d6⟩:=zaG g0;obtain⟨e0,e1,e2,e3,e4,e5⟩:=cells6 g1;have l0:=zab g0;have l1:=zab g1;clear hB;cases ke:fm1 pl fr fp ff ap
  ·have br:=HR.o;rw[ke,if_neg Mcq]at br;have HR:=zHi br;clear br ke;go_upto_region 4 with fail
   go_cut [63]from 33 to 63 (fun v w4=>v= .bool (fm2 fn ts.length)/\wc=w4)
   case first=>
    rcases sU.o.n with h|h|h
    ·simp only at h;subst h;by_cases h1:0<ts.length
     ·have h2:(0:Int)<(ts.length:Int):=Mcn;exact MT
     ·have h2: ¬(0:Int)<(ts.length:Int):=Mcn;exact MT
    ·simp only at h;subst h;by_cases h1:ts.length=1
     ·have h2:((ts.length:Int) != 1)=false:=by rw[h1];rfl
      have h3:(ts.length != 1)=false:=McT;exact MT
     ·have h2:((ts.length:Int) != 1)=true:=by
       have:(ts.length:Int)≠1:=by omega
       simpa using this
      have h3:(ts.length != 1)=true:=McT;exact MT
    ·simp only at h;subst h;by_cases h1:ts.length=0
     ·have h2:((ts.length:Int)==0)=true:=McT;have h3:(ts.length==0)=true:=McT;exact MT
     ·have h2:((ts.length:Int)==0)=false:=McT;have h3:(ts.length==0)=false:=McT;exact MT
   case rest=>
    obtain⟨rfl,rfl⟩:=hcut;cases dC:fm2 fn ts.length
    ·have br:=HR.o;rw[dC,if_neg Mcq]at br;have HR:=zHi br;clear br dC;go_upto_region 6 with fail
     go_cut [91]from 64 to 91 (fun v w4=>v= .bool (fm3 fc fy cl yr kd)/\wc=w4)
     case first=>
      cases ec:(fc==0)<;>cases ey:(fy==0)<;>cases ecl:(cl==0)<;>cases eyr:(yr==0)<;>cases ek:(kd==3)
      all_goals(
       have ecl2:(cl != 0)=!(cl==0):=rfl;have eyr2:(yr != 0)=!(yr==0):=rfl;simp only[ecl,eyr,Bool.not_true,Bool.not_false]at ecl2 eyr2;go_wp2_with fail
       go_meet
       exact⟨zaQ (by simp[fm3, *]),by first|exact True.intro|rfl⟩)
     case rest=>
      obtain⟨rfl,rfl⟩:=hcut;cases hx3:fm3 fc fy cl yr kd
      ·have br:=HR.o;rw[hx3,if_neg Mcq]at br;have HR:=zHi br;clear br hx3;go_upto_region 8 with fail
       rcases sU.o.s with h|h
       ·simp only at h;subst h;have HE:Hid (R=bt):=by show _=_;rw[HR.o];rfl
        go_wp2_with (go_at_call 178;go_must(refine(qd.o _ HB.o).mono ?_);rintro e wq ⟨rfl,rfl⟩)
        go_ret
        exact Ret.of (zaQ HE.o.symm) HB.o
       ·simp only at h;subst h;have br:Hid (R=if !s2||decide ((q.den:Int)<q.num)then false else fm5 kd cl yr q):=by show _=_;rw[HR.o];rfl
        go_upto_region 11 with(go_at_call 179;go_must(refine(pe.o _ HB.o).mono ?_);rintro e wq ⟨rfl,z1,rfl⟩)
        obtain⟨Q,hQ⟩: ∃Q,Q=wc.heap.size+z1.os.size:=⟨_,rfl⟩
        obtain⟨W3,aX⟩: ∃W3,W3=(wc.ext z1).alloc (.cells #[.int .i64 q.num, .int .i64 q.den] 71):=⟨_,rfl⟩
        have g3:W3.heap[Q]?=some (.cells #[.int .i64 q.num, .int .i64 q.den] 71):=by rw[aX];exact zar _ _ _ (by rw[hQ];simp[zae])
        have g2:W3.heap[w.heap.size]?=some (.cells #[.int .i64 kd, .int .i64 dy, .string pl, .string fr, .slice B ts.length c, .int .i64 cl, .int .i64 yr] 52):=by rw[aX];exact zal (zb2 g0)
        have aH:Hid (Below w.heap.size w W3):=by show Below _ _ _;rw[aX];exact zad (zb6 HB.o z1) _
        rw[<-aX,<-hQ];clear aX hQ d0 d1 d2 d3 d4 d5 d6 e0 e1 e2 e3 e4 e5 l0 l1 g0 g1;obtain⟨d0,d1,d2,d3,d4,d5,d6⟩:=zaG g2;obtain⟨q0,q1⟩:=zbu g3;have l2:=zab g2;have l3:=zab g3;cases s2
        ·have HE:Hid (R=false):=by show _=_;rw[br.o];rfl
         have HB:=aH;exact MU
        ·by_cases hq:(q.den:Int)<q.num
         ·have HE:Hid (R=false):=by show _=_;rw[br.o,if_pos MdF]
          have HB:=aH;exact MU
         ·have HE:Hid (R=fm5 kd cl yr q):=by show _=_;rw[br.o,if_neg MdF]
          go_upto_region 13 with fail
          by_cases k0:kd=0
          ·subst k0;by_cases u1:q.num=1
           ·by_cases u2:(q.den:Int)=1
            ·have ca:q.den=1:=Mcn;have cZ:q=1:=Rat.ext (by rw[u1];rfl) (by rw[ca];rfl);subst cZ;cases k2:(cl != 2)
             ·cases k3:decide (0<yr)
              ·exact Mv
              ·exact Mv
             ·exact Mv
            ·have cZ:(q==1)=false:=by simp;rintro rfl;exact u2 rfl
             have u3:((q.den:Int)==1)=false:=by simpa using u2
             exact Mv
           ·have cZ:(q==1)=false:=by simp;rintro rfl;exact u1 rfl
            have u3:(q.num==1)=false:=by simpa using u1
            exact Mv
          ·have k1:(kd != 0)=true:=by simpa using k0
           exact Mv
      ·have HE:Hid (R=false):=by show _=_;rw[HR.o,hx3];rfl
       exact MU
    ·have HE:Hid (R=false):=by show _=_;rw[HR.o,dC];rfl
     exact MU
  ·have HE:Hid (R=false):=by show _=_;rw[HR.o,ke];rfl
   exact MU
theorem zjr (ls:List Law) (A:Option Addr) (n c:Nat) (w:World) (hn:n=ls.length) (hS:Sl w 4 Law.cells A ls):Calls Tryz.prog 60 #[.slice A n c] w (Ret w (.int .i64 (za8 ls))):=by
 subst hn;go_enter Tryz.func60,Tryz.ntmps60
 by_cases EM:10<ls.length
 ·exact MaX
 have hx:decide ((10:Int)<(ls.length:Int))=false:=Mcr;go_wp2_with fail
 have hT:za8 ls=zeZ (ls.drop 0) (befP ls 0):=by rw[za8,if_neg Mcr];rfl
 go_loopw [3] (fun i wr=> ∃k:Nat,k<=ls.length/\i= .int .i64 k/\za8 ls=zeZ (ls.drop k) (befP ls k)/\ ∃z,wr=w.ext z) (fun i _=>ls.length-(intOf i).toNat)
 case atStart=>exact⟨0,Nat.zero_le _,rfl,hT,zba (Below.refl _ _)⟩
 case round=>
  obtain⟨k,hk,rfl,hf,z,rfl⟩:=hrel;clear hT hx;by_cases aa:k<ls.length
  ·rw[List.drop_eq_getElem_cons aa,zeZ]at hf;obtain⟨b,off,rfl,hb,hc⟩:=hS.at aa;have h0:w.cell? ⟨b,off+k*4,none⟩=some (.int .i64 ls[k].frm):=hc 0 _ rfl;have h1:w.cell? ⟨b,off+k*4+1,none⟩=some (.bool ls[k].stems):=hc 1 _ rfl;have h2:w.cell? ⟨b,off+k*4+2,none⟩=some (.int .i64 ls[k].num):=hc 2 _ rfl;have h3:w.cell? ⟨b,off+k*4+3,none⟩=some (.int .i64 ls[k].den):=hc 3 _ rfl;have HF:=zHi hf;have jC:(k:Int)<(ls.length:Int):=Mcn;have iD:0<k->w.cell? ⟨b,off+(k-1)*4,none⟩=some (.int .i64 (ls[k-1]' Mcn).frm):=fun aT=>by
    exact Mbw
   have HP:=zHi iD;have HB:befP ls (k+1)=some ls[k].frm:=zhD ls aa;have HB:=zHi HB;clear hc hf hS iD
   go_upto_region 10 with(first
    |(go_at_call 66;refine(zcM _ _).mono ?_;intro e wq hq;rcases Ret0.bools hq with⟨rfl,⟨hb,rfl⟩|⟨hb,rfl⟩⟩<;>clear hq)
    |(go_at_call 125;refine(zh2 _ _ _).mono ?_;intro e wq hq;rcases Ret.bools hq with⟨zq,rfl,⟨hb,rfl⟩|⟨hb,rfl⟩⟩<;>clear hq))
   all_goals first
    |(go_ret
      exact Ret.of (zb1 MdY) Bw)
    |skip
   rcases Nat.eq_zero_or_pos k with aT|aT
   ·have hd:decide ((k:Int)>0)=false:=Mcr;have gX:befP ls k=none:=by rw[befP,if_pos aT]
    go_quiet (fail)
    go_wp2_with fail
    go_round
    case rel=>subst aT;exact⟨1,by omega,rfl,by rw[HF.o,HB.o];simp[zhq, *],zba Bw⟩
    case measure=>simp[intOf];omega
   ·have hd:decide ((k:Int)>0)=true:=Mcr;have qa:IntKind.i64.wrap ((k:Int)-1)=(k:Int)-1:=IntWalk.i64_in _ Mcn;have i8:0<=(k:Int)-1:=Mcn;have fM:((k:Int)-1).toNat=k-1:=Mcn;have bE:(k:Int)-1<(ls.length:Int):=Mcn;have hp:=HP.o aT;have aE:befP ls k=some (ls[k-1]' Mcn).frm:=by have:=zhD ls (k:=k-1) Mcn;rwa [Nat.sub_add_cancel aT]at this
    go_quiet (fail)
    go_wp2_with fail
    all_goals first
     |(go_ret
       exact Ret.of (zb1 MdY) Bw)
     |(go_round
       case rel=>exact⟨k+1,by omega,by go_num,by rw[HF.o,HB.o];simp[zhq, *],zba Bw⟩
       case measure=>simp[intOf];omega)
  ·exact Maz
theorem zoY (ls:List Law) (A:Option Addr) (c:Nat) (day:Int) (w:World) (hl:ls.length<=10) (hS:Sl w 4 Law.cells A ls):Calls Tryz.prog 84 #[.slice A ls.length c, .int .i64 day] w (Ret w (zaY ls day).v):=by
 go_enter Tryz.func84,Tryz.ntmps84
 go_upto_region 3 with(go_at_call 93;go_must(refine(ziH _).mono ?_);rintro e wq ⟨rfl,z,rfl⟩)
 obtain⟨L,hL⟩: ∃L,L=w.heap.size+1+z.os.size:=⟨_,rfl⟩
 have zC:w.heap.size<L:=Mcn;rw[<-hL];have HL:=zHi hL;clear hL;go_loopw [6] (fun i wr=> ∃k:Nat,k<=ls.length/\i= .int .i64 k/\ ∃x:Law,x=zaY (ls.take k) day/\Below w.heap.size w wr/\L+1<=wr.heap.size/\wr.heap[w.heap.size]?=some (.cells #[.int .i64 0, .bool false, .int .i64 0, .int .i64 0] 130)/\wr.heap[L]?=some (.cells #[.int .i64 x.frm, .bool x.stems, .int .i64 x.num, .int .i64 x.den] 130)) (fun i _=>ls.length-(intOf i).toNat)
 case atStart=>
  refine⟨0,Nat.zero_le _,rfl,zmv,rfl,?_,?_,?_,?_⟩
  ·exact Bw
  ·rw[HL.o];simp[zae]
  ·exact zal (zb2 (zar _ _ _ rfl))
  ·exact zar _ _ _ (by rw[HL.o];simp[zae])
 case round=>
  obtain⟨k,hk,rfl,x,hx,hB,hsz,g0,g1⟩:=hrel;have c0:wr.cell? ⟨L,0,none⟩=some (.int .i64 x.frm):=Mct;have c1:wr.cell? ⟨L,1,none⟩=some (.bool x.stems):=Mct;have c2:wr.cell? ⟨L,2,none⟩=some (.int .i64 x.num):=Mct;have c3:wr.cell? ⟨L,3,none⟩=some (.int .i64 x.den):=Mct;have d0:wr.cell? ⟨w.heap.size,0,none⟩=some (.int .i64 0):=Mcs;have d1:wr.cell? ⟨w.heap.size,1,none⟩=some (.bool false):=Mcs;have d2:wr.cell? ⟨w.heap.size,2,none⟩=some (.int .i64 0):=Mcs;have d3:wr.cell? ⟨w.heap.size,3,none⟩=some (.int .i64 0):=Mcs;have f0:wr.frozen? ⟨w.heap.size,0,none⟩=false:=McA;have f1:wr.frozen? ⟨L,0,none⟩=false:=McB;have e1:wr.frozen? ⟨L,1,none⟩=false:=McB;have e2:wr.frozen? ⟨L,2,none⟩=false:=McB;have e3:wr.frozen? ⟨L,3,none⟩=false:=McB;have m1:wr.frozen? ⟨w.heap.size,1,none⟩=false:=McA;have m2:wr.frozen? ⟨w.heap.size,2,none⟩=false:=McA;have m3:wr.frozen? ⟨w.heap.size,3,none⟩=false:=McA;have dt:L<wr.heap.size:=Mcn;have aw:w.heap.size<wr.heap.size:=Mcn;have bp:L≠wr.heap.size:=Mcn;by_cases aa:k<ls.length
  ·obtain⟨b,off,rfl,hb,hc⟩:=(hS.keep hB).at aa;have h0:wr.cell? ⟨b,off+k*4,none⟩=some (.int .i64 ls[k].frm):=hc 0 _ rfl;have h1:wr.cell? ⟨b,off+k*4+1,none⟩=some (.bool ls[k].stems):=hc 1 _ rfl;have h2:wr.cell? ⟨b,off+k*4+2,none⟩=some (.int .i64 ls[k].num):=hc 2 _ rfl;have h3:wr.cell? ⟨b,off+k*4+3,none⟩=some (.int .i64 ls[k].den):=hc 3 _ rfl;clear hc hS;go_wp2_with fail
   ·refine⟨⟨k+1,by omega,by go_num,ls[k],by rw[zf3 ls day aa,if_pos (by simp;assumption)],?_,?_,?_,?_⟩,by simp[intOf];omega⟩
    ·exact zaM (zaM (zaM (zaM hB McD _) McD _) McD _) McD _
    ·first|omega|(simp;omega)
    ·exact((zaM (zaM (zaM (zaM (Below.refl L wr) McD _) McD _) McD _) McD _).block w.heap.size Mcn).trans g0
    ·exact zn9 g1
   ·exact⟨⟨k+1,by omega,by go_num,zaY (ls.take k) day,by rw[zf3 ls day aa,if_neg (by simp;assumption)],hB,hsz,g0,by simpa[hx]using g1⟩,by simp[intOf];omega⟩
  ·go_wp2_with fail
   have pH:ls.take k=ls:=List.take_of_length_le Mcn;have g4:=zn9 (a:= .int .i64 (zaY ls day).frm) (b:= .bool (zaY ls day).stems) (c:= .int .i64 (zaY ls day).num) (d:= .int .i64 (zaY ls day).den) g0;rw[pH];refine bodyPost_ret (v:=(zaY ls day).v) ?_ rfl ?_
   ·refine zif rfl _ _ w.heap.size _ rfl ?_ ?_ ?_ ?_<;>simp[World.cell?,g4]
   ·exact Ret.of rfl (zaM (zaM (zaM (zaM hB McD _) McD _) McD _) McD _)
theorem zoZ (y:Int) (w:World) (h0:0<=y) (h1:y<=100000):Calls Tryz.prog 279 #[.int .i64 y] w (Ret0 w (.bool (zgS y))):=by
 have w1:wrap64 (y.tmod 4)=y.tmod 4:=McN;have w2:wrap64 (y.tmod 100)=y.tmod 100:=McN;have w3:wrap64 (y.tmod 400)=y.tmod 400:=McN;have v1:IntKind.i64.wrap (y.tmod 4)=y.tmod 4:=McH;have v2:IntKind.i64.wrap (y.tmod 100)=y.tmod 100:=McH;have v3:IntKind.i64.wrap (y.tmod 400)=y.tmod 400:=McH;go_enter Tryz.func279,Tryz.ntmps279
 go_wp2_with fail
 all_goals go_ret
 all_goals exact⟨by simp[zgS,Int.tmod_eq_emod_of_nonneg h0, *],rfl⟩
theorem znl (y:Int) (w:World) (h0:0<=y) (h1:y<=100000):Calls Tryz.prog 278 #[.int .i64 y] w (Ret0 w (.int .i64 (zfa y))):=by
 have e1:y.tdiv 4=y/4:=Int.tdiv_eq_ediv_of_nonneg h0;have e2:y.tdiv 100=y/100:=Int.tdiv_eq_ediv_of_nonneg h0;have e3:y.tdiv 400=y/400:=Int.tdiv_eq_ediv_of_nonneg h0;have hv:=zdw h0;have HV:=zHi hv;clear hv;go_enter Tryz.func278,Tryz.ntmps278
 exact MbE
theorem znm {y:Int} (h0:0<=y) (h1:y<=100000):0<=zfa y/\zfa y<=100000:=by
 rw[zdw h0];omega
theorem zfy (y:Int) (m:Nat) (w:World) (h0:0<=y) (h1:y<=100000) (ct:1<=m) (fC:m<=12):Calls Tryz.prog 274 #[.int .i64 y, .int .i64 m] w (Ret0 w (.int .i64 (za7 y m))):=by
 have hm:m=2\/m=1\/m=3\/m=4\/m=5\/m=6\/m=7\/m=8\/m=9\/m=10\/m=11\/m=12:=Mcn;rcases hm with h|h|h|h|h|h|h|h|h|h|h|h
 ·subst h;unfold za7;cases hl:zgS y
  ·have aL: ∀W:World,Sem.run Tryz.prog (Instr.index 287 (.agg #[.int .i64 0, .int .i64 31, .int .i64 28, .int .i64 31, .int .i64 30, .int .i64 31, .int .i64 30, .int .i64 31, .int .i64 31, .int .i64 30, .int .i64 31, .int .i64 30, .int .i64 31]) (.int .i64 2)) W= .ok (.int .i64 28) W:=fun W=>by kernel_rfl
   exact MaK
  ·exact MaK
 ·(subst h
   have aL: ∀W:World,Sem.run Tryz.prog (Instr.index 287 (.agg #[.int .i64 0, .int .i64 31, .int .i64 28, .int .i64 31, .int .i64 30, .int .i64 31, .int .i64 30, .int .i64 31, .int .i64 31, .int .i64 30, .int .i64 31, .int .i64 30, .int .i64 31]) (.int .i64 1)) W= .ok (.int .i64 31) W:=fun W=>by kernel_rfl
   go_enter Tryz.func274,Tryz.ntmps274
   go_wp2_with fail
   go_ret
   exact⟨rfl,rfl⟩)
 ·(subst h
   have aL: ∀W:World,Sem.run Tryz.prog (Instr.index 287 (.agg #[.int .i64 0, .int .i64 31, .int .i64 28, .int .i64 31, .int .i64 30, .int .i64 31, .int .i64 30, .int .i64 31, .int .i64 31, .int .i64 30, .int .i64 31, .int .i64 30, .int .i64 31]) (.int .i64 3)) W= .ok (.int .i64 31) W:=fun W=>by kernel_rfl
   go_enter Tryz.func274,Tryz.ntmps274
   go_wp2_with fail
   go_ret
   exact⟨rfl,rfl⟩)
 ·(subst h
   have aL: ∀W:World,Sem.run Tryz.prog (Instr.index 287 (.agg #[.int .i64 0, .int .i64 31, .int .i64 28, .int .i64 31, .int .i64 30, .int .i64 31, .int .i64 30, .int .i64 31, .int .i64 31, .int .i64 30, .int .i64 31, .int .i64 30, .int .i64 31]) (.int .i64 4)) W= .ok (.int .i64 30) W:=fun W=>by kernel_rfl
   go_enter Tryz.func274,Tryz.ntmps274
   go_wp2_with fail
   go_ret
   exact⟨rfl,rfl⟩)
 ·(subst h
   have aL: ∀W:World,Sem.run Tryz.prog (Instr.index 287 (.agg #[.int .i64 0, .int .i64 31, .int .i64 28, .int .i64 31, .int .i64 30, .int .i64 31, .int .i64 30, .int .i64 31, .int .i64 31, .int .i64 30, .int .i64 31, .int .i64 30, .int .i64 31]) (.int .i64 5)) W= .ok (.int .i64 31) W:=fun W=>by kernel_rfl
   go_enter Tryz.func274,Tryz.ntmps274
   go_wp2_with fail
   go_ret
   exact⟨rfl,rfl⟩)
 ·(subst h
   have aL: ∀W:World,Sem.run Tryz.prog (Instr.index 287 (.agg #[.int .i64 0, .int .i64 31, .int .i64 28, .int .i64 31, .int .i64 30, .int .i64 31, .int .i64 30, .int .i64 31, .int .i64 31, .int .i64 30, .int .i64 31, .int .i64 30, .int .i64 31]) (.int .i64 6)) W= .ok (.int .i64 30) W:=fun W=>by kernel_rfl
   go_enter Tryz.func274,Tryz.ntmps274
   go_wp2_with fail
   go_ret
   exact⟨rfl,rfl⟩)
 ·(subst h
   have aL: ∀W:World,Sem.run Tryz.prog (Instr.index 287 (.agg #[.int .i64 0, .int .i64 31, .int .i64 28, .int .i64 31, .int .i64 30, .int .i64 31, .int .i64 30, .int .i64 31, .int .i64 31, .int .i64 30, .int .i64 31, .int .i64 30, .int .i64 31]) (.int .i64 7)) W= .ok (.int .i64 31) W:=fun W=>by kernel_rfl
   go_enter Tryz.func274,Tryz.ntmps274
   go_wp2_with fail
   go_ret
   exact⟨rfl,rfl⟩)
 ·(subst h
   have aL: ∀W:World,Sem.run Tryz.prog (Instr.index 287 (.agg #[.int .i64 0, .int .i64 31, .int .i64 28, .int .i64 31, .int .i64 30, .int .i64 31, .int .i64 30, .int .i64 31, .int .i64 31, .int .i64 30, .int .i64 31, .int .i64 30, .int .i64 31]) (.int .i64 8)) W= .ok (.int .i64 31) W:=fun W=>by kernel_rfl
   go_enter Tryz.func274,Tryz.ntmps274
   go_wp2_with fail
   go_ret
   exact⟨rfl,rfl⟩)
 ·(subst h
   have aL: ∀W:World,Sem.run Tryz.prog (Instr.index 287 (.agg #[.int .i64 0, .int .i64 31, .int .i64 28, .int .i64 31, .int .i64 30, .int .i64 31, .int .i64 30, .int .i64 31, .int .i64 31, .int .i64 30, .int .i64 31, .int .i64 30, .int .i64 31]) (.int .i64 9)) W= .ok (.int .i64 30) W:=fun W=>by kernel_rfl
   go_enter Tryz.func274,Tryz.ntmps274
   go_wp2_with fail
   go_ret
   exact⟨rfl,rfl⟩)
 ·(subst h
   have aL: ∀W:World,Sem.run Tryz.prog (Instr.index 287 (.agg #[.int .i64 0, .int .i64 31, .int .i64 28, .int .i64 31, .int .i64 30, .int .i64 31, .int .i64 30, .int .i64 31, .int .i64 31, .int .i64 30, .int .i64 31, .int .i64 30, .int .i64 31]) (.int .i64 10)) W= .ok (.int .i64 31) W:=fun W=>by kernel_rfl
   go_enter Tryz.func274,Tryz.ntmps274
   go_wp2_with fail
   go_ret
   exact⟨rfl,rfl⟩)
 ·(subst h
   have aL: ∀W:World,Sem.run Tryz.prog (Instr.index 287 (.agg #[.int .i64 0, .int .i64 31, .int .i64 28, .int .i64 31, .int .i64 30, .int .i64 31, .int .i64 30, .int .i64 31, .int .i64 31, .int .i64 30, .int .i64 31, .int .i64 30, .int .i64 31]) (.int .i64 11)) W= .ok (.int .i64 30) W:=fun W=>by kernel_rfl
   go_enter Tryz.func274,Tryz.ntmps274
   go_wp2_with fail
   go_ret
   exact⟨rfl,rfl⟩)
 ·(subst h
   have aL: ∀W:World,Sem.run Tryz.prog (Instr.index 287 (.agg #[.int .i64 0, .int .i64 31, .int .i64 28, .int .i64 31, .int .i64 30, .int .i64 31, .int .i64 30, .int .i64 31, .int .i64 31, .int .i64 30, .int .i64 31, .int .i64 30, .int .i64 31]) (.int .i64 12)) W= .ok (.int .i64 31) W:=fun W=>by kernel_rfl
   go_enter Tryz.func274,Tryz.ntmps274
   go_wp2_with fail
   go_ret
   exact⟨rfl,rfl⟩)
theorem zdo (y:Int) (m:Nat) (w:World) (h0:1800<=y) (h1:y<=2500) (ct:1<=m) (fC:m<=12):Calls Tryz.prog 273 #[.int .i64 y, .int .i64 m] w (Ret0 w (.int .i64 (zaE y m))):=by
 have Ky:=znm (y:=y-1) Mcn Mcn;have k0:IntKind.i64.wrap (y-1)=y-1:=IntWalk.i64_in _ Mcn;have k1:IntKind.i64.wrap (y-1800)=y-1800:=IntWalk.i64_in _ Mcn;have k2:IntKind.i64.wrap (365*(y-1800))=365*(y-1800):=IntWalk.i64_in _ Mcn;have k3:IntKind.i64.wrap (365*(y-1800)+zfa (y-1))=365*(y-1800)+zfa (y-1):=IntWalk.i64_in _ Mcn;have k4:IntKind.i64.wrap (365*(y-1800)+zfa (y-1)-436)=begP y:=by unfold begP;exact IntWalk.i64_in _ Mcn
 have tP:zfa 1799=436:=Mco;go_enter Tryz.func273,Tryz.ntmps273
 go_upto_region 3 with(go_at_call 278;refine(znl _ _ Mcn Mcn).mono ?_;rintro e wq ⟨rfl,rfl⟩;(try rw[tP]))
 clear k0 k1 k2 k3 k4 Ky;go_loop [5,6] (fun n i=> ∃k:Nat,1<=k/\k<=m/\i= .int .i64 k/\n= .int .i64 (zaE y k)) (fun _ i=>m-(intOf i).toNat)
 case atStart=>exact⟨1,by omega,ct,rfl,by rw[zbC]⟩
 case round=>
  obtain⟨k,fS,pH,rfl,rfl⟩:=hrel;by_cases aa:k<m
  ·have hb:=zca (m:=k) h0 h1 fS Mcn;have fR:=zdB y fS (show k<=12 by omega);have hu:=zf8 y fS;have HU:=zHi hu;have k2:IntKind.i64.wrap (zaE y k+za7 y k)=zaE y k+za7 y k:=IntWalk.i64_in _ Mcn;have bE:(k:Int)<(m:Int):=Mcn;clear hu;go_wp2_with (go_at_call 274;refine(zfy y k _ Mcn Mcn fS Mcn).mono ?_;rintro e wq ⟨rfl,rfl⟩)
   go_round
   case rel=>exact⟨k+1,by omega,by omega,by go_num,by rw[HU.o]⟩
   case measure=>simp[intOf];omega
  ·exact Mch
end Go.Proofs.YtjhbofabmpfniaaGreatDoor
