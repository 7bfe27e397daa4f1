import Derived.Test.YtegdimedhfafjaaGreatDoorRS
set_option linter.all false
set_option maxRecDepth 100000
set_option maxHeartbeats 4000000
namespace Go.Proofs.YtegdimedhfafjaaGreatDoor
open Go.RowKit Go.Shelf
attribute [local go_sem] World.cell?_alloc_mark zaf za5 zao za8 zav zaw zax zay zaz za0 za1
attribute [local go_sem] zaq zad
section
variable {W w:World} {b:Nat} {t:TypeId} {fr:Nat×Nat} {a0 a1 a2 a3 a4 a5 a6:Value}
theorem zbl(h:W.heap[b]?=some (.cells #[a0,a1] t fr)):W.cell? ⟨b,0,none⟩=some a0/\W.cell? ⟨b,1,none⟩=some a1:=by
 simp only[World.cell?,h];exact⟨rfl,rfl⟩
theorem zed(h:W.heap[b]?=some (.cells #[a0,a1,a2,a3,a4] t fr)):W.cell? ⟨b,0,none⟩=some a0/\W.cell? ⟨b,1,none⟩=some a1/\W.cell? ⟨b,2,none⟩=some a2/\W.cell? ⟨b,3,none⟩=some a3/\W.cell? ⟨b,4,none⟩=some a4:=by
 simp only[World.cell?,h];exact⟨rfl,rfl,rfl,rfl,rfl⟩
theorem cells6(h:W.heap[b]?=some (.cells #[a0,a1,a2,a3,a4,a5] t fr)):W.cell? ⟨b,0,none⟩=some a0/\W.cell? ⟨b,1,none⟩=some a1/\W.cell? ⟨b,2,none⟩=some a2/\W.cell? ⟨b,3,none⟩=some a3/\W.cell? ⟨b,4,none⟩=some a4/\W.cell? ⟨b,5,none⟩=some a5:=by
 simp only[World.cell?,h];exact⟨rfl,rfl,rfl,rfl,rfl,rfl⟩
theorem zaG(h:W.heap[b]?=some (.cells #[a0,a1,a2,a3,a4,a5,a6] t fr)):W.cell? ⟨b,0,none⟩=some a0/\W.cell? ⟨b,1,none⟩=some a1/\W.cell? ⟨b,2,none⟩=some a2/\W.cell? ⟨b,3,none⟩=some a3/\W.cell? ⟨b,4,none⟩=some a4/\W.cell? ⟨b,5,none⟩=some a5/\W.cell? ⟨b,6,none⟩=some a6:=by
 simp only[World.cell?,h];exact⟨rfl,rfl,rfl,rfl,rfl,rfl,rfl⟩
theorem frz{cs:Array Value}(h:W.heap[b]?=some (.cells cs t (0,0))):∀j,W.frozen? ⟨b,j,none⟩=false:=fun j=>by simp[World.frozen?,h]
theorem boxed{o:Obj}(h:w.alloc o=W):W.heap[w.heap.size]?=some o/\Below w.heap.size w W:=by
 subst h;exact⟨zas _ _ _ rfl,zac (Below.refl _ _) _⟩
end
theorem ziQ{α:Type}{W:World}{base size n c:Nat}{e:TypeId}{f:α->List Value}{A:Option Addr}{xs:List α}(ag:∀x,(f x).length=size)(h:OwnS W base e size f (.slice A n c) xs):Sl W size f A xs/\xs.length<=c:=by
 obtain⟨A',c',he,h1,h2⟩:=h.sl ag;simp only[Value.slice.injEq]at he;obtain⟨rfl,_,rfl⟩:=he;exact⟨h1,h2⟩
structure Fld where
 p:Int
 f:Int
 n:Int
 s:Int
 c:Int
 y:Int
def fldP(k:Int):Fld:=if k=0 then⟨1,0,2,1,1,1⟩else if k=1 then⟨1,1,2,1,0,0⟩else if k=2 then⟨1,1,0,0,0,0⟩else if k=3 then⟨1,0,0,0,0,1⟩else if k=4 then⟨0,1,2,1,0,0⟩else if k=8 then⟨0,1,0,0,0,0⟩else⟨0,1,1,0,0,0⟩
theorem zpj(k:Int):zkL k=sixV (fldP k).p (fldP k).f (fldP k).n (fldP k).s (fldP k).c (fldP k).y:=by
 unfold zkL fldP;repeat' split
 all_goals rfl
structure FldOk (x:Fld):Prop where
 p:x.p=0\/x.p=1
 f:x.f=0\/x.f=1
 n:x.n=0\/x.n=1\/x.n=2
 s:x.s=0\/x.s=1
 c:x.c=0\/x.c=1
 y:x.y=0\/x.y=1
theorem fld_ok(k:Int):FldOk (fldP k):=by
 unfold fldP;repeat' split
 all_goals exact⟨by decide,by decide,by decide,by decide,by decide,by decide⟩
def fm1(pl fr:ByteArray)(p f:Int)(ap:Bool):Bool:=(!noB pl) != (p==1)||(!noB fr) != (f==1)||!ap
def fm2(n:Int)(m:Nat):Bool:=n==0&&decide (0<m)||n==1&&m != 1||n==2&&m==0
def fm3(c y cl yr kd:Int):Bool:=c==0&&cl != 0||y==0&&yr != 0||kd==3&&yr==0
def fm5(kd cl yr:Int)(q:Rat):Bool:=kd != 0||q==1&&(cl != 2||decide (0<yr))
def zfu(d:Deed):Bool:=
 if fm1 d.place d.frm (fldP d.kind).p (fldP d.kind).f (zd0 d.to d.frm 0)then false else
 if fm2 (fldP d.kind).n d.to.length then false else
 if fm3 (fldP d.kind).c (fldP d.kind).y d.cls d.years d.kind then false else
 if(fldP d.kind).s==0 then d.to.all zh6 else
 if !(sumR d.to 0).2||decide ((sumR d.to 0).1.den<(sumR d.to 0).1.num)then false else fm5 d.kind d.cls d.years (sumR d.to 0).1
theorem znt:∀(l:List RPart) (o:Rat),(sumR l o).2=l.all zdV/\(l.all zdV=true->(sumR l o).1=o+sumQ (zam l))
 | [],o=>⟨rfl,fun _=>by show o=o+0;grind⟩
 |p::l,o=>by
  unfold sumR;cases h:zdV p
  ·rw[if_neg Mcp];exact⟨by rw[List.all_cons,h];rfl,fun h2=>by rw[List.all_cons,h]at h2;cases h2⟩
  ·rw[if_pos rfl,List.all_cons,h,Bool.true_and];have ih:=znt l (o+p.rat);refine⟨ih.1,fun h2=>?_⟩;rw[ih.2 h2];show _=o+(p.rat+sumQ (zam l));grind
theorem zpk(l:List RPart)(frm:ByteArray):zd0 l frm 0=(zcU l []&&l.all fun p=>!zae p.name frm):=rfl
theorem one_le{q:Rat}:decide ((q.den:Int)<q.num)=!decide (q<=1):=by
 have h:=Rat.le_iff q 1;have e:(q<=1)↔ ¬(q.den:Int)<q.num:=by rw[h];simp
 by_cases h1:q<=1
 ·rw[decide_eq_true h1,decide_eq_false (e.1 h1)];rfl
 ·rw[decide_eq_false h1,decide_eq_true (Classical.not_not.1 (fun h2=>h1 (e.2 h2)))];rfl
theorem parts_sum(all:Bool)(frm:ByteArray)(l:List RPart):zc6 true all frm l=(zd0 l frm 0&&((sumR l 0).2&&decide ((sumR l 0).1<=1)&&(!all||(sumR l 0).1==1))):=by
 have h:=znt l 0;rw[zpk,h.1];unfold zc6;rw[if_pos rfl];show(_&&(l.all zdV&&_&&_))=_;cases ha:l.all zdV
 ·simp
 ·rw[h.2 ha,Rat.zero_add]
theorem zpl(all:Bool)(frm:ByteArray)(l:List RPart):zc6 false all frm l=(zd0 l frm 0&&l.all zh6):=rfl
theorem len_empty(l:List RPart):(l.length==0)=l.isEmpty:=by cases l<;>rfl
theorem zpm{d:Deed}(hk:0<=d.kind/\d.kind<=8)(hy:0<=d.years):zfu d=zfP d:=by
 obtain⟨kd,dy,pl,fr,ts,cl,yr⟩:=d;have fR:kd=0\/kd=1\/kd=2\/kd=3\/kd=4\/kd=5\/kd=6\/kd=7\/kd=8:=by simp only at hk;omega
 unfold zfu zfP fm1 fm2 fm3 fm5;simp only[parts_sum,zpl,one_le]at hy⊢;have L5:ts.isEmpty=true->zd0 ts fr 0=true/\ts.all zh6=true:=by cases ts with
  |nil=>exact fun _=>⟨rfl,rfl⟩
  |cons=>exact fun h=>by cases h
 generalize zd0 ts fr 0=ap at*;generalize(sumR ts 0).2=s2;generalize(sumR ts 0).1=q;generalize ts.all zh6=bt at*;have bG:=len_empty ts;have pV:decide (0<ts.length)=!ts.isEmpty:=by cases ts<;>simp
 have pW:(ts.length==1)=true->ts.isEmpty=false:=by cases ts<;>simp
 have Gu:(ts.length != 1)=!(ts.length==1):=rfl;rw[pV,Gu,bG];generalize ts.isEmpty=em at*;generalize(ts.length==1)=on at*;generalize noB pl=np;generalize noB fr=nf;have hy:decide (0<yr)=!(yr==0):=by rw[Bool.eq_iff_iff];simp;omega
 have ux:(yr != 0)=!(yr==0):=rfl;have ah:(cl != 0)=!(cl==0):=rfl;have jR:(cl != 2)=!(cl==2):=rfl;rw[hy,ux,ah,jR];generalize(yr==0)=y0;generalize(cl==0)=c0;generalize(cl==2)=c2;generalize decide (q<=1)=q1;generalize(q==1)=q2;clear bG pV Gu hy ux ah jR hk;rcases fR with rfl|rfl|rfl|rfl|rfl|rfl|rfl|rfl|rfl<;>(clear q;simp[fldP])<;>(cases em<;>cases ap<;>simp at L5⊢ <;>cases on<;>simp at pW⊢ <;>cases y0<;>cases c0<;>cases s2<;>cases q1<;>cases q2<;>simp_all)
theorem znu(d:Deed)(B:Option Addr)(c:Nat)(w:World)(hl:d.to.length<=1000)(hS:Sl w 3 RPart.cells B d.to):Calls Tryz.prog 62 #[d.v B c] w (Ret w (.bool (zfu d))):=by
 obtain⟨R,hR⟩:∃R,R=zfu d:=⟨_,rfl⟩
 rw[<-hR];obtain⟨kd,dy,pl,fr,ts,cl,yr⟩:=d;have HS:=zHi hS;unfold zfu at hR;have dJ:=zpj kd;have kp:=fld_ok kd;simp only at hR hl hS;obtain⟨FP,Fk⟩:∃FP,FP=fldP kd:=⟨_,rfl⟩
 rw[<-Fk]at hR dJ kp;clear Fk;obtain⟨fp,ff,fn,fs,fc,fy⟩:=FP;obtain⟨tw,tx⟩:=yH2 kp (fun W=>zni kd W);rw[dJ]at tx;simp only at tx hR;unfold sixV at tx;have nD:=fun W (h:Below w.heap.size w W)=>zoZ ts fr B c W Mcm (HS.o.keep h)
 have dt:=fun W (h:Below w.heap.size w W)=>zoj ts B c W hl (HS.o.keep h)
 have FW:=fun W (h:Below w.heap.size w W)=>rBare_any ts B c W Mcm (HS.o.keep h)
 generalize zd0 ts fr 0=ap at*;generalize sumR ts 0=sq at*;generalize ts.all zh6=bt at*;obtain⟨q,s2⟩:=sq;unfold zaC at dt;obtain⟨HR,nr,qp⟩:=yH3 hR dt FW;unfold Deed.v;clear hR hS dJ kp dt FW;go_enter Tryz.func62,Tryz.ntmps62
 go_upto_region 2 with(go_at_call 99;go_must(refine(tx.o _).mono ?_);rintro e wq ⟨rfl,z0,rfl⟩)
 obtain⟨F,hF⟩:∃F,F=w.heap.size+1+z0.os.size:=⟨_,rfl⟩
 obtain⟨W0,ao⟩:∃W0,W0=((w.alloc (.cells #[.int .i64 kd,.int .i64 dy,.string pl,.string fr,.slice B ts.length c,.int .i64 cl,.int .i64 yr] 28)).ext z0).alloc (.cells #[.int .i64 fp,.int .i64 ff,.int .i64 fn,.int .i64 fs,.int .i64 fc,.int .i64 fy] 146):=⟨_,rfl⟩
 have g0:W0.heap[w.heap.size]?=some (.cells #[.int .i64 kd,.int .i64 dy,.string pl,.string fr,.slice B ts.length c,.int .i64 cl,.int .i64 yr] 28):=by rw[ao];exact zak (zbv (zas _ _ _ rfl))
 have g1:W0.heap[F]?=some (.cells #[.int .i64 fp,.int .i64 ff,.int .i64 fn,.int .i64 fs,.int .i64 fc,.int .i64 fy] 146):=by rw[ao];exact zas _ _ _ (by rw[hF];simp[zaf])
 have hB:Below w.heap.size w W0:=McW;rw[<-ao,<-hF];clear ao hF;have Ek:=zHi (fun W (h:Below W0.heap.size W0 W)=>nD W (hB.trans (h.mono hB.size)));clear nD;have HB:=zHi hB;obtain⟨d0,d1,d2,d3,d4,d5,d6⟩:=zaG g0;obtain⟨e0,e1,e2,e3,e4,e5⟩:=cells6 g1;have l0:=zab g0;have l1:=zab g1;clear hB;go_cut [32]from 6 to 32 (fun v wc=>v=.bool (fm1 pl fr fp ff ap)/\Below w.heap.size w wc/\wc.heap[w.heap.size]?=some (.cells #[.int .i64 kd,.int .i64 dy,.string pl,.string fr,.slice B ts.length c,.int .i64 cl,.int .i64 yr] 28)/\wc.heap[F]?=some (.cells #[.int .i64 fp,.int .i64 ff,.int .i64 fn,.int .i64 fs,.int .i64 fc,.int .i64 fy] 146))
 case first=>
  cases ep:(fp==1)<;>cases ef:(ff==1)<;>cases z1:noB pl<;>cases z2:noB fr
  all_goals(
   first
    |(have w1:¬pl.toList=[]:=by simpa using(show pl.toList.isEmpty=false from z1))
    |(have w1:pl.toList=[]:=by simpa using(show pl.toList.isEmpty=true from z1))
   first
    |(have w2:¬fr.toList=[]:=by simpa using(show fr.toList.isEmpty=false from z2))
    |(have w2:fr.toList=[]:=by simpa using(show fr.toList.isEmpty=true from z2))
   go_wp2_with (go_at_call 100;go_must(refine(Ek.o _ Bw).mono ?_);rintro e wq ⟨rfl,z,rfl⟩)
   go_meet
   exact⟨zaO (by simp[fm1, *]),by first|exact HB.o|exact zbm HB.o z,by first|exact g0|exact zbv g0,by first|exact g1|exact zbv g1⟩)
 case rest=>
  obtain⟨rfl,hB,g0,g1⟩:=hcut;clear Ek d0 d1 d2 d3 d4 d5 d6 e0 e1 e2 e3 e4 e5 l0 l1 HB;have HB:=zHi hB;obtain⟨d0,d1,d2,d3,d4,d5,d6⟩:=zaG g0;obtain⟨e0,e1,e2,e3,e4,e5⟩:=cells6 g1;have l0:=zab g0;have l1:=zab g1;clear hB;cases jW:fm1 pl fr fp ff ap
  ·have bD:=HR.o;rw[jW,if_neg Mcp]at bD;have HR:=zHi bD;clear bD jW;go_upto_region 4 with fail
   go_cut [63]from 33 to 63 (fun v w4=>v=.bool (fm2 fn ts.length)/\wc=w4)
   case first=>
    rcases tw.o.n with h|h|h
    ·simp only at h;subst h;by_cases h1:0<ts.length
     ·have h2:(0:Int)<(ts.length:Int):=Mcm;exact MU
     ·have h2:¬(0:Int)<(ts.length:Int):=Mcm;exact MU
    ·simp only at h;subst h;by_cases h1:ts.length=1
     ·have h2:((ts.length:Int) != 1)=false:=by rw[h1];rfl
      have h3:(ts.length != 1)=false:=McP;exact MU
     ·have h2:((ts.length:Int) != 1)=true:=by
       have:(ts.length:Int)≠1:=by omega
       simpa using this
      have h3:(ts.length != 1)=true:=McP;exact MU
    ·simp only at h;subst h;by_cases h1:ts.length=0
     ·have h2:((ts.length:Int)==0)=true:=McP;have h3:(ts.length==0)=true:=McP;exact MU
     ·have h2:((ts.length:Int)==0)=false:=McP;have h3:(ts.length==0)=false:=McP;exact MU
   case rest=>
    obtain⟨rfl,rfl⟩:=hcut;cases dA:fm2 fn ts.length
    ·have bD:=HR.o;rw[dA,if_neg Mcp]at bD;have HR:=zHi bD;clear bD dA;go_upto_region 6 with fail
     go_cut [91]from 64 to 91 (fun v w4=>v=.bool (fm3 fc fy cl yr kd)/\wc=w4)
     case first=>
      cases ec:(fc==0)<;>cases ey:(fy==0)<;>cases ecl:(cl==0)<;>cases eyr:(yr==0)<;>cases ek:(kd==3)
      all_goals(
       have ecl2:(cl != 0)=!(cl==0):=rfl;have eyr2:(yr != 0)=!(yr==0):=rfl;simp only[ecl,eyr,Bool.not_true,Bool.not_false]at ecl2 eyr2;go_wp2_with fail
       go_meet
       exact⟨zaO (by simp[fm3, *]),by first|exact True.intro|rfl⟩)
     case rest=>
      obtain⟨rfl,rfl⟩:=hcut;cases hx3:fm3 fc fy cl yr kd
      ·have bD:=HR.o;rw[hx3,if_neg Mcp]at bD;have HR:=zHi bD;clear bD hx3;go_upto_region 8 with fail
       rcases tw.o.s with h|h
       ·simp only at h;subst h;have HE:Hid (R=bt):=by show _=_;rw[HR.o];rfl
        go_wp2_with (go_at_call 101;go_must(refine(qp.o _ HB.o).mono ?_);rintro e wq ⟨rfl,rfl⟩)
        go_ret
        exact Ret.of (zaO HE.o.symm) HB.o
       ·simp only at h;subst h;have bD:Hid (R=if !s2||decide ((q.den:Int)<q.num)then false else fm5 kd cl yr q):=by show _=_;rw[HR.o];rfl
        go_upto_region 11 with(go_at_call 102;go_must(refine(nr.o _ HB.o).mono ?_);rintro e wq ⟨rfl,z1,rfl⟩)
        obtain⟨Q,hQ⟩:∃Q,Q=wc.heap.size+z1.os.size:=⟨_,rfl⟩
        obtain⟨W3,bm⟩:∃W3,W3=(wc.ext z1).alloc (.cells #[.int .i64 q.num,.int .i64 q.den] 56):=⟨_,rfl⟩
        have g3:W3.heap[Q]?=some (.cells #[.int .i64 q.num,.int .i64 q.den] 56):=by rw[bm];exact zas _ _ _ (by rw[hQ];simp[zaf])
        have g2:W3.heap[w.heap.size]?=some (.cells #[.int .i64 kd,.int .i64 dy,.string pl,.string fr,.slice B ts.length c,.int .i64 cl,.int .i64 yr] 28):=by rw[bm];exact zak (zbv g0)
        have aL:Hid (Below w.heap.size w W3):=by show Below _ _ _;rw[bm];exact zac (zbm HB.o z1) _
        rw[<-bm,<-hQ];clear bm hQ d0 d1 d2 d3 d4 d5 d6 e0 e1 e2 e3 e4 e5 l0 l1 g0 g1;obtain⟨d0,d1,d2,d3,d4,d5,d6⟩:=zaG g2;obtain⟨q0,q1⟩:=zbl g3;have l2:=zab g2;have l3:=zab g3;cases s2
        ·have HE:Hid (R=false):=by show _=_;rw[bD.o];rfl
         have HB:=aL;exact MV
        ·by_cases hq:(q.den:Int)<q.num
         ·have HE:Hid (R=false):=by show _=_;rw[bD.o,if_pos Mdl]
          have HB:=aL;exact MV
         ·have HE:Hid (R=fm5 kd cl yr q):=by show _=_;rw[bD.o,if_neg Mdl]
          go_upto_region 13 with fail
          by_cases k0:kd=0
          ·subst k0;by_cases u1:q.num=1
           ·by_cases u2:(q.den:Int)=1
            ·have bY:q.den=1:=Mcm;have cY:q=1:=Rat.ext (by rw[u1];rfl) (by rw[bY];rfl);subst cY;cases k2:(cl != 2)
             ·cases k3:decide (0<yr)
              ·exact Mu
              ·exact Mu
             ·exact Mu
            ·have cY:(q==1)=false:=by simp;rintro rfl;exact u2 rfl
             have u3:((q.den:Int)==1)=false:=by simpa using u2
             exact Mu
           ·have cY:(q==1)=false:=by simp;rintro rfl;exact u1 rfl
            have u3:(q.num==1)=false:=by simpa using u1
            exact Mu
          ·have k1:(kd != 0)=true:=by simpa using k0
           exact Mu
      ·have HE:Hid (R=false):=by show _=_;rw[HR.o,hx3];rfl
       exact MV
    ·have HE:Hid (R=false):=by show _=_;rw[HR.o,dA];rfl
     exact MV
  ·have HE:Hid (R=false):=by show _=_;rw[HR.o,jW];rfl
   exact MV
