import Derived.Test.YtbobmplpdmplkaaGreatDoorYS
set_option linter.all false
set_option maxRecDepth 100000
set_option maxHeartbeats 4000000
namespace Go.Proofs.YtbobmplpdmplkaaGreatDoor
open Go.RowKit Go.Shelf
attribute [local go_sem] World.cell?_alloc_mark zaf za4 zam za7 zaw zax zay zaz za0 za1 za2
attribute [local go_sem] zan zac
theorem zjd(ls:List Law)(ds:List Deed)(LA:Option Addr)(n nc:Nat)(DA:Option Addr)(m mc:Nat)(nm:ByteArray)(dy:Int)(w:World)(hL:Laid5 w)(hR:RightsIn w ls ds LA n nc DA m mc):
 Calls Tryz.prog 4 #[.agg #[.slice LA n nc,.slice DA m mc],.string nm,.int .i64 dy] w (Ret w (.bool true)):=by
 obtain⟨HL,HR,qq⟩:=yH3 hL hR (fun W (h:Below w.heap.size w W)=>few_any ls ds LA n nc DA m mc W (hR.keep h));clear hL hR;go_enter Tryz.func4,Tryz.ntmps4
 go_upto_region 1 with fail
 obtain⟨W0,am⟩:∃W0,W0=w.alloc (.cells #[.slice LA n nc,.slice DA m mc] 25):=⟨_,rfl⟩
 obtain⟨b0,aK⟩:=boxed am.symm;rw[<-am];have aj:=zHi aK;clear am aK;go_upto_region 3 with(go_at_call 5;go_must(refine(zpl _ (HL.o.keep aj.o)).mono ?_);rintro e wq ⟨rfl,z0,rfl⟩)
 have c0:(W0.ext z0).heap[w.heap.size]?=some (.cells #[.slice LA n nc,.slice DA m mc] 25):=zbD b0;have cu:Below w.heap.size w (W0.ext z0):=zbv aj.o z0;generalize W0.ext z0=W1 at*;have aA:=zHi cu;clear b0 aj cu;obtain⟨r0,r1⟩:=zbt c0;have l0:=zab c0;cases s7:fewP ls ds
 ·rw[s7]at qq;clear s7;exact MaU
 obtain⟨bE,xl,wN,sM⟩:=few_lens s7;rw[s7]at qq;clear s7;have gD:=zHi (fun W (h:Below w.heap.size w W)=>zpb ls ds LA n nc DA m mc W (HR.o.keep h) Mcy Mcy (fun d hd=>by have:=sM d hd;omega));by_cases iN:20<nm.size
 ·have iM:(20:Int)<(nm.size:Int):=Mcy;clear bE xl wN sM gD;exact MaU
 have iM:¬(20:Int)<(nm.size:Int):=Mcy;obtain⟨lq,jZ,gF,iC,dQ,vp⟩:=yH6 (fun A1 n1 B1 n2 W (h:Below w.heap.size w W) (hr:RightsIn W ls ds A1 ls.length n1 B1 ds.length n2)=>alive_any ls ds nm dy A1 ls.length n1 B1 ds.length n2 W hr (HL.o.keep h).forms (HL.o.keep h).lens bE Mcy) (fun A1 n1 B1 n2 W (h:Below w.heap.size w W) (hr:RightsIn W ls ds A1 ls.length n1 B1 ds.length n2)=>znj ls ds nm dy A1 ls.length n1 B1 ds.length n2 W hr (HL.o.keep h).forms (HL.o.keep h).lens bE Mcy) (fun A1 n1 B1 n2 W (h:Below w.heap.size w W) (hr:RightsIn W ls ds A1 ls.length n1 B1 ds.length n2)=>desc5_any ls ds nm dy A1 ls.length n1 B1 ds.length n2 W hr (HL.o.keep h).forms (HL.o.keep h).lens bE Mcy) (fun W (h:Below w.heap.size w W) NA (hS:Sl W 1 sC NA [nm])=>zp4 ls ds [nm] dy LA n nc DA m mc NA 1 1 W (HR.o.keep h) bE Mcy rfl McB McD hS) (fun W (h:Below w.heap.size w W)=>rOn_any ls ds dy LA n nc DA m mc W (HR.o.keep h) bE Mcy) (fun(h:zc1 ls ds [nm] dy=0)=>on_told h);have gW:ds.length<=1000:=Mcy;unfold zn0 at dQ;unfold DescApi at gF;clear bE xl wN sM iN HR HL;generalize zc1 ls ds [nm] dy=E at*;generalize zaL ls ds dy=Q at*;go_upto_region 5 with(go_at_call 6;go_must(refine(qq.o _ Meq).mono ?_);rintro e wq ⟨rfl,z,rfl⟩)
 have c1:(W1.ext z).heap[w.heap.size]?=some (.cells #[.slice LA n nc,.slice DA m mc] 25):=zbD c0;have bG:Below w.heap.size w (W1.ext z):=zbv aA.o z;generalize W1.ext z=W2 at*;obtain⟨HB,C1⟩:=yH2 bG c1;clear c0 r0 r1 l0 bG aA qq;obtain⟨r0,r1⟩:=zbt c1;have l0:=zab c1;clear c1;by_cases hE:E=0;rotate_left 1
 ·rw[if_neg hE]at lq jZ;have ER:(E != 0)=true:=by simpa using hE
  have HE:=zHi hE;clear vp dQ hE
  go_upto_region 6 with(first
   |(go_at_call 8
     go_must(refine(gD.o _ HB.o).mono ?_)
     rintro e w5 ⟨A1,n1,B1,n2,rfl,eZ,ao⟩;obtain⟨fA,aR,ic⟩:=yH3 eZ ao (HB.o.trans (ao.mono HB.o.size))
     clear eZ ao)
   |(go_at_call 16
     go_must(refine(lq.o A1 n1 B1 n2 _ ic.o fA.o).mono ?_)
     rintro e w6 ⟨rfl,z6,rfl⟩))
  have bj:=zHi (zbv aR.o z6);generalize w5.ext z6=w6 at*;have C1:=zHi (((show Below W2.heap.size W2 w6 from bj.o).block _ l0).trans C1.o);have HB:=zHi (HB.o.trans ((show Below W2.heap.size W2 w6 from bj.o).mono HB.o.size));clear r0 r1 l0;obtain⟨r0,r1⟩:=zbt C1.o;have l0:=zab C1.o;clear aR bj fA ic;obtain⟨W2,bP⟩:∃W2,W2=w6:=⟨_,rfl⟩
  subst bP
  go_upto_region 7 with(first
   |(go_at_call 8
     go_must(refine(gD.o _ HB.o).mono ?_)
     rintro e w5 ⟨A1,n1,B1,n2,rfl,eZ,ao⟩;obtain⟨fA,aR,ic⟩:=yH3 eZ ao (HB.o.trans (ao.mono HB.o.size))
     clear eZ ao)
   |(go_at_call 17
     go_must(refine(jZ.o A1 n1 B1 n2 _ ic.o fA.o).mono ?_)
     rintro e w6 ⟨rfl,z6,rfl⟩))
  have bj:=zHi (zbv aR.o z6);generalize w5.ext z6=w6 at*;have C1:=zHi (((show Below W2.heap.size W2 w6 from bj.o).block _ l0).trans C1.o);have HB:=zHi (HB.o.trans ((show Below W2.heap.size W2 w6 from bj.o).mono HB.o.size));clear r0 r1 l0;obtain⟨r0,r1⟩:=zbt C1.o;have l0:=zab C1.o;clear aR bj fA ic;obtain⟨W2,bP⟩:∃W2,W2=w6:=⟨_,rfl⟩
  subst bP
  go_upto_region 8 with(first
   |(go_at_call 8
     go_must(refine(gD.o _ HB.o).mono ?_)
     rintro e w5 ⟨A1,n1,B1,n2,rfl,eZ,ao⟩;obtain⟨fA,aR,ic⟩:=yH3 eZ ao (HB.o.trans (ao.mono HB.o.size))
     clear eZ ao)
   |(go_at_call 18
     go_must(refine(gF.o A1 n1 B1 n2 _ ic.o fA.o).mono ?_)
     rintro e w6 ⟨aP,⟨_,rfl⟩|⟨h0,_⟩⟩;rotate_left 1
     ·exact absurd h0 HE.o
     have bj:=zHi (aR.o.trans (aP.mono aR.o.size))
     clear aP))
  have C1:=zHi (((show Below W2.heap.size W2 w6 from bj.o).block _ l0).trans C1.o);have HB:=zHi (HB.o.trans ((show Below W2.heap.size W2 w6 from bj.o).mono HB.o.size));clear r0 r1 l0;obtain⟨r0,r1⟩:=zbt C1.o;have l0:=zab C1.o;clear aR bj fA ic;go_wp2_with (go_at_call 10;go_must(refine(iC.o _ (by have:=HB.o;exact Bw) _ (zcl (zar _ _ _ rfl))).mono ?_);rintro e wq ⟨rfl,z,rfl⟩)
  go_ret
  exact Ret.of rfl (zbv (zad HB.o _) z)
 rw[if_pos hE,hE]at lq jZ;rw[hE]at iC;obtain⟨hq,hT⟩:=vp.o hE;obtain⟨HQ,HT,HE⟩:=yH3 hq hT hE;clear vp hq hT hE;obtain⟨dd,jL⟩:∃dd,dd=zaJ Q.1 nm:=⟨_,rfl⟩
 obtain⟨sp,bU⟩:∃sp,sp=zaG Q.1 nm:=⟨_,rfl⟩
 rw[<-jL]at lq;rw[<-bU]at jZ;obtain⟨fL,yY⟩:=yH2 jL bU;clear jL bU
 go_upto_region 6 with(first
  |(go_at_call 8
    go_must(refine(gD.o _ HB.o).mono ?_)
    rintro e w5 ⟨A1,n1,B1,n2,rfl,eZ,ao⟩;obtain⟨fA,aR,ic⟩:=yH3 eZ ao (HB.o.trans (ao.mono HB.o.size))
    clear eZ ao)
  |(go_at_call 16
    go_must(refine(lq.o A1 n1 B1 n2 _ ic.o fA.o).mono ?_)
    rintro e w6 ⟨rfl,z6,rfl⟩))
 have bj:=zHi (zbv aR.o z6);generalize w5.ext z6=w6 at*;have C1:=zHi (((show Below W2.heap.size W2 w6 from bj.o).block _ l0).trans C1.o);have HB:=zHi (HB.o.trans ((show Below W2.heap.size W2 w6 from bj.o).mono HB.o.size));clear r0 r1 l0;obtain⟨r0,r1⟩:=zbt C1.o;have l0:=zab C1.o;clear aR bj fA ic;obtain⟨W2,bP⟩:∃W2,W2=w6:=⟨_,rfl⟩
 subst bP
 go_upto_region 7 with(first
  |(go_at_call 8
    go_must(refine(gD.o _ HB.o).mono ?_)
    rintro e w5 ⟨A1,n1,B1,n2,rfl,eZ,ao⟩;obtain⟨fA,aR,ic⟩:=yH3 eZ ao (HB.o.trans (ao.mono HB.o.size))
    clear eZ ao)
  |(go_at_call 17
    go_must(refine(jZ.o A1 n1 B1 n2 _ ic.o fA.o).mono ?_)
    rintro e w6 ⟨rfl,z6,rfl⟩))
 have bj:=zHi (zbv aR.o z6);generalize w5.ext z6=w6 at*;have C1:=zHi (((show Below W2.heap.size W2 w6 from bj.o).block _ l0).trans C1.o);have HB:=zHi (HB.o.trans ((show Below W2.heap.size W2 w6 from bj.o).mono HB.o.size));clear r0 r1 l0;obtain⟨r0,r1⟩:=zbt C1.o;have l0:=zab C1.o;clear aR bj fA ic;obtain⟨W2,bP⟩:∃W2,W2=w6:=⟨_,rfl⟩
 subst bP
 go_upto_region 8 with(first
  |(go_at_call 8
    go_must(refine(gD.o _ HB.o).mono ?_)
    rintro e w5 ⟨A1,n1,B1,n2,rfl,eZ,ao⟩;obtain⟨fA,aR,ic⟩:=yH3 eZ ao (HB.o.trans (ao.mono HB.o.size))
    clear eZ ao)
  |(go_at_call 18
    go_must(refine(gF.o A1 n1 B1 n2 _ ic.o fA.o).mono ?_)
    rintro e w6 ⟨aP,⟨h0,_⟩|⟨_,AH,ch,ys,rfl,bA,has,Gd,sU⟩⟩
    ·exact absurd HE.o h0
    obtain⟨bj,gK,Hb,Ih⟩:=yH4 (aR.o.trans (aP.mono aR.o.size)) bA has Gd
    clear aP bA has Gd))
 have C1:=zHi (((show Below W2.heap.size W2 w6 from bj.o).block _ l0).trans C1.o);have HB:=zHi (HB.o.trans ((show Below W2.heap.size W2 w6 from bj.o).mono HB.o.size));clear r0 r1 l0;obtain⟨r0,r1⟩:=zbt C1.o;have l0:=zab C1.o;clear aR bj fA ic lq jZ gF gD;have kS:Hid (ys.length<=100000):=by
  show _<=_;have:=HT.o.few.kids;omega
 clear sU
 go_upto_region 12 with(first
  |(go_at_call 10;go_must(refine(iC.o _ (by have:=HB.o;exact Bw) _ (zcl (zar _ _ _ rfl))).mono ?_);rintro e wq ⟨rfl,z,rfl⟩)
  |(go_at_call 12
    go_must(refine(dQ.o _ (by have:=HB.o;exact Bw)).mono ?_)
    rintro e w9 ⟨a0,a1,a2,a3,a4,a5,a6,rfl,aV,cE,aq⟩;obtain⟨⟨A0,m0,q0,rfl⟩,⟨A1,m1,q1,rfl⟩,⟨A2,m2,q2,rfl⟩,⟨A3,m3,q3,rfl⟩,⟨A4,m4,q4,rfl⟩,⟨A5,m5,q5,rfl⟩,⟨A6,m6,q6,rfl⟩⟩:=zc2 aV;obtain⟨vl,hJ⟩:=yH2 (aq HQ.o) cE
    clear cE aV aq))
 have rH:Below w6.heap.size w6 ((w6.alloc (.cells #[.string nm] 9)).ext z):=zbv (zad (Below.refl _ _) _) z;have fK:=zHi ((HB.o.trans (rH.mono HB.o.size)).trans (hJ.o.mono (HB.o.trans (rH.mono HB.o.size)).size));have Em:=zHi (fun W (h:Below w9.heap.size w9 W)=>(gK.o.keep ((rH.trans (hJ.o.mono rH.size)).trans (h.mono (rH.trans (hJ.o.mono rH.size)).size)):Sl W 1 sC AH ys));clear rH gK hJ HB iC dQ C1 r0 r1 l0;obtain⟨SB,ja⟩:∃SB,SB=w9.heap.size:=⟨_,rfl⟩
 obtain⟨W3,aY⟩:∃W3,W3=w9.alloc (.cells #[.slice A0 m0 q0,.slice A1 m1 q1,.slice A2 m2 q2,.slice A3 m3 q3,.slice A4 m4 q4,.slice A5 m5 q5,.slice A6 m6 q6] 44):=⟨_,rfl⟩
 obtain⟨g3,ax⟩:=boxed aY.symm;rw[<-ja]at g3;obtain⟨aB,aD,uq,G3⟩:=yH4 (vl.o.keep ax) (fK.o.trans (ax.mono fK.o.size)) ax g3;rw[<-aY,<-ja];clear aY ja vl ax;obtain⟨s0,s1,s2,s3,s4,s5,s6⟩:=zaF g3;have lsb:=zab g3;clear g3;obtain⟨Bg,E0,nW,E3⟩:=yH4 (fun W (h:Below W3.heap.size W3 W)=>Em.o W (uq.o.trans (h.mono uq.o.size))) (fun W (h:Below W3.heap.size W3 W)=>tDead (aB.o.keep h) HT.o gW nm) (fun W (h:Below W3.heap.size W3 W)=>tSpouse (aB.o.keep h) HT.o gW nm) (fun W (h:Below W3.heap.size W3 W)=>tDesc (aB.o.keep h) HT.o gW nm);rw[<-fL.o]at E0;rw[<-yY.o]at nW;unfold zpo at E3;clear Em aB fL yY
 cases dd<;>(
  go_wp2_with (first
   |(go_at_call 19;go_must(refine(E0.o _ Bw).mono ?_);rintro e wq ⟨rfl,z1,rfl⟩)
   |(go_at_call 20;go_must(refine(nW.o _ Bw).mono ?_);rintro e wq ⟨rfl,z2,rfl⟩)
   |(go_at_call 21
     go_must(refine(E3.o _ Bw).mono ?_)
     rintro e w11 ⟨v,ys2,rfl,aa,cF,zK,nJ,ww⟩;obtain rfl:ys2=ys:=asc_same zK Hb.o fun y=>(cF y).trans (Ih.o y).symm
     obtain⟨AI,ci,rfl,Gw,_⟩:=aa.sl za9;have dF:=zHi ((show Below W3.heap.size W3 ((W3.ext z1).ext z2) from Bw).trans (ww.mono McH));have IB:=zHi Gw
     clear aa cF zK nJ ww Gw)
   |(go_at_call 11;go_must(refine(texts_any ys2 AH AI ch ci _ (Bg.o _ dF.o) IB.o kS.o).mono ?_);rintro e wq ⟨rfl,z3,rfl⟩))
  go_ret
  exact Ret.of rfl (zbv (aD.o.trans (dF.o.mono aD.o.size)) z3))
