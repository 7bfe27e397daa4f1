/- The law RightHolders, walked. -/
import Derived.Test.YtckkbkdcdkhglaaGreatDoorXX
import Derived.Test.YtckkbkdcdkhglaaGreatDoorXV
set_option linter.unusedSimpArgs false
set_option linter.unusedVariables false
set_option maxRecDepth 100000
set_option maxHeartbeats 4000000
namespace Go.Proofs.YtckkbkdcdkhglaaGreatDoor
open Go.RowKit Go.Shelf
attribute [local go_sem] World.cell?_alloc_mark zag za5 zaq za8 zaw zax zay zaz za0 za1 za2
attribute [local go_sem] zap zad
theorem spot_err {laws:List Law} {ds:List Deed} {pl:ByteArray} {dy:Int} {f:Grave->Int} (h:zbL laws ds [pl] dy≠0):zfY laws ds pl dy f=(0,zbL laws ds [pl] dy):=by
 unfold zfY;rw[if_pos Mdx]
theorem spot_none {laws:List Law} {ds:List Deed} {pl:ByteArray} {dy:Int} {f:Grave->Int} (h:zbL laws ds [pl] dy=0) (hg:zaJ (zaF laws ds dy).1 pl dy=none):zfY laws ds pl dy f=(0,12):=by
 unfold zfY;rw[if_neg (by simp[h]),hg]
theorem spot_some {laws:List Law} {ds:List Deed} {pl:ByteArray} {dy:Int} {f:Grave->Int} {i:Nat} {g:Grave} (h:zbL laws ds [pl] dy=0) (hg:zaJ (zaF laws ds dy).1 pl dy=some i) (h2:(zaF laws ds dy).1.graves.getD i ze0=g):zfY laws ds pl dy f=(f g,0):=by
 unfold zfY;rw[if_neg (by simp[h]),hg];simp only[h2]
theorem Told.holders {k:Nat} {s:St} (h:Told k s) (pl:ByteArray) (dy:Int):(zcH s pl dy).length<=80*k:=by
 unfold zcH;cases hg:zaJ s pl dy with
 |none=>simp
 |some i=>
  obtain⟨g,_,h2,h3⟩:=zgB hg;simp only[h2];exact(h.few.held g h3).1
theorem zh5 (ls:List Law) (ds:List Deed) (LA:Option Addr) (n nc:Nat) (DA:Option Addr) (m mc:Nat) (pl:ByteArray) (dy:Int) (w:World) (hL:Laid5 w) (hR:RightsIn w ls ds LA n nc DA m mc):
 Calls Tryz.prog 3 #[.agg #[.slice LA n nc, .slice DA m mc], .string pl, .int .i64 dy] w (Ret w (.bool true)):=by
 have HL:=zHi hL;have HR:=zHi hR;have kH:=zHi (fun W (h:Below w.heap.size w W)=>few_any ls ds LA n nc DA m mc W (hR.keep h));clear hL hR;go_enter Tryz.func3,Tryz.ntmps3
 go_upto_region 1 with fail
 obtain⟨W0,ao⟩: ∃W0,W0=w.alloc (.cells #[.slice LA n nc, .slice DA m mc] 25):=⟨_,rfl⟩
 obtain⟨b0,aI⟩:=boxed ao.symm;rw[<-ao];have ak:=zHi aI;clear ao aI;go_upto_region 3 with(go_at_call 5;go_must(refine(zjW _ (HL.o.keep ak.o)).mono ?_);rintro e wq ⟨rfl,z0,rfl⟩)
 have c0:(W0.ext z0).heap[w.heap.size]?=some (.cells #[.slice LA n nc, .slice DA m mc] 25):=zb9 b0;have cE:Below w.heap.size w (W0.ext z0):=zbc ak.o z0;generalize W0.ext z0=W1 at*;have aG:=zHi cE;clear b0 ak cE;obtain⟨r0,r1⟩:=zba c0;have l0:=zab c0;cases kp:fewP ls ds
 ·rw[kp]at kH;clear kp;exact MZ
 obtain⟨bp,mJ,my,jz⟩:=znW kp;rw[kp]at kH;clear kp;have dS:=zHi (fun W (h:Below w.heap.size w W)=>zjN ls ds LA n nc DA m mc W (HR.o.keep h) Mcl Mcl (fun d hd=>by have:=jz d hd;omega));by_cases kZ:20<pl.size
 ·have ib:(20:Int)<(pl.size:Int):=Mcl;clear bp mJ my jz dS;exact MZ
 have ib: ¬(20:Int)<(pl.size:Int):=Mcl;have sW:=zHi (fun A1 n1 B1 n2 W (h:Below w.heap.size w W) (hr:RightsIn W ls ds A1 ls.length n1 B1 ds.length n2)=>ziO ls ds pl dy A1 ls.length n1 B1 ds.length n2 W hr (HL.o.keep h).forms (HL.o.keep h).lens bp Mcl);have bU:=zHi (fun A1 n1 B1 n2 W (h:Below w.heap.size w W) (hr:RightsIn W ls ds A1 ls.length n1 B1 ds.length n2)=>zps ls ds pl dy A1 ls.length n1 B1 ds.length n2 W hr (HL.o.keep h).forms (HL.o.keep h).lens bp Mcl);have lE:=zHi (fun A1 n1 B1 n2 W (h:Below w.heap.size w W) (hr:RightsIn W ls ds A1 ls.length n1 B1 ds.length n2)=>ends5_any ls ds pl dy A1 ls.length n1 B1 ds.length n2 W hr (HL.o.keep h).forms (HL.o.keep h).lens bp Mcl);have fA:=zHi (fun W (h:Below w.heap.size w W) NA (hS:Sl W 1 sC NA [pl])=>zkf ls ds [pl] dy LA n nc DA m mc NA 1 1 W (HR.o.keep h) bp Mcl rfl Mco Mcq hS);have eo:=zHi (fun W (h:Below w.heap.size w W)=>rOn_any ls ds dy LA n nc DA m mc W (HR.o.keep h) bp Mcl);have nk:=zHi (fun(h:zbL ls ds [pl] dy=0)=>on_told h);have jd:=zHi (fun(f:Grave->Int) h=>spot_err (laws:=ls) (ds:=ds) (pl:=pl) (dy:=dy) (f:=f) h);have jY:=zHi (fun(f:Grave->Int) h h2=>spot_none (laws:=ls) (ds:=ds) (pl:=pl) (dy:=dy) (f:=f) h h2);have jJ:=zHi (fun(f:Grave->Int) i g h h2 h3=>spot_some (laws:=ls) (ds:=ds) (pl:=pl) (dy:=dy) (f:=f) (i:=i) (g:=g) h h2 h3);have fj:ds.length<=1000:=Mcl;unfold zfV at sW;unfold zkV at eo;clear bp mJ my jz kZ HR HL;generalize zfY ls ds pl dy=sp at*
 generalize zbL ls ds [pl] dy=E at*;generalize zaF ls ds dy=Q at*;go_upto_region 5 with(go_at_call 6;go_must(refine(kH.o _ MdL).mono ?_);rintro e wq ⟨rfl,z,rfl⟩)
 have c1:(W1.ext z).heap[w.heap.size]?=some (.cells #[.slice LA n nc, .slice DA m mc] 25):=zb9 c0;have bL:Below w.heap.size w (W1.ext z):=zbc aG.o z;generalize W1.ext z=W2 at*;have HB:=zHi bL;have C1:=zHi c1;clear c0 r0 r1 l0 bL aG kH;obtain⟨r0,r1⟩:=zba c1;have l0:=zab c1;clear c1;by_cases hE:E=0;rotate_left 1
 ·have h1:=jd.o Grave.cls hE;have h2:=jd.o Grave.fin hE;rw[h1]at bU;rw[h2]at lE;have IL:(E != 0)=true:=by simpa using hE
  have HE:=zHi hE;clear jd jY jJ nk eo h1 h2 hE
  go_upto_region 6 with(first
   |(go_at_call 8
     go_must(refine(dS.o _ HB.o).mono ?_)
     rintro e w5 ⟨A1,n1,B1,n2,rfl,ck,aj⟩;have cH:=zHi ck;have aH:=zHi aj;have cQ:=zHi (HB.o.trans (aj.mono HB.o.size))
     clear ck aj)
   |(go_at_call 7
     go_must(refine(sW.o A1 n1 B1 n2 _ cQ.o cH.o).mono ?_)
     rintro e w6 ⟨aE,⟨_,rfl⟩|⟨h0,_⟩⟩;rotate_left 1
     ·exact absurd h0 HE.o
     have aC:=zHi (aH.o.trans (aE.mono aH.o.size))
     clear aE))
  have C1:=zHi (((show Below W2.heap.size W2 w6 from aC.o).block _ l0).trans C1.o);have HB:=zHi (HB.o.trans ((show Below W2.heap.size W2 w6 from aC.o).mono HB.o.size));clear r0 r1 l0;obtain⟨r0,r1⟩:=zba C1.o;have l0:=zab C1.o;clear aH aC cH cQ;obtain⟨W2,bM⟩: ∃W2,W2=w6:=⟨_,rfl⟩
  subst bM
  go_upto_region 7 with(first
   |(go_at_call 8
     go_must(refine(dS.o _ HB.o).mono ?_)
     rintro e w5 ⟨A1,n1,B1,n2,rfl,ck,aj⟩;have cH:=zHi ck;have aH:=zHi aj;have cQ:=zHi (HB.o.trans (aj.mono HB.o.size))
     clear ck aj)
   |(go_at_call 9
     go_must(refine(bU.o A1 n1 B1 n2 _ cQ.o cH.o).mono ?_)
     rintro e w6 ⟨rfl,z6,rfl⟩))
  have aC:=zHi (zbc aH.o z6);generalize w5.ext z6=w6 at*;have C1:=zHi (((show Below W2.heap.size W2 w6 from aC.o).block _ l0).trans C1.o);have HB:=zHi (HB.o.trans ((show Below W2.heap.size W2 w6 from aC.o).mono HB.o.size));clear r0 r1 l0;obtain⟨r0,r1⟩:=zba C1.o;have l0:=zab C1.o;clear aH aC cH cQ;obtain⟨W2,bM⟩: ∃W2,W2=w6:=⟨_,rfl⟩
  subst bM
  go_upto_region 8 with(first
   |(go_at_call 8
     go_must(refine(dS.o _ HB.o).mono ?_)
     rintro e w5 ⟨A1,n1,B1,n2,rfl,ck,aj⟩;have cH:=zHi ck;have aH:=zHi aj;have cQ:=zHi (HB.o.trans (aj.mono HB.o.size))
     clear ck aj)
   |(go_at_call 10
     go_must(refine(lE.o A1 n1 B1 n2 _ cQ.o cH.o).mono ?_)
     rintro e w6 ⟨rfl,z6,rfl⟩))
  have aC:=zHi (zbc aH.o z6);generalize w5.ext z6=w6 at*;exact MS
 rw[hE]at fA;obtain⟨hq,hT⟩:=nk.o hE;have HQ:=zHi hq;have HT:=zHi hT;have HE:=zHi hE;have jO:=hT.holders pl dy;obtain⟨hp,tN⟩: ∃hp,hp=zcH Q.1 pl dy:=⟨_,rfl⟩
 rw[<-tN]at sW jO;have sX:=zHi tN;clear jd nk hq hT hE tN
 go_upto_region 6 with(first
  |(go_at_call 8
    go_must(refine(dS.o _ HB.o).mono ?_)
    rintro e w5 ⟨A1,n1,B1,n2,rfl,ck,aj⟩;have cH:=zHi ck;have aH:=zHi aj;have cQ:=zHi (HB.o.trans (aj.mono HB.o.size))
    clear ck aj)
  |(go_at_call 7
    go_must(refine(sW.o A1 n1 B1 n2 _ cQ.o cH.o).mono ?_)
    rintro e w6 ⟨aE,⟨h0,_⟩|⟨_,AH,ch,rfl,_,bn⟩⟩
    ·exact absurd HE.o h0
    have aC:=zHi (aH.o.trans (aE.mono aH.o.size));have dW:=zHi bn
    clear aE bn))
 have C1:=zHi (((show Below W2.heap.size W2 w6 from aC.o).block _ l0).trans C1.o);have HB:=zHi (HB.o.trans ((show Below W2.heap.size W2 w6 from aC.o).mono HB.o.size));clear r0 r1 l0;obtain⟨r0,r1⟩:=zba C1.o;have l0:=zab C1.o;clear aH aC cH cQ;obtain⟨W2,bM⟩: ∃W2,W2=w6:=⟨_,rfl⟩
 subst bM;have je:=zHi (fun W (h:Below W2.heap.size W2 W)=>(dW.o.keep h:Sl W 3 zaa AH hp));clear dW;cases aA:zaJ Q.1 pl dy with
 |none=>
  rw[jY.o _ HE.o aA]at bU;rw[jY.o _ HE.o aA]at lE;have i8:=zfs aA
  go_upto_region 7 with(first
   |(go_at_call 8
     go_must(refine(dS.o _ HB.o).mono ?_)
     rintro e w5 ⟨A1,n1,B1,n2,rfl,ck,aj⟩;have cH:=zHi ck;have aH:=zHi aj;have cQ:=zHi (HB.o.trans (aj.mono HB.o.size))
     clear ck aj)
   |(go_at_call 9
     go_must(refine(bU.o A1 n1 B1 n2 _ cQ.o cH.o).mono ?_)
     rintro e w6 ⟨rfl,z6,rfl⟩))
  have aC:=zHi (zbc aH.o z6);generalize w5.ext z6=w6 at*;have je:=zHi (fun W (h:Below w6.heap.size w6 W)=>je.o W (aC.o.trans (h.mono aC.o.size)));have C1:=zHi (((show Below W2.heap.size W2 w6 from aC.o).block _ l0).trans C1.o);have HB:=zHi (HB.o.trans ((show Below W2.heap.size W2 w6 from aC.o).mono HB.o.size));clear r0 r1 l0;obtain⟨r0,r1⟩:=zba C1.o;have l0:=zab C1.o;clear aH aC cH cQ bU;obtain⟨W2,bM⟩: ∃W2,W2=w6:=⟨_,rfl⟩
  subst bM
  go_upto_region 8 with(first
   |(go_at_call 8
     go_must(refine(dS.o _ HB.o).mono ?_)
     rintro e w5 ⟨A1,n1,B1,n2,rfl,ck,aj⟩;have cH:=zHi ck;have aH:=zHi aj;have cQ:=zHi (HB.o.trans (aj.mono HB.o.size))
     clear ck aj)
   |(go_at_call 10
     go_must(refine(lE.o A1 n1 B1 n2 _ cQ.o cH.o).mono ?_)
     rintro e w6 ⟨rfl,z6,rfl⟩))
  have aC:=zHi (zbc aH.o z6);generalize w5.ext z6=w6 at*;have je:=zHi (fun W (h:Below w6.heap.size w6 W)=>je.o W (aC.o.trans (h.mono aC.o.size)));have C1:=zHi (((show Below W2.heap.size W2 w6 from aC.o).block _ l0).trans C1.o);have HB:=zHi (HB.o.trans ((show Below W2.heap.size W2 w6 from aC.o).mono HB.o.size));clear r0 r1 l0;obtain⟨r0,r1⟩:=zba C1.o;have l0:=zab C1.o;clear aH aC cH cQ lE dS sW
  go_upto_region 12 with(first
   |(go_at_call 11;go_must(refine(fA.o _ Mc4 _ (zcx (zar _ _ _ rfl))).mono ?_);rintro e wq ⟨rfl,z,rfl⟩)
   |(go_at_call 12
     go_must(refine(eo.o _ Mc4).mono ?_)
     rintro e w9 ⟨a0,a1,a2,a3,a4,a5,a6,rfl,aP,bf,am⟩;obtain⟨⟨A0,m0,q0,rfl⟩,⟨A1,m1,q1,rfl⟩,⟨A2,m2,q2,rfl⟩,⟨A3,m3,q3,rfl⟩,⟨A4,m4,q4,rfl⟩,⟨A5,m5,q5,rfl⟩,⟨A6,m6,q6,rfl⟩⟩:=zcd aP;have lU:=zHi (am HQ.o);have dJ:=zHi bf
     clear bf aP am))
  have dX:Below w6.heap.size w6 ((w6.alloc (.cells #[.string pl] 9)).ext z):=zbc (zac (Below.refl _ _) _) z;have cO:=zHi ((HB.o.trans (dX.mono HB.o.size)).trans (dJ.o.mono (HB.o.trans (dX.mono HB.o.size)).size));have vf:=zHi (fun W (h:Below w9.heap.size w9 W)=>je.o W ((dX.trans (dJ.o.mono dX.size)).trans (h.mono (dX.trans (dJ.o.mono dX.size)).size)));clear dX je dJ HB fA eo C1 r0 r1 l0;obtain⟨SB,gD⟩: ∃SB,SB=w9.heap.size:=⟨_,rfl⟩
  obtain⟨W3,aX⟩: ∃W3,W3=w9.alloc (.cells #[.slice A0 m0 q0, .slice A1 m1 q1, .slice A2 m2 q2, .slice A3 m3 q3, .slice A4 m4 q4, .slice A5 m5 q5, .slice A6 m6 q6] 40):=⟨_,rfl⟩
  obtain⟨g3,av⟩:=boxed aX.symm;rw[<-gD]at g3;have aB:=zHi (lU.o.keep av);have aJ:=zHi (cO.o.trans (av.mono cO.o.size));have lq:=zHi av;have G3:=zHi g3;rw[<-aX,<-gD];clear aX gD lU av;obtain⟨s0,s1,s2,s3,s4,s5,s6⟩:=zaG g3;have lsb:=zab g3;clear g3;have lT:=zHi (fun W (h:Below W3.heap.size W3 W)=>vf.o W (lq.o.trans (h.mono lq.o.size)));have cP:=zHi (fun W (h:Below W3.heap.size W3 W)=>tGrave (aB.o.keep h) HT.o fj pl dy);have nV:=zHi (fun W (h:Below W3.heap.size W3 W)=>zoh ls Q.1 ds.length pl dy W (aB.o.keep h) HT.o fj);rw[<-sX.o]at nV;unfold zfB at nV;have fK:=zHi (fun P pc W (h:Below W3.heap.size W3 W) hS=>zjg hp AH P ch pc W (lT.o W h) hS Mcl);clear vf lT;rw[i8]at cP;clear i8
  go_wp2_with (first
   |(go_at_call 13;go_must(refine(cP.o _ Bw).mono ?_);rintro e wq ⟨rfl,z1,rfl⟩)
   |(go_at_call 15
     go_must(refine(nV.o _ Bw).mono ?_)
     rintro e w11 ⟨AI,ci,rfl,pV,mi⟩;have dR:=zHi ((zam W3 z1).trans (mi.mono Mdh));have pY:=zHi (aJ.o.trans (dR.o.mono aJ.o.size));have vh:=zHi pV
     clear pV mi)
   |(go_at_call 14;go_must(refine(fK.o _ _ _ dR.o vh.o).mono ?_);rintro e wq ⟨rfl,z2,rfl⟩))
  go_ret
  exact Ret.of rfl (zbc pY.o z2)
 |some i=>
  obtain⟨g,bO,bS,pA⟩:=zgB aA;rw[jJ.o _ _ _ HE.o aA bS]at bU;rw[jJ.o _ _ _ HE.o aA bS]at lE;have i8:=zd3 aA
  go_upto_region 7 with(first
   |(go_at_call 8
     go_must(refine(dS.o _ HB.o).mono ?_)
     rintro e w5 ⟨A1,n1,B1,n2,rfl,ck,aj⟩;have cH:=zHi ck;have aH:=zHi aj;have cQ:=zHi (HB.o.trans (aj.mono HB.o.size))
     clear ck aj)
   |(go_at_call 9
     go_must(refine(bU.o A1 n1 B1 n2 _ cQ.o cH.o).mono ?_)
     rintro e w6 ⟨rfl,z6,rfl⟩))
  have aC:=zHi (zbc aH.o z6);generalize w5.ext z6=w6 at*;have je:=zHi (fun W (h:Below w6.heap.size w6 W)=>je.o W (aC.o.trans (h.mono aC.o.size)));have C1:=zHi (((show Below W2.heap.size W2 w6 from aC.o).block _ l0).trans C1.o);have HB:=zHi (HB.o.trans ((show Below W2.heap.size W2 w6 from aC.o).mono HB.o.size));clear r0 r1 l0;obtain⟨r0,r1⟩:=zba C1.o;have l0:=zab C1.o;clear aH aC cH cQ bU;obtain⟨W2,bM⟩: ∃W2,W2=w6:=⟨_,rfl⟩
  subst bM
  go_upto_region 8 with(first
   |(go_at_call 8
     go_must(refine(dS.o _ HB.o).mono ?_)
     rintro e w5 ⟨A1,n1,B1,n2,rfl,ck,aj⟩;have cH:=zHi ck;have aH:=zHi aj;have cQ:=zHi (HB.o.trans (aj.mono HB.o.size))
     clear ck aj)
   |(go_at_call 10
     go_must(refine(lE.o A1 n1 B1 n2 _ cQ.o cH.o).mono ?_)
     rintro e w6 ⟨rfl,z6,rfl⟩))
  have aC:=zHi (zbc aH.o z6);generalize w5.ext z6=w6 at*;have je:=zHi (fun W (h:Below w6.heap.size w6 W)=>je.o W (aC.o.trans (h.mono aC.o.size)));have C1:=zHi (((show Below W2.heap.size W2 w6 from aC.o).block _ l0).trans C1.o);have HB:=zHi (HB.o.trans ((show Below W2.heap.size W2 w6 from aC.o).mono HB.o.size));clear r0 r1 l0;obtain⟨r0,r1⟩:=zba C1.o;have l0:=zab C1.o;clear aH aC cH cQ lE dS sW
  go_upto_region 12 with(first
   |(go_at_call 11;go_must(refine(fA.o _ Mc4 _ (zcx (zar _ _ _ rfl))).mono ?_);rintro e wq ⟨rfl,z,rfl⟩)
   |(go_at_call 12
     go_must(refine(eo.o _ Mc4).mono ?_)
     rintro e w9 ⟨a0,a1,a2,a3,a4,a5,a6,rfl,aP,bf,am⟩;obtain⟨⟨A0,m0,q0,rfl⟩,⟨A1,m1,q1,rfl⟩,⟨A2,m2,q2,rfl⟩,⟨A3,m3,q3,rfl⟩,⟨A4,m4,q4,rfl⟩,⟨A5,m5,q5,rfl⟩,⟨A6,m6,q6,rfl⟩⟩:=zcd aP;have lU:=zHi (am HQ.o);have dJ:=zHi bf
     clear bf aP am))
  have dX:Below w6.heap.size w6 ((w6.alloc (.cells #[.string pl] 9)).ext z):=zbc (zac (Below.refl _ _) _) z;have cO:=zHi ((HB.o.trans (dX.mono HB.o.size)).trans (dJ.o.mono (HB.o.trans (dX.mono HB.o.size)).size));have vf:=zHi (fun W (h:Below w9.heap.size w9 W)=>je.o W ((dX.trans (dJ.o.mono dX.size)).trans (h.mono (dX.trans (dJ.o.mono dX.size)).size)));clear dX je dJ HB fA eo C1 r0 r1 l0;obtain⟨SB,gD⟩: ∃SB,SB=w9.heap.size:=⟨_,rfl⟩
  obtain⟨W3,aX⟩: ∃W3,W3=w9.alloc (.cells #[.slice A0 m0 q0, .slice A1 m1 q1, .slice A2 m2 q2, .slice A3 m3 q3, .slice A4 m4 q4, .slice A5 m5 q5, .slice A6 m6 q6] 40):=⟨_,rfl⟩
  obtain⟨g3,av⟩:=boxed aX.symm;rw[<-gD]at g3;have aB:=zHi (lU.o.keep av);have aJ:=zHi (cO.o.trans (av.mono cO.o.size));have lq:=zHi av;have G3:=zHi g3;rw[<-aX,<-gD];clear aX gD lU av;obtain⟨s0,s1,s2,s3,s4,s5,s6⟩:=zaG g3;have lsb:=zab g3;clear g3;have lT:=zHi (fun W (h:Below W3.heap.size W3 W)=>vf.o W (lq.o.trans (h.mono lq.o.size)));have cP:=zHi (fun W (h:Below W3.heap.size W3 W)=>tGrave (aB.o.keep h) HT.o fj pl dy);have nV:=zHi (fun W (h:Below W3.heap.size W3 W)=>zoh ls Q.1 ds.length pl dy W (aB.o.keep h) HT.o fj);rw[<-sX.o]at nV;unfold zfB at nV;have fK:=zHi (fun P pc W (h:Below W3.heap.size W3 W) hS=>zjg hp AH P ch pc W (lT.o W h) hS Mcl);clear vf lT;obtain⟨gb,off,cg,Eu,eb,cL,j1,j2⟩:=aB.o.grave bO;rw[i8]at cP;simp only[Value.slice.injEq]at Eu;obtain⟨rfl,rfl,rfl⟩:=Eu;have tP:(i:Int)<(Q.1.graves.length:Int):=Mcl;have eN:(0:Int)<=(i:Int):=Mcl;have aN: ¬(i:Int)<0:=Mcl;clear i8 aA bS pA bO eb
  go_upto_region 15 with(first
   |(go_at_call 13;go_must(refine(cP.o _ Bw).mono ?_);rintro e wq ⟨rfl,z1,rfl⟩)
   |(go_at_call 15
     go_must(refine(nV.o _ Bw).mono ?_)
     rintro e w11 ⟨AI,ci,rfl,pV,mi⟩;have dR:=zHi ((zam W3 z1).trans (mi.mono Mdh));have pY:=zHi (aJ.o.trans (dR.o.mono aJ.o.size));have vh:=zHi pV
     clear pV mi)
   |(go_at_call 14;go_must(refine(fK.o _ _ _ dR.o vh.o).mono ?_);rintro e wq ⟨rfl,z2,rfl⟩))
  have eL:=dR.o;have e6:=(zah eL lsb).trans s6;have e1:=(zah eL cL).trans j1;have e2:=(zah eL cL).trans j2;have tT:=eL.size;have xt:SB<w11.heap.size:=Mcl;have JL:gb<w11.heap.size:=Mcl;clear s0 s1 s2 s3 s4 s5 s6 j1 j2 eL lsb cL cP;go_wp2_with fail
  go_ret
  exact Ret.of rfl (zbc pY.o z2)
end Go.Proofs.YtckkbkdcdkhglaaGreatDoor
