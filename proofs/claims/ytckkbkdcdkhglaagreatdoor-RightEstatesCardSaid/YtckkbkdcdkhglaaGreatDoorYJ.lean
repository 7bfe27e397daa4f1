/- The law RightEstates, walked. -/
import Derived.Test.YtckkbkdcdkhglaaGreatDoorXX
set_option linter.unusedSimpArgs false
set_option linter.unusedVariables false
set_option maxRecDepth 100000
set_option maxHeartbeats 4000000
namespace Go.Proofs.YtckkbkdcdkhglaaGreatDoor
open Go.RowKit Go.Shelf
attribute [local go_sem] World.cell?_alloc_mark zag za5 zaq za8 zaw zax zay zaz za0 za1 za2
attribute [local go_sem] zap zad
theorem tEstate {laws:List Law} {s:St} {k:Nat} {w:World} {a0 a1 a2 a3 a4 a5 a6:Value} (h:StAt w laws s a0 a1 a2 a3 a4 a5 a6) (hT:Told k s) (hk:k<=1000) (bh:zaA laws=0) (n:ByteArray) (day:Int):
 Calls Tryz.prog 18 #[.agg #[a0,a1,a2,a3,a4,a5,a6], .string n, .int .i64 day] w (zgI w (zbZ s (zaV laws day) n)):=by
 obtain⟨wd,rd,LA,CA,MA,DA,WA,RA,GA,c0,c1,c2,c3,c4,c5,c6,rfl,rfl,rfl,rfl,rfl,rfl,rfl,hI,hL⟩:=h;obtain⟨b,hG⟩:=hT.good;exact zjb laws s wd rd LA CA MA DA WA RA GA c0 c1 c2 c3 c4 c5 c6 n day w hI hL (hT.stFew hk hL) bh (hG.wills n) hG.acyc (hT.few.wills n)
theorem api_err {laws:List Law} {ds:List Deed} {n:ByteArray} {day:Int} (h:zbL laws ds [n] day≠0):zeQ laws ds n day=([],zbL laws ds [n] day):=by
 unfold zeQ;rw[if_pos Mdx]
theorem api_dead {laws:List Law} {ds:List Deed} {n:ByteArray} {day:Int} (h:zbL laws ds [n] day=0) (hd:zaH (zaF laws ds day).1 n=true):zeQ laws ds n day=([],28):=by
 unfold zeQ;rw[if_neg (by simp[h]),if_pos hd]
theorem api_none {laws:List Law} {ds:List Deed} {n:ByteArray} {day:Int} (h:zbL laws ds [n] day=0) (hd:zaH (zaF laws ds day).1 n=false) (he:zbZ (zaF laws ds day).1 (zaV laws day) n=none):zeQ laws ds n day=([],8):=by
 unfold zeQ;rw[if_neg (by simp[h]),if_neg (by simp[hd]),he]
theorem api_some {laws:List Law} {ds:List Deed} {n:ByteArray} {day:Int} {o:Parts} (h:zbL laws ds [n] day=0) (hd:zaH (zaF laws ds day).1 n=false) (he:zbZ (zaF laws ds day).1 (zaV laws day) n=some o):zeQ laws ds n day=(o,0):=by
 unfold zeQ;rw[if_neg (by simp[h]),if_neg (by simp[hd]),he]
theorem zh7 (ls:List Law) (ds:List Deed) (LA:Option Addr) (n nc:Nat) (DA:Option Addr) (m mc:Nat) (nm:ByteArray) (dy:Int) (w:World) (hL:Laid5 w) (hR:RightsIn w ls ds LA n nc DA m mc):
 Calls Tryz.prog 4 #[.agg #[.slice LA n nc, .slice DA m mc], .string nm, .int .i64 dy] w (Ret w (.bool true)):=by
 have HL:=zHi hL;have HR:=zHi hR;have kH:=zHi (fun W (h:Below w.heap.size w W)=>few_any ls ds LA n nc DA m mc W (hR.keep h));clear hL hR;go_enter Tryz.func4,Tryz.ntmps4
 go_upto_region 1 with fail
 obtain⟨W0,ao⟩: ∃W0,W0=w.alloc (.cells #[.slice LA n nc, .slice DA m mc] 25):=⟨_,rfl⟩
 obtain⟨b0,aI⟩:=boxed ao.symm;rw[<-ao];have ak:=zHi aI;clear ao aI;go_upto_region 3 with(go_at_call 5;go_must(refine(zjW _ (HL.o.keep ak.o)).mono ?_);rintro e wq ⟨rfl,z0,rfl⟩)
 have c0:(W0.ext z0).heap[w.heap.size]?=some (.cells #[.slice LA n nc, .slice DA m mc] 25):=zb9 b0;have cE:Below w.heap.size w (W0.ext z0):=zbc ak.o z0;generalize W0.ext z0=W1 at*;have aG:=zHi cE;clear b0 ak cE;obtain⟨r0,r1⟩:=zba c0;have l0:=zab c0;cases kp:fewP ls ds
 ·rw[kp]at kH;clear kp;exact MZ
 obtain⟨bp,mJ,my,jz⟩:=znW kp;rw[kp]at kH;clear kp;have dS:=zHi (fun W (h:Below w.heap.size w W)=>zjN ls ds LA n nc DA m mc W (HR.o.keep h) Mcl Mcl (fun d hd=>by have:=jz d hd;omega));by_cases kZ:20<nm.size
 ·have ib:(20:Int)<(nm.size:Int):=Mcl;clear bp mJ my jz dS;exact MZ
 have ib: ¬(20:Int)<(nm.size:Int):=Mcl;have fJ:=zHi (fun A1 n1 B1 n2 W (h:Below w.heap.size w W) (hr:RightsIn W ls ds A1 ls.length n1 B1 ds.length n2)=>zoW ls ds nm dy A1 ls.length n1 B1 ds.length n2 W hr (HL.o.keep h).forms (HL.o.keep h).lens bp Mcl);have fA:=zHi (fun W (h:Below w.heap.size w W) NA (hS:Sl W 1 sC NA [nm])=>zkf ls ds [nm] dy LA n nc DA m mc NA 1 1 W (HR.o.keep h) bp Mcl rfl Mco Mcq hS);have eo:=zHi (fun W (h:Below w.heap.size w W)=>rOn_any ls ds dy LA n nc DA m mc W (HR.o.keep h) bp Mcl);have nk:=zHi (fun(h:zbL ls ds [nm] dy=0)=>And.intro (on_told h) (on_laws h));have jd:=zHi (api_err (laws:=ls) (ds:=ds) (n:=nm) (day:=dy));have jY:=zHi (api_dead (laws:=ls) (ds:=ds) (n:=nm) (day:=dy));have jJ:=zHi (api_none (laws:=ls) (ds:=ds) (n:=nm) (day:=dy));have qC:=zHi (fun o=>api_some (laws:=ls) (ds:=ds) (n:=nm) (day:=dy) (o:=o));have fj:ds.length<=1000:=Mcl;unfold zkV at eo;unfold zni at fJ;clear bp mJ my jz kZ HR HL;generalize zeQ ls ds nm dy=R at*;generalize zbL ls ds [nm] dy=E at*;generalize zaF ls ds dy=Q at*;obtain⟨rl,re⟩:=R;simp only at fJ;go_upto_region 5 with(go_at_call 6;go_must(refine(kH.o _ MdL).mono ?_);rintro e wq ⟨rfl,z,rfl⟩)
 have c1:(W1.ext z).heap[w.heap.size]?=some (.cells #[.slice LA n nc, .slice DA m mc] 25):=zb9 c0;have bL:Below w.heap.size w (W1.ext z):=zbc aG.o z;generalize W1.ext z=W2 at*;have HB:=zHi bL;have C1:=zHi c1;clear c0 r0 r1 l0 bL aG kH;obtain⟨r0,r1⟩:=zba c1;have l0:=zab c1;clear c1;by_cases hE:E=0;rotate_left 1
 ·have h1:=jd.o hE;simp only[Prod.mk.injEq]at h1;obtain⟨rfl,rfl⟩:=h1;have IL:(re != 0)=true:=by simpa using hE
  have BL:(re==0)=false:=by simpa using hE
  clear jd jY jJ qC nk eo hE
  go_upto_region 6 with(first
   |(go_at_call 8
     go_must(refine(dS.o _ HB.o).mono ?_)
     rintro e w5 ⟨A1,n1,B1,n2,rfl,ck,aj⟩;have cH:=zHi ck;have aH:=zHi aj;have cQ:=zHi (HB.o.trans (aj.mono HB.o.size))
     clear ck aj)
   |(go_at_call 16
     go_must(refine(fJ.o A1 n1 B1 n2 _ cQ.o cH.o).mono ?_)
     rintro e w6 ⟨aE,AH,ch,rfl,_,bn⟩;have aC:=zHi (aH.o.trans (aE.mono aH.o.size));have dW:=zHi bn
     clear aE bn))
  exact MS
 rw[hE]at fA;obtain⟨⟨hq,hT⟩,bh⟩:=nk.o hE;have HQ:=zHi hq;have HT:=zHi hT;have cZ:=zHi bh;cases hd:zaH Q.1 nm;rotate_left 1
 ·have h1:=jY.o hE hd;simp only[Prod.mk.injEq]at h1;obtain⟨rfl,rfl⟩:=h1;have HD:=zHi hd;clear jd jY jJ qC nk hE hq hT bh hd
  go_upto_region 6 with(first
   |(go_at_call 8
     go_must(refine(dS.o _ HB.o).mono ?_)
     rintro e w5 ⟨A1,n1,B1,n2,rfl,ck,aj⟩;have cH:=zHi ck;have aH:=zHi aj;have cQ:=zHi (HB.o.trans (aj.mono HB.o.size))
     clear ck aj)
   |(go_at_call 16
     go_must(refine(fJ.o A1 n1 B1 n2 _ cQ.o cH.o).mono ?_)
     rintro e w6 ⟨aE,AH,ch,rfl,_,bn⟩;have aC:=zHi (aH.o.trans (aE.mono aH.o.size));have dW:=zHi bn
     clear aE bn))
  have C1:=zHi (((show Below W2.heap.size W2 w6 from aC.o).block _ l0).trans C1.o);have HB:=zHi (HB.o.trans ((show Below W2.heap.size W2 w6 from aC.o).mono HB.o.size));clear r0 r1 l0;obtain⟨r0,r1⟩:=zba C1.o;have l0:=zab C1.o;clear aH aC cH cQ
  go_wp2_with (first
   |(go_at_call 11;go_must(refine(fA.o _ Mc4 _ (zcx (zar _ _ _ rfl))).mono ?_);rintro e wq ⟨rfl,z,rfl⟩)
   |(go_at_call 12
     go_must(refine(eo.o _ Mc4).mono ?_)
     rintro e w9 ⟨a0,a1,a2,a3,a4,a5,a6,rfl,aP,bf,am⟩;obtain⟨⟨A0,m0,q0,rfl⟩,⟨A1,m1,q1,rfl⟩,⟨A2,m2,q2,rfl⟩,⟨A3,m3,q3,rfl⟩,⟨A4,m4,q4,rfl⟩,⟨A5,m5,q5,rfl⟩,⟨A6,m6,q6,rfl⟩⟩:=zcd aP;have aB:=zHi (am HQ.o);have aW:=zHi bf
     clear bf aP am)
   |(go_at_call 17;go_must(refine(tDead aB.o HT.o fj nm).mono ?_);rw[HD.o];rintro e wq ⟨rfl,z9,rfl⟩))
  go_ret
  have dX:Below w.heap.size w ((w6.alloc (.cells #[.string nm] 9)).ext z):=zbc (zac HB.o _) z;exact Ret.of rfl (zbc (dX.trans (aW.o.mono dX.size)) z9)
 have HD:=zHi hd;have jJ:=zHi (jJ.o hE hd);have qC:=zHi (fun o=>qC.o o hE hd);have fB:=zHi (fun W a0 a1 a2 a3 a4 a5 a6 (h:StAt W ls Q.1 a0 a1 a2 a3 a4 a5 a6)=>tEstate h HT.o fj cZ.o nm dy);unfold zgI at fB;clear jd jY nk hE hq hT bh hd;generalize zbZ Q.1 (zaV ls dy) nm=ho at*
 go_upto_region 6 with(first
  |(go_at_call 8
    go_must(refine(dS.o _ HB.o).mono ?_)
    rintro e w5 ⟨A1,n1,B1,n2,rfl,ck,aj⟩;have cH:=zHi ck;have aH:=zHi aj;have cQ:=zHi (HB.o.trans (aj.mono HB.o.size))
    clear ck aj)
  |(go_at_call 16
    go_must(refine(fJ.o A1 n1 B1 n2 _ cQ.o cH.o).mono ?_)
    rintro e w6 ⟨aE,AH,ch,rfl,_,bn⟩;have aC:=zHi (aH.o.trans (aE.mono aH.o.size));have dW:=zHi bn
    clear aE bn))
 have C1:=zHi (((show Below W2.heap.size W2 w6 from aC.o).block _ l0).trans C1.o);have HB:=zHi (HB.o.trans ((show Below W2.heap.size W2 w6 from aC.o).mono HB.o.size));clear r0 r1 l0;obtain⟨r0,r1⟩:=zba C1.o;have l0:=zab C1.o;clear aH aC cH cQ
 go_upto_region 11 with(first
  |(go_at_call 11;go_must(refine(fA.o _ Mc4 _ (zcx (zar _ _ _ rfl))).mono ?_);rintro e wq ⟨rfl,z,rfl⟩)
  |(go_at_call 12
    go_must(refine(eo.o _ Mc4).mono ?_)
    rintro e w9 ⟨a0,a1,a2,a3,a4,a5,a6,rfl,aP,bf,am⟩;obtain⟨⟨A0,m0,q0,rfl⟩,⟨A1,m1,q1,rfl⟩,⟨A2,m2,q2,rfl⟩,⟨A3,m3,q3,rfl⟩,⟨A4,m4,q4,rfl⟩,⟨A5,m5,q5,rfl⟩,⟨A6,m6,q6,rfl⟩⟩:=zcd aP;have aB:=zHi (am HQ.o);have aW:=zHi bf
    clear bf aP am)
  |(go_at_call 17;go_must(refine(tDead aB.o HT.o fj nm).mono ?_);rw[HD.o];rintro e wq ⟨rfl,z9,rfl⟩))
 have dX:Below w6.heap.size w6 ((w6.alloc (.cells #[.string nm] 9)).ext z):=zbc (zac (Below.refl _ _) _) z;have bR:=zHi (zbc (dX.trans (aW.o.mono dX.size)) z9);clear dX aW;generalize w9.ext z9=w7 at*;have dW:=zHi (fun W (h:Below w7.heap.size w7 W)=>(dW.o.keep (bR.o.trans (h.mono bR.o.size)):Sl W 3 zaa AH rl));have C1:=zHi ((bR.o.block _ l0).trans C1.o);have HB:=zHi (HB.o.trans (bR.o.mono HB.o.size));clear r0 r1 l0 aB;obtain⟨r0,r1⟩:=zba C1.o;have l0:=zab C1.o
 go_upto_region 12 with(first
  |(go_at_call 12
    go_must(refine(eo.o _ Mc4).mono ?_)
    rintro e w9 ⟨a0,a1,a2,a3,a4,a5,a6,rfl,aP,bf,am⟩;obtain⟨⟨A0,m0,q0,rfl⟩,⟨A1,m1,q1,rfl⟩,⟨A2,m2,q2,rfl⟩,⟨A3,m3,q3,rfl⟩,⟨A4,m4,q4,rfl⟩,⟨A5,m5,q5,rfl⟩,⟨A6,m6,q6,rfl⟩⟩:=zcd aP;have aB:=zHi (am HQ.o);have aW:=zHi bf
    clear bf aP am)
  |(go_at_call 18
    go_must(refine(fB.o _ _ _ _ _ _ _ _ aB.o).mono ?_)
    rintro e w10 ⟨AI,ci,xs,bl,rfl,pV,fL,bK,bm⟩;have vh:=zHi pV;have dK:=zHi bm;have nP:=zHi (aW.o.trans (fL.mono aW.o.size))
    clear pV bm fL))
 have DL:=zHi (HB.o.trans (nP.o.mono HB.o.size));rcases dK.o with⟨h1,rfl⟩|⟨h1,rfl⟩
 ·have h2:=qC.o xs h1;simp only[Prod.mk.injEq]at h2;obtain⟨rfl,rfl⟩:=h2;have fK:=zHi (zjg rl AH AI ch ci w10 (dW.o w10 nP.o) vh.o bK);clear h1 jJ qC dW;go_wp2_with (go_at_call 14;go_must(refine(fK.o).mono ?_);rintro e wq ⟨rfl,z2,rfl⟩)
  go_ret
  exact Ret.of rfl (zbc DL.o z2)
 ·have h2:=jJ.o h1;simp only[Prod.mk.injEq]at h2;obtain⟨rfl,rfl⟩:=h2;clear h1 jJ qC dW;go_wp2_with fail
  go_ret
  exact Ret.of rfl DL.o
end Go.Proofs.YtckkbkdcdkhglaaGreatDoor
