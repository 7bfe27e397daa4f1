/- Walks of the program's Class, Ends. -/
import Derived.Test.YtckkbkdcdkhglaaGreatDoorUF
set_option linter.unusedSimpArgs false
set_option linter.unusedVariables false
set_option maxRecDepth 100000
set_option maxHeartbeats 4000000
namespace Go.Proofs.YtckkbkdcdkhglaaGreatDoor
open Go.RowKit Go.Shelf
attribute [local go_sem] World.cell?_alloc_mark zag za5 zaq za8 zaw zax zay zaz za0 za1 za2
attribute [local go_sem] zap zad
noncomputable def zfY (laws:List Law) (ds:List Deed) (place:ByteArray) (day:Int) (f:Grave->Int):Int×Int:=
 if zbL laws ds [place] day != 0 then(0,zbL laws ds [place] day)else match zaJ (zaF laws ds day).1 place day with
 |none=>(0,12)
 |some i=>(f ((zaF laws ds day).1.graves.getD i ze0),0)
theorem zps (laws:List Law) (ds:List Deed) (place:ByteArray) (day:Int) (LA:Option Addr) (n nc:Nat) (DA:Option Addr) (m mc:Nat) (w:World) (hR:RightsIn w laws ds LA n nc DA m mc) (hF:FormsIn w) (hL:LensIn w) (hO: ∀d∈ds,zdv d) (hp:place.size<=100000):
 Calls Tryz.prog 9 #[.agg #[.slice LA n nc, .slice DA m mc], .string place, .int .i64 day] w (Ret w (.tuple #[.int .i64 (zfY laws ds place day Grave.cls).1, .int .i64 (zfY laws ds place day Grave.cls).2])):=by
 have aN:=fun W (hB:Below w.heap.size w W)=>zfo laws ds place [] day LA n nc DA m mc none 0 0 W (hR.keep hB) (hF.keep hB) (hL.keep hB) hO hp rfl Mco Mco Sl.nil
 have bE:=zHi aN;clear aN hR hF hL hO hp;unfold zdR at bE;obtain⟨R,hR⟩: ∃R,R=zfY laws ds place day Grave.cls:=⟨_,rfl⟩
 rw[<-hR];unfold zfY at hR;generalize zbL laws ds [place] day=E at*;generalize(zaF laws ds day).1=s at*;have HR:=zHi hR;clear hR;go_enter Tryz.func9,Tryz.ntmps9
 by_cases h0:E=0
 ·have HE:=zHi h0;cases aO:zaJ s place day with
  |none=>
   exact MK
  |some i=>
   have gU:=zHi aO;have hX:R=(Grave.cls (s.graves.getD i ze0),0):=by rw[HR.o,aO,if_neg (by simp[h0])]
   obtain⟨g,aA,-,-⟩:=zbI aO;rw[zdY aA]at hX;have HX:=zHi hX;have sV:=zHi aA;clear HR aO h0 hX aA
   go_wp2_with (go_at_call 28
                go_must(refine(bE.o _ Bw).mono ?_)
                rintro e wq ⟨h1,⟨ai,_⟩|⟨_,hi,_⟩|⟨_,base,b,la,co,B,T,i',g',hi,eA,rfl,h2,h3,h4,h5,h6⟩⟩;go_must(·exact absurd HE.o ai)
                go_must(·rw[gU.o]at hi;cases hi)
                go_must(have bf:Below w.heap.size w wq:=Below.trans Bw (h1.mono Mco))
                go_must(have b9:g'=g:=Mc2)
                go_must(subst b9)
                have cO:=zHi bf;obtain⟨H9,mw,D9,dc9,fr9,oQ,-⟩:=h4;unfold zbv at oQ;obtain⟨-,k1⟩:=cF2 oQ;have kl:=zab oQ
                clear h1 h2 h3 h5 h6 hi eA bf oQ)
   go_ret2
   rw[HX.o];exact Ret.of rfl cO.o
 ·exact ML
theorem ends5_any (laws:List Law) (ds:List Deed) (place:ByteArray) (day:Int) (LA:Option Addr) (n nc:Nat) (DA:Option Addr) (m mc:Nat) (w:World) (hR:RightsIn w laws ds LA n nc DA m mc) (hF:FormsIn w) (hL:LensIn w) (hO: ∀d∈ds,zdv d) (hp:place.size<=100000):
 Calls Tryz.prog 10 #[.agg #[.slice LA n nc, .slice DA m mc], .string place, .int .i64 day] w (Ret w (.tuple #[.int .i64 (zfY laws ds place day Grave.fin).1, .int .i64 (zfY laws ds place day Grave.fin).2])):=by
 have aN:=fun W (hB:Below w.heap.size w W)=>zfo laws ds place [] day LA n nc DA m mc none 0 0 W (hR.keep hB) (hF.keep hB) (hL.keep hB) hO hp rfl Mco Mco Sl.nil
 have bE:=zHi aN;clear aN hR hF hL hO hp;unfold zdR at bE;obtain⟨R,hR⟩: ∃R,R=zfY laws ds place day Grave.fin:=⟨_,rfl⟩
 rw[<-hR];unfold zfY at hR;generalize zbL laws ds [place] day=E at*;generalize(zaF laws ds day).1=s at*;have HR:=zHi hR;clear hR;go_enter Tryz.func10,Tryz.ntmps10
 by_cases h0:E=0
 ·have HE:=zHi h0;cases aO:zaJ s place day with
  |none=>
   exact MK
  |some i=>
   have gU:=zHi aO;have hX:R=(Grave.fin (s.graves.getD i ze0),0):=by rw[HR.o,aO,if_neg (by simp[h0])]
   obtain⟨g,aA,-,-⟩:=zbI aO;rw[zdY aA]at hX;have HX:=zHi hX;have sV:=zHi aA;clear HR aO h0 hX aA
   go_wp2_with (go_at_call 28
                go_must(refine(bE.o _ Bw).mono ?_)
                rintro e wq ⟨h1,⟨ai,_⟩|⟨_,hi,_⟩|⟨_,base,b,la,co,B,T,i',g',hi,eA,rfl,h2,h3,h4,h5,h6⟩⟩;go_must(·exact absurd HE.o ai)
                go_must(·rw[gU.o]at hi;cases hi)
                go_must(have bf:Below w.heap.size w wq:=Below.trans Bw (h1.mono Mco))
                go_must(have b9:g'=g:=Mc2)
                go_must(subst b9)
                have cO:=zHi bf;obtain⟨H9,mw,D9,dc9,fr9,oQ,-⟩:=h4;unfold zbv at oQ;obtain⟨-,-,-,k1⟩:=cF4 oQ;have kl:=zab oQ
                clear h1 h2 h3 h5 h6 hi eA bf oQ)
   go_ret2
   rw[HX.o];exact Ret.of rfl cO.o
 ·exact ML
end Go.Proofs.YtckkbkdcdkhglaaGreatDoor
