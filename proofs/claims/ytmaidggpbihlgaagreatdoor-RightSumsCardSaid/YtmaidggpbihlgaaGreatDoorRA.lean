/- Walk of chapter 5's against. -/
import Derived.Test.YtmaidggpbihlgaaGreatDoorJ6
import Derived.Test.YtmaidggpbihlgaaGreatDoorE4
import Derived.Test.YtmaidggpbihlgaaGreatDoorNC
set_option linter.unusedSimpArgs false
set_option linter.unusedVariables false
namespace Go.Proofs.YtmaidggpbihlgaaGreatDoor
open Go.RowKit Go.Shelf
attribute [local go_sem] World.cell?_alloc_mark ext_size ext_cell ext_frozen lt_add_r lt_add_r2 lt_add_r3 lt_add_r4 lt_add_r5 lt_add_r6 lt_add_r7 lt_add_r8
attribute [local go_sem] ext_setCell alloc_setCell_lt
def Rec.v (r:Rec):Value:= .agg #[.int .i64 r.kind, .string r.name, .string r.other, .string r.place, .int .i64 r.day, .int .i64 r.til, .int .i64 r.num, .int .i64 r.den]
def recO (r:Rec):Obj:= .cells #[.int .i64 r.kind, .string r.name, .string r.other, .string r.place, .int .i64 r.day, .int .i64 r.til, .int .i64 r.num, .int .i64 r.den] 67
theorem J_set8 {w:World} {g:Nat} {z0 z1 z2 z3 z4 z5 z6 z7 a b c d e f h i:Value} {t:TypeId} {fr:Nat×Nat} (hh:w.heap[g]?=some (.cells #[z0,z1,z2,z3,z4,z5,z6,z7] t fr)):
 ((((((((w.setCell ⟨g,0,none⟩ a).setCell ⟨g,1,none⟩ b).setCell ⟨g,2,none⟩ c).setCell ⟨g,3,none⟩ d).setCell ⟨g,4,none⟩ e).setCell ⟨g,5,none⟩ f).setCell ⟨g,6,none⟩ h).setCell ⟨g,7,none⟩ i).heap[g]?=some (.cells #[a,b,c,d,e,f,h,i] t fr):=by
 have:=Joins.block_setCell (i:=7) (Joins.block_setCell (i:=6) (Joins.block_setCell (i:=5) (Joins.block_setCell (i:=4) (Joins.block_setCell (i:=3) (Joins.block_setCell (i:=2) (Joins.block_setCell (i:=1) (Joins.block_setCell (i:=0) hh a) b) c) d) e) f) h) i
 simpa using this
set_option maxRecDepth 100000 in
set_option maxHeartbeats 2000000 in
theorem against_any (x y:Rec) (w:World) (hx:0<=x.kind/\x.kind<=4) (hy:0<=y.kind/\y.kind<=4):Calls Tryz.prog 98 #[x.v,y.v] w (Ret w (.bool (againstP x y))):=by
 obtain⟨lo,hi,hlh⟩: ∃lo hi,(lo,hi)=if y.kind<x.kind then(y,x)else(x,y):=⟨_,_,rfl⟩
 have hr:againstP x y=againstQ lo hi:=by
  unfold againstP
  by_cases h:y.kind<x.kind
  ·rw[if_pos h]at hlh;cases hlh;rw[if_pos (by simpa using h)]
  ·rw[if_neg h]at hlh;cases hlh;rw[if_neg (by simpa using h)]
 have hkl:0<=lo.kind/\lo.kind<=4/\0<=hi.kind/\hi.kind<=4:=by
  split at hlh<;>cases hlh<;>omega
 rw[hr]
 obtain⟨R,hR⟩: ∃R,R=againstQ lo hi:=⟨_,rfl⟩
 rw[<-hR]
 have HR:=Lib.hid hR
 clear hR
 unfold Rec.v
 go_enter Tryz.func98,Tryz.ntmps98
 go_upto_if 10 with fail
 go_cut [11,12]from 13 (fun _ _ W=>W.heap[w.heap.size]?=some (recO lo)/\W.heap[w.heap.size+1]?=some (recO hi)/\Below w.heap.size w W)
 case first=>
  by_cases h:y.kind<x.kind
  ·rw[if_pos h]at hlh
   cases hlh
   go_wp2_with fail
   go_meet
   exact⟨J_alloc (J_new _ _ _ rfl),J_new _ _ _ (by simp),Bw⟩
  ·rw[if_neg h]at hlh
   cases hlh
   go_wp2_with fail
   go_meet
   exact⟨J_alloc (J_new _ _ _ rfl),J_new _ _ _ (by simp),Bw⟩
 case rest=>
  obtain⟨g0,g1,hB⟩:=hcut
  clear hlh hr hx hy
  obtain⟨lk,ln,lo2,lp,ld,lt,lu,lv⟩:=lo
  obtain⟨hk,hn,ho2,hp,hd,ht,hu,hv⟩:=hi
  simp only at hkl
  unfold recO at g0 g1
  have a0:wc.cell? ⟨w.heap.size,0,none⟩=some (.int .i64 lk):=by simp only[World.cell?,g0];rfl
  have a1:wc.cell? ⟨w.heap.size,1,none⟩=some (.string ln):=by simp only[World.cell?,g0];rfl
  have a3:wc.cell? ⟨w.heap.size,3,none⟩=some (.string lp):=by simp only[World.cell?,g0];rfl
  have a4:wc.cell? ⟨w.heap.size,4,none⟩=some (.int .i64 ld):=by simp only[World.cell?,g0];rfl
  have a5:wc.cell? ⟨w.heap.size,5,none⟩=some (.int .i64 lt):=by simp only[World.cell?,g0];rfl
  have a6:wc.cell? ⟨w.heap.size,6,none⟩=some (.int .i64 lu):=by simp only[World.cell?,g0];rfl
  have a7:wc.cell? ⟨w.heap.size,7,none⟩=some (.int .i64 lv):=by simp only[World.cell?,g0];rfl
  have b0:wc.cell? ⟨w.heap.size+1,0,none⟩=some (.int .i64 hk):=by simp only[World.cell?,g1];rfl
  have b1:wc.cell? ⟨w.heap.size+1,1,none⟩=some (.string hn):=by simp only[World.cell?,g1];rfl
  have b3:wc.cell? ⟨w.heap.size+1,3,none⟩=some (.string hp):=by simp only[World.cell?,g1];rfl
  have b4:wc.cell? ⟨w.heap.size+1,4,none⟩=some (.int .i64 hd):=by simp only[World.cell?,g1];rfl
  have b5:wc.cell? ⟨w.heap.size+1,5,none⟩=some (.int .i64 ht):=by simp only[World.cell?,g1];rfl
  have b6:wc.cell? ⟨w.heap.size+1,6,none⟩=some (.int .i64 hu):=by simp only[World.cell?,g1];rfl
  have b7:wc.cell? ⟨w.heap.size+1,7,none⟩=some (.int .i64 hv):=by simp only[World.cell?,g1];rfl
  have HB:=Lib.hid hB
  clear hB g0 g1
  have hR:=HR.out
  unfold againstQ at hR
  simp only at hR
  clear HR
  have hl':lk=0\/lk=1\/lk=2\/lk=3\/lk=4:=by omega
  have hh':hk=0\/hk=1\/hk=2\/hk=3\/hk=4:=by omega
  clear hkl
  rcases hl' with rfl|rfl|rfl|rfl|rfl<;>rcases hh' with rfl|rfl|rfl|rfl|rfl
  ·have HR:Hid (R=false):=by(show _=_;rw[hR];rfl)
   clear hR
   go_wp2_with fail
   go_ret
   rw[HR.out]
   exact Ret.of (bool_eq (by first|rfl|(simp[*];done))) (HB.out.trans (Below.mono (B:=wc.heap.size) Bw HB.out.size))
  ·cases hs:(ln.toList==hn.toList)
   ·have HR:Hid (R=false):=by(show _=_;rw[hR];simp[sameB, *])
    clear hR
    go_wp2_with fail
    go_ret
    rw[HR.out]
    exact Ret.of (bool_eq (by first|rfl|(simp[*];done))) (HB.out.trans (Below.mono (B:=wc.heap.size) Bw HB.out.size))
   ·by_cases h:hd<ld
    ·have HR:Hid (R=true):=by(show _=_;rw[hR];simp[sameB, *])
     clear hR
     go_wp2_with fail
     go_ret
     rw[HR.out]
     exact Ret.of (bool_eq (by first|rfl|(simp[*];done))) (HB.out.trans (Below.mono (B:=wc.heap.size) Bw HB.out.size))
    ·have HR:Hid (R=false):=by(show _=_;rw[hR];simp[sameB, *])
     clear hR
     go_wp2_with fail
     go_ret
     rw[HR.out]
     exact Ret.of (bool_eq (by first|rfl|(simp[*];done))) (HB.out.trans (Below.mono (B:=wc.heap.size) Bw HB.out.size))
  ·have HR:Hid (R=false):=by(show _=_;rw[hR];rfl)
   clear hR
   go_wp2_with fail
   go_ret
   rw[HR.out]
   exact Ret.of (bool_eq (by first|rfl|(simp[*];done))) (HB.out.trans (Below.mono (B:=wc.heap.size) Bw HB.out.size))
  ·have HR:Hid (R=false):=by(show _=_;rw[hR];rfl)
   clear hR
   go_wp2_with fail
   go_ret
   rw[HR.out]
   exact Ret.of (bool_eq (by first|rfl|(simp[*];done))) (HB.out.trans (Below.mono (B:=wc.heap.size) Bw HB.out.size))
  ·have HR:Hid (R=false):=by(show _=_;rw[hR];rfl)
   clear hR
   go_wp2_with fail
   go_ret
   rw[HR.out]
   exact Ret.of (bool_eq (by first|rfl|(simp[*];done))) (HB.out.trans (Below.mono (B:=wc.heap.size) Bw HB.out.size))
  ·have HR:Hid (R=false):=by(show _=_;rw[hR];rfl)
   clear hR
   go_wp2_with fail
   go_ret
   rw[HR.out]
   exact Ret.of (bool_eq (by first|rfl|(simp[*];done))) (HB.out.trans (Below.mono (B:=wc.heap.size) Bw HB.out.size))
  ·cases hs:(ln.toList==hn.toList)
   ·have HR:Hid (R=false):=by(show _=_;rw[hR];simp[sameB, *])
    clear hR
    go_wp2_with fail
    go_ret
    rw[HR.out]
    exact Ret.of (bool_eq (by first|rfl|(simp[*];done))) (HB.out.trans (Below.mono (B:=wc.heap.size) Bw HB.out.size))
   ·by_cases h:ld=hd
    ·have HR:Hid (R=false):=by(show _=_;rw[hR];simp[sameB, *])
     clear hR
     go_wp2_with fail
     go_ret
     rw[HR.out]
     exact Ret.of (bool_eq (by first|rfl|(simp[*];done))) (HB.out.trans (Below.mono (B:=wc.heap.size) Bw HB.out.size))
    ·have HR:Hid (R=true):=by(show _=_;rw[hR];simp[sameB, *])
     clear hR
     go_wp2_with fail
     go_ret
     rw[HR.out]
     exact Ret.of (bool_eq (by first|rfl|(simp[*];done))) (HB.out.trans (Below.mono (B:=wc.heap.size) Bw HB.out.size))
  ·have HR:Hid (R=false):=by(show _=_;rw[hR];rfl)
   clear hR
   go_wp2_with fail
   go_ret
   rw[HR.out]
   exact Ret.of (bool_eq (by first|rfl|(simp[*];done))) (HB.out.trans (Below.mono (B:=wc.heap.size) Bw HB.out.size))
  ·cases hs:(ln.toList==hn.toList)
   ·have HR:Hid (R=false):=by(show _=_;rw[hR];simp[sameB, *])
    clear hR
    go_wp2_with fail
    go_ret
    rw[HR.out]
    exact Ret.of (bool_eq (by first|rfl|(simp[*];done))) (HB.out.trans (Below.mono (B:=wc.heap.size) Bw HB.out.size))
   ·by_cases h:ld<hd
    ·have HR:Hid (R=true):=by(show _=_;rw[hR];simp[sameB, *])
     clear hR
     go_wp2_with fail
     go_ret
     rw[HR.out]
     exact Ret.of (bool_eq (by first|rfl|(simp[*];done))) (HB.out.trans (Below.mono (B:=wc.heap.size) Bw HB.out.size))
    ·have HR:Hid (R=false):=by(show _=_;rw[hR];simp[sameB, *])
     clear hR
     go_wp2_with fail
     go_ret
     rw[HR.out]
     exact Ret.of (bool_eq (by first|rfl|(simp[*];done))) (HB.out.trans (Below.mono (B:=wc.heap.size) Bw HB.out.size))
  ·cases hs:(ln.toList==hn.toList)
   ·have HR:Hid (R=false):=by(show _=_;rw[hR];simp[sameB, *])
    clear hR
    go_wp2_with fail
    go_ret
    rw[HR.out]
    exact Ret.of (bool_eq (by first|rfl|(simp[*];done))) (HB.out.trans (Below.mono (B:=wc.heap.size) Bw HB.out.size))
   ·by_cases h:ld<hd
    ·have HR:Hid (R=true):=by(show _=_;rw[hR];simp[sameB, *])
     clear hR
     go_wp2_with fail
     go_ret
     rw[HR.out]
     exact Ret.of (bool_eq (by first|rfl|(simp[*];done))) (HB.out.trans (Below.mono (B:=wc.heap.size) Bw HB.out.size))
    ·have HR:Hid (R=false):=by(show _=_;rw[hR];simp[sameB, *])
     clear hR
     go_wp2_with fail
     go_ret
     rw[HR.out]
     exact Ret.of (bool_eq (by first|rfl|(simp[*];done))) (HB.out.trans (Below.mono (B:=wc.heap.size) Bw HB.out.size))
  ·have HR:Hid (R=false):=by(show _=_;rw[hR];rfl)
   clear hR
   go_wp2_with fail
   go_ret
   rw[HR.out]
   exact Ret.of (bool_eq (by first|rfl|(simp[*];done))) (HB.out.trans (Below.mono (B:=wc.heap.size) Bw HB.out.size))
  ·have HR:Hid (R=false):=by(show _=_;rw[hR];rfl)
   clear hR
   go_wp2_with fail
   go_ret
   rw[HR.out]
   exact Ret.of (bool_eq (by first|rfl|(simp[*];done))) (HB.out.trans (Below.mono (B:=wc.heap.size) Bw HB.out.size))
  ·have HR:Hid (R=false):=by(show _=_;rw[hR];rfl)
   clear hR
   go_wp2_with fail
   go_ret
   rw[HR.out]
   exact Ret.of (bool_eq (by first|rfl|(simp[*];done))) (HB.out.trans (Below.mono (B:=wc.heap.size) Bw HB.out.size))
  ·have HR:Hid (R=false):=by(show _=_;rw[hR];rfl)
   clear hR
   go_wp2_with fail
   go_ret
   rw[HR.out]
   exact Ret.of (bool_eq (by first|rfl|(simp[*];done))) (HB.out.trans (Below.mono (B:=wc.heap.size) Bw HB.out.size))
  ·have HR:Hid (R=false):=by(show _=_;rw[hR];rfl)
   clear hR
   go_wp2_with fail
   go_ret
   rw[HR.out]
   exact Ret.of (bool_eq (by first|rfl|(simp[*];done))) (HB.out.trans (Below.mono (B:=wc.heap.size) Bw HB.out.size))
  ·have HR:Hid (R=false):=by(show _=_;rw[hR];rfl)
   clear hR
   go_wp2_with fail
   go_ret
   rw[HR.out]
   exact Ret.of (bool_eq (by first|rfl|(simp[*];done))) (HB.out.trans (Below.mono (B:=wc.heap.size) Bw HB.out.size))
  ·have HR:Hid (R=false):=by(show _=_;rw[hR];rfl)
   clear hR
   go_wp2_with fail
   go_ret
   rw[HR.out]
   exact Ret.of (bool_eq (by first|rfl|(simp[*];done))) (HB.out.trans (Below.mono (B:=wc.heap.size) Bw HB.out.size))
  ·have HR:Hid (R=false):=by(show _=_;rw[hR];rfl)
   clear hR
   go_wp2_with fail
   go_ret
   rw[HR.out]
   exact Ret.of (bool_eq (by first|rfl|(simp[*];done))) (HB.out.trans (Below.mono (B:=wc.heap.size) Bw HB.out.size))
  ·cases hs:(ln.toList==hn.toList)
   ·have HR:Hid (R=false):=by(show _=_;rw[hR];simp[sameB, *])
    clear hR
    go_wp2_with fail
    go_ret
    rw[HR.out]
    exact Ret.of (bool_eq (by first|rfl|(simp[*];done))) (HB.out.trans (Below.mono (B:=wc.heap.size) Bw HB.out.size))
   ·cases hq:(lp.toList==hp.toList)
    ·have HR:Hid (R=false):=by(show _=_;rw[hR];simp[sameB, *])
     clear hR
     go_wp2_with fail
     go_ret
     rw[HR.out]
     exact Ret.of (bool_eq (by first|rfl|(simp[*];done))) (HB.out.trans (Below.mono (B:=wc.heap.size) Bw HB.out.size))
    ·by_cases h:ld=hd
     ·by_cases h2:lu=hu
      ·by_cases h3:lv=hv
       ·have HR:Hid (R=false):=by(show _=_;rw[hR];simp[sameB, *])
        clear hR
        go_wp2_with fail
        go_ret
        rw[HR.out]
        exact Ret.of (bool_eq (by first|rfl|(simp[*];done))) (HB.out.trans (Below.mono (B:=wc.heap.size) Bw HB.out.size))
       ·have HR:Hid (R=true):=by(show _=_;rw[hR];simp[sameB, *])
        clear hR
        go_wp2_with fail
        go_ret
        rw[HR.out]
        exact Ret.of (bool_eq (by first|rfl|(simp[*];done))) (HB.out.trans (Below.mono (B:=wc.heap.size) Bw HB.out.size))
      ·have HR:Hid (R=true):=by(show _=_;rw[hR];simp[sameB, *])
       clear hR
       go_wp2_with fail
       go_ret
       rw[HR.out]
       exact Ret.of (bool_eq (by first|rfl|(simp[*];done))) (HB.out.trans (Below.mono (B:=wc.heap.size) Bw HB.out.size))
     ·have HR:Hid (R=false):=by(show _=_;rw[hR];simp[sameB, *])
      clear hR
      go_wp2_with fail
      go_ret
      rw[HR.out]
      exact Ret.of (bool_eq (by first|rfl|(simp[*];done))) (HB.out.trans (Below.mono (B:=wc.heap.size) Bw HB.out.size))
  ·have HR:Hid (R=false):=by(show _=_;rw[hR];rfl)
   clear hR
   go_wp2_with fail
   go_ret
   rw[HR.out]
   exact Ret.of (bool_eq (by first|rfl|(simp[*];done))) (HB.out.trans (Below.mono (B:=wc.heap.size) Bw HB.out.size))
  ·have HR:Hid (R=false):=by(show _=_;rw[hR];rfl)
   clear hR
   go_wp2_with fail
   go_ret
   rw[HR.out]
   exact Ret.of (bool_eq (by first|rfl|(simp[*];done))) (HB.out.trans (Below.mono (B:=wc.heap.size) Bw HB.out.size))
  ·have HR:Hid (R=false):=by(show _=_;rw[hR];rfl)
   clear hR
   go_wp2_with fail
   go_ret
   rw[HR.out]
   exact Ret.of (bool_eq (by first|rfl|(simp[*];done))) (HB.out.trans (Below.mono (B:=wc.heap.size) Bw HB.out.size))
  ·have HR:Hid (R=false):=by(show _=_;rw[hR];rfl)
   clear hR
   go_wp2_with fail
   go_ret
   rw[HR.out]
   exact Ret.of (bool_eq (by first|rfl|(simp[*];done))) (HB.out.trans (Below.mono (B:=wc.heap.size) Bw HB.out.size))
  ·have HR:Hid (R=false):=by(show _=_;rw[hR];rfl)
   clear hR
   go_wp2_with fail
   go_ret
   rw[HR.out]
   exact Ret.of (bool_eq (by first|rfl|(simp[*];done))) (HB.out.trans (Below.mono (B:=wc.heap.size) Bw HB.out.size))
  ·cases hs:(ln.toList==hn.toList)
   ·cases hq:(lp.toList==hp.toList)
    ·have HR:Hid (R=false):=by(show _=_;rw[hR];simp[sameB, *])
     clear hR
     go_wp2_with fail
     go_ret
     rw[HR.out]
     exact Ret.of (bool_eq (by first|rfl|(simp[*];done))) (HB.out.trans (Below.mono (B:=wc.heap.size) Bw HB.out.size))
    ·by_cases h:max ld hd<min lt ht
     ·have HR:Hid (R=true):=by(show _=_;rw[hR];simp[sameB, *])
      clear hR
      go_wp2_with fail
      go_ret
      rw[HR.out]
      exact Ret.of (bool_eq (by first|rfl|(simp[*];done))) (HB.out.trans (Below.mono (B:=wc.heap.size) Bw HB.out.size))
     ·have HR:Hid (R=false):=by(show _=_;rw[hR];simp[sameB, *])
      clear hR
      go_wp2_with fail
      go_ret
      rw[HR.out]
      exact Ret.of (bool_eq (by first|rfl|(simp[*];done))) (HB.out.trans (Below.mono (B:=wc.heap.size) Bw HB.out.size))
   ·have HR:Hid (R=false):=by(show _=_;rw[hR];simp[sameB, *])
    clear hR
    go_wp2_with fail
    go_ret
    rw[HR.out]
    exact Ret.of (bool_eq (by first|rfl|(simp[*];done))) (HB.out.trans (Below.mono (B:=wc.heap.size) Bw HB.out.size))
end Go.Proofs.YtmaidggpbihlgaaGreatDoor
