/- The laid variables' premises; walk of the program: a number in decimal. -/
import Derived.Test.YtpohkolapgofdaaGreatDoorTJ
import Derived.Test.YtpohkolapgofdaaGreatDoorSH
namespace Go.Proofs.YtpohkolapgofdaaGreatDoor
open Go.RowKit
attribute [local go_sem] World.cell?_alloc_mark ext_size ext_cell ext_frozen lt_add_r lt_add_r2 lt_add_r3 lt_add_r4 lt_add_r5 lt_add_r6 lt_add_r7 lt_add_r8

def ErrVal (ev : Value) : Prop := ev = .nilIface ∨ ∃ te pe, ev = .iface te pe
/-- What the library's variables hold. -/
structure Laid (w : World) : Prop where
  len : ∃ m, w.cell? ⟨0, 0, none⟩ = some (.int .i64 m)
  syn : ∃ ev, w.cell? ⟨3, 0, none⟩ = some ev ∧ ErrVal ev
  rng : ∃ ev, w.cell? ⟨4, 0, none⟩ = some ev ∧ ErrVal ev
  tab : Lib.TabIs Tryz.prog w "internal/strconv.uint64pow10" .u64 Lib.pow10Tab
theorem cell_some {w : World} {b o : Nat} {v : Value} (h : w.cell? ⟨b, o, none⟩ = some v) : b < w.heap.size := by
  rcases Nat.lt_or_ge b w.heap.size with h1 | h1
  · exact h1
  · simp [World.cell?, Array.getElem?_eq_none h1] at h
theorem Laid.keep {w W : World} (h : Laid w) {n : Nat} (hB : Below n w W) (hn : w.heap.size ≤ n := by first | exact Nat.le_refl _ | omega) : Laid W := by
  obtain ⟨⟨m, h1⟩, ⟨ev, h2, h3⟩, ⟨er, h4, h5⟩, h6⟩ := h
  refine ⟨⟨m, (hB.cell (p := ⟨0, 0, none⟩) (Nat.lt_of_lt_of_le (cell_some h1) hn)).trans h1⟩, ⟨ev, (hB.cell (p := ⟨3, 0, none⟩) (Nat.lt_of_lt_of_le (cell_some h2) hn)).trans h2, h3⟩,
    ⟨er, (hB.cell (p := ⟨4, 0, none⟩) (Nat.lt_of_lt_of_le (cell_some h4) hn)).trans h4, h5⟩, ?_⟩
  unfold Lib.TabIs World.var? at *
  cases hg : Program.globalNamed Tryz.prog "internal/strconv.uint64pow10" with
  | none => simp [hg] at h6
  | some g =>
    simp only [hg, Option.bind_some] at h6 ⊢
    have hlt : g < w.heap.size := by
      rcases Nat.lt_or_ge g w.heap.size with h' | h'
      · exact h'
      · simp [Array.getElem?_eq_none h'] at h6
    rw [hB.block g (Nat.lt_of_lt_of_le hlt hn)]
    exact h6
theorem grow_below (w : World) (q : Nat) (os : Array Obj) : Below w.heap.size w (Go.Sort.grow (w.drewN q) os) := by
  have h : Go.Sort.grow (w.drewN q) os = w.ext ⟨os, (w.drewN q).drawn⟩ := rfl
  rw [h]
  exact below_ext w _
set_option maxRecDepth 100000 in
set_option maxHeartbeats 2000000 in
theorem pdecimal_any (n : Int) (w : World) (hL : Laid w) (h0 : -9223372036854775808 ≤ n) (h1 : n ≤ 9223372036854775807) : Calls Tryz.prog 34 #[.int .i64 n] w (Ret w (.string (toB (Lib.itoa n)))) := by
  go_enter Tryz.func34, Tryz.ntmps34
  go_wp2_with (go_at_call 65; refine (Tryz.strconv_Itoa n h0 h1 _ hL.tab).mono ?_; rintro e wq ⟨rfl, q, os, rfl⟩)
  go_ret
  exact Ret.of rfl (grow_below w q os)
end Go.Proofs.YtpohkolapgofdaaGreatDoor
