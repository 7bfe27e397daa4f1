/- Walk: two lots compared by their remains' names. -/
import Derived.Test.YtpohkolapgofdaaGreatH1
import Derived.Test.YtpohkolapgofdaaGreatQ0
import Derived.Lib.Bytealg
import Derived.Sort.Grow
namespace Go.Proofs.YtpohkolapgofdaaGreat
open Go.RowKit Go.Sort
attribute [local go_sem] World.cell?_alloc_mark ext_size ext_cell ext_frozen lt_add_r lt_add_r2 lt_add_r3 lt_add_r4 lt_add_r5 lt_add_r6 lt_add_r7 lt_add_r8

theorem grow_none (w : World) (o : Obj) : w.alloc o = grow (w.drewN 0) #[o] := alloc_eq_grow w o
set_option maxRecDepth 100000 in
set_option maxHeartbeats 2000000 in
theorem bcmp_any (a b : ByteArray) (w : World) : Calls Tryz.prog 85 #[.string a, .string b] w (Ret0 w (.int .i64 (Lib.compareBytes a.data.toList b.data.toList))) := by
  go_enter Tryz.func85, Tryz.ntmps85
  go_wp2
  rw [run_callFunc_extern Tryz.func112 (by kernel_rfl) (by kernel_rfl) (by kernel_rfl) (e := Extern.BytealgCompare.compare) (by kernel_rfl), Lib.run_compareString]
  simp only [Result.andThen]
  rw [Oper.upon_value]
  go_wp2
  go_ret
  exact ⟨rfl, rfl⟩
set_option maxRecDepth 100000 in
set_option maxHeartbeats 2000000 in
theorem scmp_any (a b : ByteArray) (w : World) : Calls Tryz.prog 62 #[.string a, .string b] w (Ret0 w (.int .i64 (Lib.compareBytes a.data.toList b.data.toList))) := by
  go_enter Tryz.func62, Tryz.ntmps62
  go_wp2_with (go_at_call 85; refine (bcmp_any _ _ _).mono ?_; rintro e wq ⟨rfl, rfl⟩)
  go_ret
  exact ⟨rfl, rfl⟩
def lotCmp (x y : Lot) : Int := Lib.compareBytes x.remain.data.toList y.remain.data.toList
set_option maxRecDepth 100000 in
set_option maxHeartbeats 2000000 in
theorem allCmp_any (x y : Lot) (W : World) : Calls Tryz.prog 61 #[.agg x.cells.toArray, .agg y.cells.toArray] W fun e w' => e = .returned (.int .i64 (lotCmp x y)) ∧ ∃ q os', w' = grow (W.drewN q) os' := by
  obtain ⟨a0, a1, a2, a3, a4, a5⟩ := x
  obtain ⟨b0, b1, b2, b3, b4, b5⟩ := y
  have hc := fun W' => scmp_any a0 b0 W'
  have hl : lotCmp ⟨a0, a1, a2, a3, a4, a5⟩ ⟨b0, b1, b2, b3, b4, b5⟩ = Lib.compareBytes a0.data.toList b0.data.toList := rfl
  rw [hl]
  generalize Lib.compareBytes a0.data.toList b0.data.toList = r at hc ⊢
  simp only [Lot.cells]
  go_enter Tryz.func61, Tryz.ntmps61
  go_wp2_with (go_at_call 62; refine (hc _).mono ?_; rintro e wq ⟨rfl, rfl⟩)
  go_ret
  exact ⟨rfl, 0, _, by rw [alloc_eq_grow, alloc_eq_grow, grow_grow]; rfl⟩
theorem compare_neg : ∀ (a b : List UInt8), decide (Lib.compareBytes a b < 0) = Op.bytesLess a b
  | [], [] => by simp [Lib.compareBytes, Op.bytesLess]
  | [], _ :: _ => by simp [Lib.compareBytes, Op.bytesLess]
  | _ :: _, [] => by simp [Lib.compareBytes, Op.bytesLess]
  | a :: xs, b :: ys => by
    have ih := compare_neg xs ys
    unfold Lib.compareBytes Op.bytesLess
    by_cases he : a = b
    · subst he
      simp [UInt8.lt_irrefl, ih]
    · by_cases h1 : a < b
      · simp [h1]
      · have h2 : b < a := (UInt8.lt_or_lt_of_ne he).resolve_left h1
        simp [h1, h2, he]
theorem lot_lt (x y : Lot) : decide (lotCmp x y < 0) = lessS x.remain y.remain := by
  unfold lotCmp lessS
  rw [compare_neg, ByteArray.toList_eq, ByteArray.toList_eq]
end Go.Proofs.YtpohkolapgofdaaGreat
