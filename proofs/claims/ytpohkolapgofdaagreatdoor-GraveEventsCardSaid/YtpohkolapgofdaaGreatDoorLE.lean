/- Walk of the reference: the error of an event by itself. -/
import Derived.Test.YtpohkolapgofdaaGreatDoorC2
import Derived.Test.YtpohkolapgofdaaGreatDoorQ0
namespace Go.Proofs.YtpohkolapgofdaaGreatDoor
open Go.RowKit
attribute [local go_sem] World.cell?_alloc_mark ext_size ext_cell ext_frozen lt_add_r lt_add_r2 lt_add_r3 lt_add_r4 lt_add_r5 lt_add_r6 lt_add_r7 lt_add_r8

theorem checkEvent_same (e : Event) : checkEventP e = checkEventR e := by
  unfold checkEventP checkEventR
  simp only [isName_same]
  cases h1 : inR e.day 0 200000
  · rfl
  cases h2 : inR e.kind 0 4
  · rfl
  have hk : e.kind = 0 ∨ e.kind = 1 ∨ e.kind = 2 ∨ e.kind = 3 ∨ e.kind = 4 := by simp [inR] at h2; omega
  rcases hk with hk | hk | hk | hk | hk <;> simp [hk] <;> cases e.order <;> simp

set_option maxRecDepth 100000 in
set_option maxHeartbeats 2000000 in
theorem rCheckEvent_any' (dy k : Int) (si : ByteArray) (l : Int) (rm : ByteArray) (c : Int) (o : Bool) (w : World) (hs : si.size ≤ 100000) (hr : rm.size ≤ 100000) :
    Calls Tryz.prog 9 #[.agg #[.int .i64 dy, .int .i64 k, .string si, .int .i64 l, .string rm, .int .i64 c, .bool o]] w (Ret w (.int .i64 (checkEventR ⟨dy, k, si, l, rm, c, o⟩))) := by
  have HS := Lib.hid hs
  have HR := Lib.hid hr
  clear hs hr
  go_enter Tryz.func9, Tryz.ntmps9
  have hk : k = 0 ∨ k = 1 ∨ k = 2 ∨ k = 3 ∨ k = 4 ∨ inR k 0 4 = false := by simp [inR]; omega
  rcases hk with rfl | rfl | rfl | rfl | rfl | hk
  all_goals
   go_wp2_with (first
      | (go_at_call 36; refine (rIsDay_any _ _).mono ?_; intro e wq hq; rcases Ret0.bools hq with ⟨rfl, ⟨hb, rfl⟩ | ⟨hb, rfl⟩⟩ <;> clear hq)
      | (go_at_call 37; refine (bwithin_any _ _ _ _).mono ?_; intro e wq hq; rcases Ret0.bools hq with ⟨rfl, ⟨hb, rfl⟩ | ⟨hb, rfl⟩⟩ <;> clear hq)
      | (go_at_call 39; refine (rIsContainer_any _ _).mono ?_; intro e wq hq; rcases Ret0.bools hq with ⟨rfl, ⟨hb, rfl⟩ | ⟨hb, rfl⟩⟩ <;> clear hq)
      | (go_at_call 38; refine (bIsName_any _ _ (by first | exact HS.out | exact HR.out)).mono ?_; intro e wq hq; rcases Ret0.bools hq with ⟨rfl, ⟨hb, rfl⟩ | ⟨hb, rfl⟩⟩ <;> clear hq))
  all_goals go_ret
  all_goals refine Ret.of (int_eq ?_) (by repeat (first | exact Below.refl _ _ | exact Below.refl (World.heap _).size _ | assumption | refine B_alloc ?_ _ | refine B_ext ?_ _ | refine B_drew ?_ | refine B_drewN ?_ _ | refine B_set ?_ (by simp; omega) _))
  all_goals go_tidy
  all_goals simp_all [checkEventR]
theorem rCheckEvent_any (dy k : Int) (si : ByteArray) (l : Int) (rm : ByteArray) (c : Int) (o : Bool) (w : World) (hs : si.size ≤ 100000) (hr : rm.size ≤ 100000) :
    Calls Tryz.prog 9 #[.agg #[.int .i64 dy, .int .i64 k, .string si, .int .i64 l, .string rm, .int .i64 c, .bool o]] w (Ret w (.int .i64 (checkEventP ⟨dy, k, si, l, rm, c, o⟩))) := by
  rw [checkEvent_same]; exact rCheckEvent_any' dy k si l rm c o w hs hr
end Go.Proofs.YtpohkolapgofdaaGreatDoor
