/- Walk of the program: the fields of an event (kinds exhume, gather). -/
/- Walk of the program: the fields of an event (kinds lower, bury, rebury). -/
import Derived.Test.YtpohkolapgofdaaGreatDoorTU
import Derived.Laws.EntriesVeiled
namespace Go.Proofs.YtpohkolapgofdaaGreatDoor
open Go.RowKit
attribute [local go_sem] World.cell?_alloc_mark ext_size ext_cell ext_frozen lt_add_r lt_add_r2 lt_add_r3 lt_add_r4 lt_add_r5 lt_add_r6 lt_add_r7 lt_add_r8
attribute [local go_sem] ext_setCell alloc_setCell_lt
set_option maxRecDepth 100000 in
set_option maxHeartbeats 2000000 in
theorem fields_plain (kd : Int) (ws : List ByteArray) (A : Option Addr) (c : Nat) (w : World) (hL : Laid w) (hS : Sl w 1 strCells A ws) (hl : ws.length ≤ 100001) (hsz : ∀ x ∈ ws, x.size ≤ 1000) (h0 : ¬ kd = 0) (h2 : ¬ kd = 2) (h3 : ¬ kd = 3) :
    Calls Tryz.prog 31 #[.int .i64 kd, .slice A ws.length c] w (Ret w (.agg #[.int .i64 (numP (bs (wordAt ws 1))), .int .i64 kd, .string ⟨#[]⟩, .int .i64 0, .string (wordAt ws 2), .int .i64 0, .bool ((wordAt ws 3).toList == (toB orderB).toList)])) := by
  go_enter Tryz.func31, Tryz.ntmps31
  go_wp2_with (first
    | (go_at_call 62; refine (numeral_any ws A c 1 w.heap.size (w.heap.size + 1 + 1 + 1) _ (hL.keep (n := w.heap.size) (by repeat (first | exact B_refl | exact Below.refl _ _ | assumption | with_reducible refine B_alloc ?_ _ | with_reducible refine B_ext ?_ _ | with_reducible refine B_drew ?_ | with_reducible refine B_drewN ?_ _ | with_reducible refine B_set ?_ (by simp; omega) _))) (hS.keep (n := w.heap.size) (by repeat (first | exact B_refl | exact Below.refl _ _ | assumption | with_reducible refine B_alloc ?_ _ | with_reducible refine B_ext ?_ _ | with_reducible refine B_drew ?_ | with_reducible refine B_drewN ?_ _ | with_reducible refine B_set ?_ (by simp; omega) _))) hl hsz (by decide) (by simp [go_sem]) (by simp [go_sem])).mono ?_; rintro e wq ⟨rfl, z1, rfl⟩)
    | (go_at_call 61; refine (word_any ws A c _ w.heap.size _ (hS.keep (n := w.heap.size) (by repeat (first | exact B_refl | exact Below.refl _ _ | assumption | with_reducible refine B_alloc ?_ _ | with_reducible refine B_ext ?_ _ | with_reducible refine B_drew ?_ | with_reducible refine B_drewN ?_ _ | with_reducible refine B_set ?_ (by simp; omega) _))) hl (by decide) (by simp [go_sem])).mono ?_; rintro e wq ⟨rfl, z2, rfl⟩))
  refine bodyPost_ret (v := .agg #[.int .i64 (numP (bs (wordAt ws 1))), .int .i64 kd, .string ⟨#[]⟩, .int .i64 0, .string (wordAt ws 2), .int .i64 0, .bool ((wordAt ws 3).toList == (toB orderB).toList)]) ?_ rfl (Ret.of rfl (by repeat (first | exact B_refl | exact Below.refl _ _ | assumption | with_reducible refine B_alloc ?_ _ | with_reducible refine B_ext ?_ _ | with_reducible refine B_drew ?_ | with_reducible refine B_drewN ?_ _ | with_reducible refine B_set ?_ (by simp; omega) _)))
  rw [results_cell1 rfl]
  go_simp
  rw [show (toB orderB).toList = [111, 114, 100, 101, 114] by rw [ByteArray.toList_eq]; rfl]
end Go.Proofs.YtpohkolapgofdaaGreatDoor
namespace Go.Proofs.YtpohkolapgofdaaGreatDoor
open Go.RowKit
attribute [local go_sem] World.cell?_alloc_mark ext_size ext_cell ext_frozen lt_add_r lt_add_r2 lt_add_r3 lt_add_r4 lt_add_r5 lt_add_r6 lt_add_r7 lt_add_r8
attribute [local go_sem] ext_setCell alloc_setCell_lt
set_option maxRecDepth 100000 in
set_option maxHeartbeats 2000000 in
theorem fields_lower (ws : List ByteArray) (A : Option Addr) (c : Nat) (w : World) (hL : Laid w) (hS : Sl w 1 strCells A ws) (hl : ws.length ≤ 100001) (hsz : ∀ x ∈ ws, x.size ≤ 1000) :
    Calls Tryz.prog 31 #[.int .i64 3, .slice A ws.length c] w (Ret w (.agg #[.int .i64 (numP (bs (wordAt ws 1))), .int .i64 3, .string ⟨#[]⟩, .int .i64 (numP (bs (wordAt ws 2))), .string (wordAt ws 3), .int .i64 0, .bool ((wordAt ws 4).toList == (toB orderB).toList)])) := by
  go_enter Tryz.func31, Tryz.ntmps31
  go_wp2_with (first
    | (go_at_call 62; refine (numeral_any ws A c 1 w.heap.size (w.heap.size + 1 + 1 + 1) _ (hL.keep (n := w.heap.size) (by repeat (first | exact B_refl | exact Below.refl _ _ | assumption | with_reducible refine B_alloc ?_ _ | with_reducible refine B_ext ?_ _ | with_reducible refine B_drew ?_ | with_reducible refine B_drewN ?_ _ | with_reducible refine B_set ?_ (by simp; omega) _))) (hS.keep (n := w.heap.size) (by repeat (first | exact B_refl | exact Below.refl _ _ | assumption | with_reducible refine B_alloc ?_ _ | with_reducible refine B_ext ?_ _ | with_reducible refine B_drew ?_ | with_reducible refine B_drewN ?_ _ | with_reducible refine B_set ?_ (by simp; omega) _))) hl hsz (by decide) (by simp [go_sem]) (by simp [go_sem])).mono ?_; rintro e wq ⟨rfl, z1, rfl⟩))
  (refine wp_region_quiet_tail 5 (by kernel_rfl) (by kernel_rfl) ?_
   simp only [List.take_succ_cons, List.take_zero, List.drop_succ_cons, List.drop_zero]
   repeat (first | go_big_quiet_skip | (go_big_quiet_want; go_big_quiet_op; first | go_big_quiet_on | (apply Exists.intro; refine ⟨fun _ => ?_, ?_⟩; ((first
      | (go_at_call 62; exact quietx (numeral_any ws A c 2 w.heap.size (w.heap.size + 1 + 1 + 1) _ (hL.keep (n := w.heap.size) (by repeat (first | exact B_refl | exact Below.refl _ _ | assumption | with_reducible refine B_alloc ?_ _ | with_reducible refine B_ext ?_ _ | with_reducible refine B_drew ?_ | with_reducible refine B_drewN ?_ _ | with_reducible refine B_set ?_ (by simp; omega) _))) (hS.keep (n := w.heap.size) (by repeat (first | exact B_refl | exact Below.refl _ _ | assumption | with_reducible refine B_alloc ?_ _ | with_reducible refine B_ext ?_ _ | with_reducible refine B_drew ?_ | with_reducible refine B_drewN ?_ _ | with_reducible refine B_set ?_ (by simp; omega) _))) hl hsz (by decide) (by simp [go_sem]) (by simp [go_sem])))
      | (go_at_call 61; exact quietx (word_any ws A c 3 w.heap.size _ (hS.keep (n := w.heap.size) (by repeat (first | exact B_refl | exact Below.refl _ _ | assumption | with_reducible refine B_alloc ?_ _ | with_reducible refine B_ext ?_ _ | with_reducible refine B_drew ?_ | with_reducible refine B_drewN ?_ _ | with_reducible refine B_set ?_ (by simp; omega) _))) hl (by decide) (by simp [go_sem]))))); go_big_quiet_on)))
   refine wpQuiet_nil ?_
   rintro _ ⟨zq, rfl⟩)
  go_wp2_with (first
    | (go_at_call 61; refine (word_any ws A c 4 w.heap.size _ (hS.keep (n := w.heap.size) (by repeat (first | exact B_refl | exact Below.refl _ _ | assumption | with_reducible refine B_alloc ?_ _ | with_reducible refine B_ext ?_ _ | with_reducible refine B_drew ?_ | with_reducible refine B_drewN ?_ _ | with_reducible refine B_set ?_ (by simp; omega) _))) hl (by decide) (by simp [go_sem])).mono ?_; rintro e wq ⟨rfl, z2, rfl⟩))
  refine bodyPost_ret (v := .agg #[.int .i64 (numP (bs (wordAt ws 1))), .int .i64 3, .string ⟨#[]⟩, .int .i64 (numP (bs (wordAt ws 2))), .string (wordAt ws 3), .int .i64 0, .bool ((wordAt ws 4).toList == (toB orderB).toList)]) ?_ rfl (Ret.of rfl (by repeat (first | exact B_refl | exact Below.refl _ _ | assumption | with_reducible refine B_alloc ?_ _ | with_reducible refine B_ext ?_ _ | with_reducible refine B_drew ?_ | with_reducible refine B_drewN ?_ _ | with_reducible refine B_set ?_ (by simp; omega) _)))
  rw [results_cell1 rfl]
  go_simp
  rw [show (toB orderB).toList = [111, 114, 100, 101, 114] by rw [ByteArray.toList_eq]; rfl]
end Go.Proofs.YtpohkolapgofdaaGreatDoor
