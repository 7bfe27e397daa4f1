/- Walk of the reference: an event's text. -/
import Derived.Test.YtpohkolapgofdaaGreatDoorTD
import Derived.Deep.RegionHeld3
namespace Go.Proofs.YtpohkolapgofdaaGreatDoor
open Go.RowKit
attribute [local go_sem] World.cell?_alloc_mark ext_size ext_cell ext_frozen lt_add_r lt_add_r2 lt_add_r3 lt_add_r4 lt_add_r5 lt_add_r6 lt_add_r7 lt_add_r8

theorem cell_kept' {n : Nat} {W0 w' : World} {b o : Nat} {v : Value} (hb : b < n) (h : W0.cell? ⟨b, o, none⟩ = some v) (hB : Below n W0 w') : w'.cell? ⟨b, o, none⟩ = some v := (hB.cell (p := ⟨b, o, none⟩) hb).trans h
theorem numbers1 (n : Int) (g : Nat) (w : World) (t : TypeId) (fr : Nat × Nat) (hg : w.heap[g]? = some (.cells #[.int .i64 n] t fr)) (h0 : -1000000000 ≤ n) (h1 : n ≤ 1000000000) :
    Calls Tryz.prog 44 #[.slice (some ⟨g, 0, none⟩) 1 1] w (Ret w (.string (toB (numsB [n])))) :=
  numbers_any [n] g 1 w (blk_lt hg) (fun j m hj => by
    have hj0 : j = 0 := by have := (List.getElem?_eq_some_iff.1 hj).1; simpa using this
    subst hj0
    simp only [List.getElem?_cons_zero, Option.some.injEq] at hj
    subst hj
    simp [World.cell?, hg]) (by simp) (fun m hm => by simp only [List.mem_singleton] at hm; omega)
theorem numbers2 (n m : Int) (g : Nat) (w : World) (t : TypeId) (fr : Nat × Nat) (hg : w.heap[g]? = some (.cells #[.int .i64 n, .int .i64 m] t fr)) (h0 : -1000000000 ≤ n) (h1 : n ≤ 1000000000) (h2 : -1000000000 ≤ m) (h3 : m ≤ 1000000000) :
    Calls Tryz.prog 44 #[.slice (some ⟨g, 0, none⟩) 2 2] w (Ret w (.string (toB (numsB [n, m])))) :=
  numbers_any [n, m] g 2 w (blk_lt hg) (fun j k hj => by
    have hj0 : j < 2 := (List.getElem?_eq_some_iff.1 hj).1
    rcases (show j = 0 ∨ j = 1 by omega) with rfl | rfl
    · simp only [List.getElem?_cons_zero, Option.some.injEq] at hj
      subst hj
      simp [World.cell?, hg]
    · simp only [List.getElem?_cons_succ, List.getElem?_cons_zero, Option.some.injEq] at hj
      subst hj
      simp [World.cell?, hg]) (by simp) (fun k hk => by simp only [List.mem_cons, List.not_mem_nil, or_false] at hk; rcases hk with rfl | rfl <;> omega)
theorem nums_size1 {n : Int} (h0 : -1000000000 ≤ n) (h1 : n ≤ 1000000000) : (toB (numsB [n])).size ≤ 50 := by
  have h2 := numsB_len [n] (fun m hm => by simp only [List.mem_singleton] at hm; omega)
  rw [← bs_len, bs_toB]
  simp only [List.length_cons, List.length_nil] at h2
  omega
theorem nums_size2 {n m : Int} (h0 : -1000000000 ≤ n) (h1 : n ≤ 1000000000) (h2 : -1000000000 ≤ m) (h3 : m ≤ 1000000000) : (toB (numsB [n, m])).size ≤ 50 := by
  have h4 := numsB_len [n, m] (fun k hk => by simp only [List.mem_cons, List.not_mem_nil, or_false] at hk; rcases hk with rfl | rfl <;> omega)
  rw [← bs_len, bs_toB]
  simp only [List.length_cons, List.length_nil] at h4
  omega
theorem app_empty (a : ByteArray) : a ++ ⟨#[]⟩ = a := (of_bs (by rw [bs_app]; simp [bs])).trans (bs_back a)
set_option maxRecDepth 100000 in
set_option maxHeartbeats 2000000 in
theorem rFormat_gather (dy : Int) (si : ByteArray) (l : Int) (rm : ByteArray) (c : Int) (w : World) (hd0 : 0 ≤ dy) (hd1 : dy ≤ 200000) (hr : rm.size ≤ 1000) :
    Calls Tryz.prog 11 #[.agg #[.int .i64 dy, .int .i64 4, .string si, .int .i64 l, .string rm, .int .i64 c, .bool false]] w (Ret w (.string (toB (fmtB ⟨dy, 4, ⟨#[]⟩, 0, rm, 0, false⟩)))) := by
  have HX : Hid (((⟨#[103, 97, 116, 104, 101, 114]⟩ ++ toB (numsB [dy])) ++ ⟨#[32]⟩) ++ rm = toB (fmtB ⟨dy, 4, ⟨#[]⟩, 0, rm, 0, false⟩)) := of_bs (by simp [bs_app, fmtB, lineW, midW, kindsB, gatherB, Lib.join, numsB, toB, bs])
  have hn := nums_size1 (n := dy) (by omega) (by omega)
  have k1 : ¬ 9223372036854775807 < 6 + (toB (numsB [dy])).size := by omega
  have k2 : ¬ 9223372036854775807 < 6 + (toB (numsB [dy])).size + 1 := by omega
  have k3 : ¬ 9223372036854775807 < 6 + (toB (numsB [dy])).size + 1 + rm.size := by omega
  go_enter Tryz.func11, Tryz.ntmps11
  go_wp2_with fail
  go_region_held3 (fun w' => w'.cell? ⟨w.heap.size, 0, none⟩ = some (.int .i64 dy) ∧ w'.cell? ⟨w.heap.size, 2, none⟩ = some (.string si) ∧ w'.cell? ⟨w.heap.size, 3, none⟩ = some (.int .i64 l) ∧ w'.cell? ⟨w.heap.size, 4, none⟩ = some (.string rm) ∧ w'.cell? ⟨w.heap.size, 5, none⟩ = some (.int .i64 c))
                    (first | go_keep | (simp [go_sem]; done))
    (first
     | (go_at_call 44; refine (numbers1 dy _ _ 3 (0, 0) ?q1 (by omega) (by omega)).mono ?_
        case q1 => (repeat (first | with_reducible exact G_new _ _ _ (by simp) | with_reducible exact G_new _ _ _ (by simp [ext_size]) | with_reducible refine G_drew ?_ | with_reducible refine G_ext ?_ | with_reducible refine G_alloc ?_))
        rintro e wq ⟨rfl, z1, rfl⟩))
  go_wp2_with fail
  go_ret
  exact Ret.of (congrArg Value.string HX.out) (by repeat (first | exact B_refl | exact Below.refl _ _ | assumption | with_reducible refine B_alloc ?_ _ | with_reducible refine B_ext ?_ _ | with_reducible refine B_drew ?_ | with_reducible refine B_drewN ?_ _ | with_reducible refine B_set ?_ (by simp; omega) _))
set_option maxRecDepth 100000 in
set_option maxHeartbeats 2000000 in
theorem rFormat_exhume (dy : Int) (si : ByteArray) (l : Int) (rm : ByteArray) (c : Int) (o : Bool) (w : World) (hd0 : 0 ≤ dy) (hd1 : dy ≤ 200000) (hr : rm.size ≤ 1000) :
    Calls Tryz.prog 11 #[.agg #[.int .i64 dy, .int .i64 1, .string si, .int .i64 l, .string rm, .int .i64 c, .bool o]] w (Ret w (.string (toB (fmtB ⟨dy, 1, ⟨#[]⟩, 0, rm, 0, o⟩)))) := by
  have HX : Hid ((((⟨#[101, 120, 104, 117, 109, 101]⟩ ++ toB (numsB [dy])) ++ ⟨#[32]⟩) ++ rm) ++ (if o then ⟨#[32, 111, 114, 100, 101, 114]⟩ else ⟨#[]⟩) = toB (fmtB ⟨dy, 1, ⟨#[]⟩, 0, rm, 0, o⟩)) := of_bs (by cases o <;> simp [bs_app, fmtB, lineW, midW, kindsB, exhumeB, orderB, Lib.join, numsB, toB, bs])
  have hn := nums_size1 (n := dy) (by omega) (by omega)
  have k1 : ¬ 9223372036854775807 < 6 + (toB (numsB [dy])).size := by omega
  have k2 : ¬ 9223372036854775807 < 6 + (toB (numsB [dy])).size + 1 := by omega
  have k3 : ¬ 9223372036854775807 < 6 + (toB (numsB [dy])).size + 1 + rm.size := by omega
  have k4 : ¬ 9223372036854775807 < 6 + (toB (numsB [dy])).size + 1 + rm.size + 6 := by omega
  cases o
  · go_enter Tryz.func11, Tryz.ntmps11
    go_wp2_with fail
    go_region_held3 (fun w' => w'.cell? ⟨w.heap.size, 0, none⟩ = some (.int .i64 dy) ∧ w'.cell? ⟨w.heap.size, 2, none⟩ = some (.string si) ∧ w'.cell? ⟨w.heap.size, 3, none⟩ = some (.int .i64 l) ∧ w'.cell? ⟨w.heap.size, 4, none⟩ = some (.string rm) ∧ w'.cell? ⟨w.heap.size, 5, none⟩ = some (.int .i64 c))
                      (first | go_keep | (simp [go_sem]; done))
      (first
       | (go_at_call 44; refine (numbers1 dy _ _ 3 (0, 0) ?q1 (by omega) (by omega)).mono ?_
          case q1 => (repeat (first | with_reducible exact G_new _ _ _ (by simp) | with_reducible exact G_new _ _ _ (by simp [ext_size]) | with_reducible refine G_drew ?_ | with_reducible refine G_ext ?_ | with_reducible refine G_alloc ?_))
          rintro e wq ⟨rfl, z1, rfl⟩))
    go_wp2_with fail
    go_ret
    exact Ret.of (congrArg Value.string (by rw [← HX.out, if_neg (by simp), app_empty])) (by repeat (first | exact B_refl | exact Below.refl _ _ | assumption | with_reducible refine B_alloc ?_ _ | with_reducible refine B_ext ?_ _ | with_reducible refine B_drew ?_ | with_reducible refine B_drewN ?_ _ | with_reducible refine B_set ?_ (by simp; omega) _))
  · go_enter Tryz.func11, Tryz.ntmps11
    go_wp2_with fail
    go_region_held3 (fun w' => w'.cell? ⟨w.heap.size, 0, none⟩ = some (.int .i64 dy) ∧ w'.cell? ⟨w.heap.size, 2, none⟩ = some (.string si) ∧ w'.cell? ⟨w.heap.size, 3, none⟩ = some (.int .i64 l) ∧ w'.cell? ⟨w.heap.size, 4, none⟩ = some (.string rm) ∧ w'.cell? ⟨w.heap.size, 5, none⟩ = some (.int .i64 c))
                      (first | go_keep | (simp [go_sem]; done))
      (first
       | (go_at_call 44; refine (numbers1 dy _ _ 3 (0, 0) ?q1 (by omega) (by omega)).mono ?_
          case q1 => (repeat (first | with_reducible exact G_new _ _ _ (by simp) | with_reducible exact G_new _ _ _ (by simp [ext_size]) | with_reducible refine G_drew ?_ | with_reducible refine G_ext ?_ | with_reducible refine G_alloc ?_))
          rintro e wq ⟨rfl, z1, rfl⟩))
    go_wp2_with fail
    go_ret
    exact Ret.of (congrArg Value.string HX.out) (by repeat (first | exact B_refl | exact Below.refl _ _ | assumption | with_reducible refine B_alloc ?_ _ | with_reducible refine B_ext ?_ _ | with_reducible refine B_drew ?_ | with_reducible refine B_drewN ?_ _ | with_reducible refine B_set ?_ (by simp; omega) _))
set_option maxRecDepth 100000 in
set_option maxHeartbeats 2000000 in
theorem rFormat_lower (dy : Int) (si : ByteArray) (l : Int) (rm : ByteArray) (c : Int) (o : Bool) (w : World) (hd0 : 0 ≤ dy) (hd1 : dy ≤ 200000) (hl0 : 0 ≤ l) (hl1 : l ≤ 100) (hr : rm.size ≤ 1000) :
    Calls Tryz.prog 11 #[.agg #[.int .i64 dy, .int .i64 3, .string si, .int .i64 l, .string rm, .int .i64 c, .bool o]] w (Ret w (.string (toB (fmtB ⟨dy, 3, ⟨#[]⟩, l, rm, 0, o⟩)))) := by
  have HX : Hid ((((⟨#[108, 111, 119, 101, 114]⟩ ++ toB (numsB [dy, l])) ++ ⟨#[32]⟩) ++ rm) ++ (if o then ⟨#[32, 111, 114, 100, 101, 114]⟩ else ⟨#[]⟩) = toB (fmtB ⟨dy, 3, ⟨#[]⟩, l, rm, 0, o⟩)) := of_bs (by cases o <;> simp [bs_app, fmtB, lineW, midW, kindsB, lowerB, orderB, Lib.join, numsB, toB, bs])
  have hn := nums_size2 (n := dy) (m := l) (by omega) (by omega) (by omega) (by omega)
  have k1 : ¬ 9223372036854775807 < 5 + (toB (numsB [dy, l])).size := by omega
  have k2 : ¬ 9223372036854775807 < 5 + (toB (numsB [dy, l])).size + 1 := by omega
  have k3 : ¬ 9223372036854775807 < 5 + (toB (numsB [dy, l])).size + 1 + rm.size := by omega
  have k4 : ¬ 9223372036854775807 < 5 + (toB (numsB [dy, l])).size + 1 + rm.size + 6 := by omega
  cases o
  · go_enter Tryz.func11, Tryz.ntmps11
    go_wp2_with fail
    go_region_held3 (fun w' => w'.cell? ⟨w.heap.size, 0, none⟩ = some (.int .i64 dy) ∧ w'.cell? ⟨w.heap.size, 2, none⟩ = some (.string si) ∧ w'.cell? ⟨w.heap.size, 3, none⟩ = some (.int .i64 l) ∧ w'.cell? ⟨w.heap.size, 4, none⟩ = some (.string rm) ∧ w'.cell? ⟨w.heap.size, 5, none⟩ = some (.int .i64 c))
                      (first | go_keep | (simp [go_sem]; done))
      (first
       | (go_at_call 44; refine (numbers2 dy l _ _ 3 (0, 0) ?q1 (by omega) (by omega) (by omega) (by omega)).mono ?_
          case q1 => (repeat (first | with_reducible exact G_new _ _ _ (by simp) | with_reducible exact G_new _ _ _ (by simp [ext_size]) | with_reducible refine G_drew ?_ | with_reducible refine G_ext ?_ | with_reducible refine G_alloc ?_))
          rintro e wq ⟨rfl, z1, rfl⟩))
    go_wp2_with fail
    go_ret
    exact Ret.of (congrArg Value.string (by rw [← HX.out, if_neg (by simp), app_empty])) (by repeat (first | exact B_refl | exact Below.refl _ _ | assumption | with_reducible refine B_alloc ?_ _ | with_reducible refine B_ext ?_ _ | with_reducible refine B_drew ?_ | with_reducible refine B_drewN ?_ _ | with_reducible refine B_set ?_ (by simp; omega) _))
  · go_enter Tryz.func11, Tryz.ntmps11
    go_wp2_with fail
    go_region_held3 (fun w' => w'.cell? ⟨w.heap.size, 0, none⟩ = some (.int .i64 dy) ∧ w'.cell? ⟨w.heap.size, 2, none⟩ = some (.string si) ∧ w'.cell? ⟨w.heap.size, 3, none⟩ = some (.int .i64 l) ∧ w'.cell? ⟨w.heap.size, 4, none⟩ = some (.string rm) ∧ w'.cell? ⟨w.heap.size, 5, none⟩ = some (.int .i64 c))
                      (first | go_keep | (simp [go_sem]; done))
      (first
       | (go_at_call 44; refine (numbers2 dy l _ _ 3 (0, 0) ?q1 (by omega) (by omega) (by omega) (by omega)).mono ?_
          case q1 => (repeat (first | with_reducible exact G_new _ _ _ (by simp) | with_reducible exact G_new _ _ _ (by simp [ext_size]) | with_reducible refine G_drew ?_ | with_reducible refine G_ext ?_ | with_reducible refine G_alloc ?_))
          rintro e wq ⟨rfl, z1, rfl⟩))
    go_wp2_with fail
    go_ret
    exact Ret.of (congrArg Value.string HX.out) (by repeat (first | exact B_refl | exact Below.refl _ _ | assumption | with_reducible refine B_alloc ?_ _ | with_reducible refine B_ext ?_ _ | with_reducible refine B_drew ?_ | with_reducible refine B_drewN ?_ _ | with_reducible refine B_set ?_ (by simp; omega) _))
end Go.Proofs.YtpohkolapgofdaaGreatDoor
