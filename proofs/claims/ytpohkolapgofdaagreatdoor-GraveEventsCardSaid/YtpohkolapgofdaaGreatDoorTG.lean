/- Walk of the reference: the text of a burial. -/
/- Walk of the reference: the text of an event that is right. -/
import Derived.Test.YtpohkolapgofdaaGreatDoorTE
import Derived.Test.YtpohkolapgofdaaGreatDoorR7
namespace Go.Proofs.YtpohkolapgofdaaGreatDoor
open Go.RowKit
attribute [local go_sem] World.cell?_alloc_mark ext_size ext_cell ext_frozen lt_add_r lt_add_r2 lt_add_r3 lt_add_r4 lt_add_r5 lt_add_r6 lt_add_r7 lt_add_r8
set_option maxRecDepth 100000 in
set_option maxHeartbeats 2000000 in
theorem rFormat_bury (dy : Int) (si : ByteArray) (l : Int) (rm : ByteArray) (c : Int) (w : World) (hd0 : 0 ≤ dy) (hd1 : dy ≤ 200000) (hl0 : 0 ≤ l) (hl1 : l ≤ 100) (hc0 : 0 ≤ c) (hc1 : c ≤ 100) (hs : si.size ≤ 1000) (hr : rm.size ≤ 1000) :
    Calls Tryz.prog 11 #[.agg #[.int .i64 dy, .int .i64 0, .string si, .int .i64 l, .string rm, .int .i64 c, .bool false]] w (Ret w (.string (toB (fmtB ⟨dy, 0, si, l, rm, c, false⟩)))) := by
  have HX : Hid (((((((⟨#[98, 117, 114, 121]⟩ ++ toB (numsB [dy])) ++ ⟨#[32]⟩) ++ si) ++ toB (numsB [l])) ++ ⟨#[32]⟩) ++ rm) ++ toB (numsB [c]) = toB (fmtB ⟨dy, 0, si, l, rm, c, false⟩)) := of_bs (by simp [bs_app, fmtB, lineW, midW, kindsB, buryB, Lib.join, numsB, toB, bs])
  have hn := nums_size1 (n := dy) (by omega) (by omega)
  have hn2 := nums_size1 (n := l) (by omega) (by omega)
  have hn3 := nums_size1 (n := c) (by omega) (by omega)
  have k1 : ¬ 9223372036854775807 < 4 + (toB (numsB [dy])).size := by omega
  have k2 : ¬ 9223372036854775807 < 4 + (toB (numsB [dy])).size + 1 := by omega
  have k3 : ¬ 9223372036854775807 < 4 + (toB (numsB [dy])).size + 1 + si.size := by omega
  have k4 : ¬ 9223372036854775807 < 4 + (toB (numsB [dy])).size + 1 + si.size + (toB (numsB [l])).size := by omega
  have k5 : ¬ 9223372036854775807 < 4 + (toB (numsB [dy])).size + 1 + si.size + (toB (numsB [l])).size + 1 := by omega
  have k6 : ¬ 9223372036854775807 < 4 + (toB (numsB [dy])).size + 1 + si.size + (toB (numsB [l])).size + 1 + rm.size := by omega
  have k7 : ¬ 9223372036854775807 < 4 + (toB (numsB [dy])).size + 1 + si.size + (toB (numsB [l])).size + 1 + rm.size + (toB (numsB [c])).size := by omega
  go_enter Tryz.func11, Tryz.ntmps11
  go_wp2_with fail
  apply wp_region_inv (V := holdsAt [.val (.string ⟨#[98, 117, 114, 121]⟩), .val (.pointer (some ⟨w.heap.size, 0, none⟩)), .val (.int .i64 dy), .blk 1 #[.int .i64 dy] 3, .val (.string (toB (numsB [dy]))), .val (.string (⟨#[98, 117, 114, 121]⟩ ++ toB (numsB [dy]))), .val (.string (⟨#[98, 117, 114, 121]⟩ ++ toB (numsB [dy]) ++ ⟨#[32]⟩)),
   .val (.pointer (some ⟨w.heap.size, 2, none⟩)), .val (.string si), .val (.string (⟨#[98, 117, 114, 121]⟩ ++ toB (numsB [dy]) ++ ⟨#[32]⟩ ++ si)), .val (.pointer (some ⟨w.heap.size, 3, none⟩)), .val (.int .i64 l), .blk 1 #[.int .i64 l] 3, .val (.string (toB (numsB [l]))), .val (.string (⟨#[98, 117, 114, 121]⟩ ++ toB (numsB [dy]) ++ ⟨#[32]⟩ ++ si ++ toB (numsB [l]))),
   .val (.string (⟨#[98, 117, 114, 121]⟩ ++ toB (numsB [dy]) ++ ⟨#[32]⟩ ++ si ++ toB (numsB [l]) ++ ⟨#[32]⟩)), .val (.pointer (some ⟨w.heap.size, 4, none⟩)), .val (.string rm), .val (.string (⟨#[98, 117, 114, 121]⟩ ++ toB (numsB [dy]) ++ ⟨#[32]⟩ ++ si ++ toB (numsB [l]) ++ ⟨#[32]⟩ ++ rm)),
   .val (.pointer (some ⟨w.heap.size, 5, none⟩)), .val (.int .i64 c), .blk 1 #[.int .i64 c] 3, .val (.string (toB (numsB [c]))), .val (.string (⟨#[98, 117, 114, 121]⟩ ++ toB (numsB [dy]) ++ ⟨#[32]⟩ ++ si ++ toB (numsB [l]) ++ ⟨#[32]⟩ ++ rm ++ toB (numsB [c]))), .val (.string (⟨#[98, 117, 114, 121]⟩ ++ toB (numsB [dy]) ++ ⟨#[32]⟩ ++ si ++ toB (numsB [l]) ++ ⟨#[32]⟩ ++ rm ++ toB (numsB [c])))])
  case hm => kernel_rfl
  case hd => kernel_rfl
  case hf => kernel_rfl
  case hsel => kernel_rfl
  case hmono => exact holds_mono _
  case hA =>
    intro f
    simp [fillTo, Act.put]
    rfl
  case hstep =>
    simp only [stepsFrom, and_true]
    refine ⟨?_, ?_, ?_, ?_, ?_, ?_, ?_, ?_, ?_, ?_, ?_, ?_, ?_, ?_, ?_, ?_, ?_, ?_, ?_, ?_, ?_, ?_, ?_, ?_, ?_⟩
    · intro f z h
      try simp [Region.binds, holdsAt, SP.holds] at h
      unfold getsV
      go_simp
      exact ⟨rfl, stays _⟩
    · intro f z h
      try simp [Region.binds, holdsAt, SP.holds] at h
      unfold getsV
      go_simp
      exact ⟨rfl, stays _⟩
    · intro f z h
      try simp [Region.binds, holdsAt, SP.holds] at h
      unfold getsV
      go_simp
      exact ⟨rfl, stays _⟩
    · intro f z h
      simp [Region.binds, holdsAt, SP.holds] at h
      unfold getsV
      go_simp
      exact ⟨⟨_, rfl, (by (repeat (first | with_reducible exact G_new _ _ _ (by simp) | with_reducible exact G_new _ _ _ (by simp [ext_size]) | with_reducible refine G_drew ?_ | with_reducible refine G_ext ?_ | with_reducible refine G_alloc ?_)))⟩, ext_below (by repeat (first | exact B_refl | exact Below.refl _ _ | assumption | with_reducible refine B_alloc ?_ _ | with_reducible refine B_ext ?_ _ | with_reducible refine B_drew ?_ | with_reducible refine B_drewN ?_ _ | with_reducible refine B_set ?_ (by simp; omega) _))⟩
    · intro f z h
      simp [Region.binds, holdsAt, SP.holds] at h
      first
        | obtain ⟨g, hf, hg⟩ := h
        | obtain ⟨⟨g, hf, hg⟩, -⟩ := h
      unfold getsV
      go_simp
      refine (numbers1 dy g _ 3 (0, 0) hg (by omega) (by omega)).mono ?_
      rintro e wq ⟨rfl, z1, rfl⟩
      exact ⟨_, rfl, rfl, _, rfl⟩
    · intro f z h
      try simp [Region.binds, holdsAt, SP.holds] at h
      unfold getsV
      go_simp
      exact ⟨rfl, stays _⟩
    · intro f z h
      try simp [Region.binds, holdsAt, SP.holds] at h
      unfold getsV
      go_simp
      exact ⟨rfl, stays _⟩
    · intro f z h
      try simp [Region.binds, holdsAt, SP.holds] at h
      unfold getsV
      go_simp
      exact ⟨rfl, stays _⟩
    · intro f z h
      try simp [Region.binds, holdsAt, SP.holds] at h
      unfold getsV
      go_simp
      exact ⟨rfl, stays _⟩
    · intro f z h
      try simp [Region.binds, holdsAt, SP.holds] at h
      unfold getsV
      go_simp
      exact ⟨rfl, stays _⟩
    · intro f z h
      try simp [Region.binds, holdsAt, SP.holds] at h
      unfold getsV
      go_simp
      exact ⟨rfl, stays _⟩
    · intro f z h
      try simp [Region.binds, holdsAt, SP.holds] at h
      unfold getsV
      go_simp
      exact ⟨rfl, stays _⟩
    · intro f z h
      simp [Region.binds, holdsAt, SP.holds] at h
      unfold getsV
      go_simp
      exact ⟨⟨_, rfl, (by (repeat (first | with_reducible exact G_new _ _ _ (by simp) | with_reducible exact G_new _ _ _ (by simp [ext_size]) | with_reducible refine G_drew ?_ | with_reducible refine G_ext ?_ | with_reducible refine G_alloc ?_)))⟩, ext_below (by repeat (first | exact B_refl | exact Below.refl _ _ | assumption | with_reducible refine B_alloc ?_ _ | with_reducible refine B_ext ?_ _ | with_reducible refine B_drew ?_ | with_reducible refine B_drewN ?_ _ | with_reducible refine B_set ?_ (by simp; omega) _))⟩
    · intro f z h
      simp [Region.binds, holdsAt, SP.holds] at h
      first
        | obtain ⟨g, hf, hg⟩ := h
        | obtain ⟨⟨g, hf, hg⟩, -⟩ := h
      unfold getsV
      go_simp
      refine (numbers1 l g _ 3 (0, 0) hg (by omega) (by omega)).mono ?_
      rintro e wq ⟨rfl, z1, rfl⟩
      exact ⟨_, rfl, rfl, _, rfl⟩
    · intro f z h
      try simp [Region.binds, holdsAt, SP.holds] at h
      unfold getsV
      go_simp
      exact ⟨rfl, stays _⟩
    · intro f z h
      try simp [Region.binds, holdsAt, SP.holds] at h
      unfold getsV
      go_simp
      exact ⟨rfl, stays _⟩
    · intro f z h
      try simp [Region.binds, holdsAt, SP.holds] at h
      unfold getsV
      go_simp
      exact ⟨rfl, stays _⟩
    · intro f z h
      try simp [Region.binds, holdsAt, SP.holds] at h
      unfold getsV
      go_simp
      exact ⟨rfl, stays _⟩
    · intro f z h
      try simp [Region.binds, holdsAt, SP.holds] at h
      unfold getsV
      go_simp
      exact ⟨rfl, stays _⟩
    · intro f z h
      try simp [Region.binds, holdsAt, SP.holds] at h
      unfold getsV
      go_simp
      exact ⟨rfl, stays _⟩
    · intro f z h
      try simp [Region.binds, holdsAt, SP.holds] at h
      unfold getsV
      go_simp
      exact ⟨rfl, stays _⟩
    · intro f z h
      simp [Region.binds, holdsAt, SP.holds] at h
      unfold getsV
      go_simp
      exact ⟨⟨_, rfl, (by (repeat (first | with_reducible exact G_new _ _ _ (by simp) | with_reducible exact G_new _ _ _ (by simp [ext_size]) | with_reducible refine G_drew ?_ | with_reducible refine G_ext ?_ | with_reducible refine G_alloc ?_)))⟩, ext_below (by repeat (first | exact B_refl | exact Below.refl _ _ | assumption | with_reducible refine B_alloc ?_ _ | with_reducible refine B_ext ?_ _ | with_reducible refine B_drew ?_ | with_reducible refine B_drewN ?_ _ | with_reducible refine B_set ?_ (by simp; omega) _))⟩
    · intro f z h
      simp [Region.binds, holdsAt, SP.holds] at h
      first
        | obtain ⟨g, hf, hg⟩ := h
        | obtain ⟨⟨g, hf, hg⟩, -⟩ := h
      unfold getsV
      go_simp
      refine (numbers1 c g _ 3 (0, 0) hg (by omega) (by omega)).mono ?_
      rintro e wq ⟨rfl, z1, rfl⟩
      exact ⟨_, rfl, rfl, _, rfl⟩
    · intro f z h
      try simp [Region.binds, holdsAt, SP.holds] at h
      unfold getsV
      go_simp
      exact ⟨rfl, stays _⟩
    · intro f z h
      try simp [Region.binds, holdsAt, SP.holds] at h
      unfold getsV
      go_simp
      exact ⟨rfl, stays _⟩
  case hend =>
    intro f z h
    have h24 : f 24 = .string _ := h 24 (by decide)
    rw [h24]
    clear h h24
    go_wp2_with fail
    go_ret
    exact Ret.of (congrArg Value.string HX.out) (by repeat (first | exact B_refl | exact Below.refl _ _ | assumption | with_reducible refine B_alloc ?_ _ | with_reducible refine B_ext ?_ _ | with_reducible refine B_drew ?_ | with_reducible refine B_drewN ?_ _ | with_reducible refine B_set ?_ (by simp; omega) _))
set_option maxRecDepth 100000 in
set_option maxHeartbeats 2000000 in
theorem rFormat_rebury (dy : Int) (si : ByteArray) (l : Int) (rm : ByteArray) (c : Int) (w : World) (hd0 : 0 ≤ dy) (hd1 : dy ≤ 200000) (hl0 : 0 ≤ l) (hl1 : l ≤ 100) (hc0 : 0 ≤ c) (hc1 : c ≤ 100) (hs : si.size ≤ 1000) (hr : rm.size ≤ 1000) :
    Calls Tryz.prog 11 #[.agg #[.int .i64 dy, .int .i64 2, .string si, .int .i64 l, .string rm, .int .i64 c, .bool false]] w (Ret w (.string (toB (fmtB ⟨dy, 2, si, l, rm, c, false⟩)))) := by
  have HX : Hid (((((((⟨#[114, 101, 98, 117, 114, 121]⟩ ++ toB (numsB [dy])) ++ ⟨#[32]⟩) ++ si) ++ toB (numsB [l])) ++ ⟨#[32]⟩) ++ rm) ++ toB (numsB [c]) = toB (fmtB ⟨dy, 2, si, l, rm, c, false⟩)) := of_bs (by simp [bs_app, fmtB, lineW, midW, kindsB, reburyB, Lib.join, numsB, toB, bs])
  have hn := nums_size1 (n := dy) (by omega) (by omega)
  have hn2 := nums_size1 (n := l) (by omega) (by omega)
  have hn3 := nums_size1 (n := c) (by omega) (by omega)
  have k1 : ¬ 9223372036854775807 < 6 + (toB (numsB [dy])).size := by omega
  have k2 : ¬ 9223372036854775807 < 6 + (toB (numsB [dy])).size + 1 := by omega
  have k3 : ¬ 9223372036854775807 < 6 + (toB (numsB [dy])).size + 1 + si.size := by omega
  have k4 : ¬ 9223372036854775807 < 6 + (toB (numsB [dy])).size + 1 + si.size + (toB (numsB [l])).size := by omega
  have k5 : ¬ 9223372036854775807 < 6 + (toB (numsB [dy])).size + 1 + si.size + (toB (numsB [l])).size + 1 := by omega
  have k6 : ¬ 9223372036854775807 < 6 + (toB (numsB [dy])).size + 1 + si.size + (toB (numsB [l])).size + 1 + rm.size := by omega
  have k7 : ¬ 9223372036854775807 < 6 + (toB (numsB [dy])).size + 1 + si.size + (toB (numsB [l])).size + 1 + rm.size + (toB (numsB [c])).size := by omega
  go_enter Tryz.func11, Tryz.ntmps11
  go_wp2_with fail
  apply wp_region_inv (V := holdsAt [.val (.string ⟨#[114, 101, 98, 117, 114, 121]⟩), .val (.pointer (some ⟨w.heap.size, 0, none⟩)), .val (.int .i64 dy), .blk 1 #[.int .i64 dy] 3, .val (.string (toB (numsB [dy]))), .val (.string (⟨#[114, 101, 98, 117, 114, 121]⟩ ++ toB (numsB [dy]))), .val (.string (⟨#[114, 101, 98, 117, 114, 121]⟩ ++ toB (numsB [dy]) ++ ⟨#[32]⟩)),
   .val (.pointer (some ⟨w.heap.size, 2, none⟩)), .val (.string si), .val (.string (⟨#[114, 101, 98, 117, 114, 121]⟩ ++ toB (numsB [dy]) ++ ⟨#[32]⟩ ++ si)), .val (.pointer (some ⟨w.heap.size, 3, none⟩)), .val (.int .i64 l), .blk 1 #[.int .i64 l] 3, .val (.string (toB (numsB [l]))), .val (.string (⟨#[114, 101, 98, 117, 114, 121]⟩ ++ toB (numsB [dy]) ++ ⟨#[32]⟩ ++ si ++ toB (numsB [l]))),
   .val (.string (⟨#[114, 101, 98, 117, 114, 121]⟩ ++ toB (numsB [dy]) ++ ⟨#[32]⟩ ++ si ++ toB (numsB [l]) ++ ⟨#[32]⟩)), .val (.pointer (some ⟨w.heap.size, 4, none⟩)), .val (.string rm), .val (.string (⟨#[114, 101, 98, 117, 114, 121]⟩ ++ toB (numsB [dy]) ++ ⟨#[32]⟩ ++ si ++ toB (numsB [l]) ++ ⟨#[32]⟩ ++ rm)),
   .val (.pointer (some ⟨w.heap.size, 5, none⟩)), .val (.int .i64 c), .blk 1 #[.int .i64 c] 3, .val (.string (toB (numsB [c]))), .val (.string (⟨#[114, 101, 98, 117, 114, 121]⟩ ++ toB (numsB [dy]) ++ ⟨#[32]⟩ ++ si ++ toB (numsB [l]) ++ ⟨#[32]⟩ ++ rm ++ toB (numsB [c]))), .val (.string (⟨#[114, 101, 98, 117, 114, 121]⟩ ++ toB (numsB [dy]) ++ ⟨#[32]⟩ ++ si ++ toB (numsB [l]) ++ ⟨#[32]⟩ ++ rm ++ toB (numsB [c])))])
  case hm => kernel_rfl
  case hd => kernel_rfl
  case hf => kernel_rfl
  case hsel => kernel_rfl
  case hmono => exact holds_mono _
  case hA =>
    intro f
    simp [fillTo, Act.put]
    rfl
  case hstep =>
    simp only [stepsFrom, and_true]
    refine ⟨?_, ?_, ?_, ?_, ?_, ?_, ?_, ?_, ?_, ?_, ?_, ?_, ?_, ?_, ?_, ?_, ?_, ?_, ?_, ?_, ?_, ?_, ?_, ?_, ?_⟩
    · intro f z h
      try simp [Region.binds, holdsAt, SP.holds] at h
      unfold getsV
      go_simp
      exact ⟨rfl, stays _⟩
    · intro f z h
      try simp [Region.binds, holdsAt, SP.holds] at h
      unfold getsV
      go_simp
      exact ⟨rfl, stays _⟩
    · intro f z h
      try simp [Region.binds, holdsAt, SP.holds] at h
      unfold getsV
      go_simp
      exact ⟨rfl, stays _⟩
    · intro f z h
      simp [Region.binds, holdsAt, SP.holds] at h
      unfold getsV
      go_simp
      exact ⟨⟨_, rfl, (by (repeat (first | with_reducible exact G_new _ _ _ (by simp) | with_reducible exact G_new _ _ _ (by simp [ext_size]) | with_reducible refine G_drew ?_ | with_reducible refine G_ext ?_ | with_reducible refine G_alloc ?_)))⟩, ext_below (by repeat (first | exact B_refl | exact Below.refl _ _ | assumption | with_reducible refine B_alloc ?_ _ | with_reducible refine B_ext ?_ _ | with_reducible refine B_drew ?_ | with_reducible refine B_drewN ?_ _ | with_reducible refine B_set ?_ (by simp; omega) _))⟩
    · intro f z h
      simp [Region.binds, holdsAt, SP.holds] at h
      first
        | obtain ⟨g, hf, hg⟩ := h
        | obtain ⟨⟨g, hf, hg⟩, -⟩ := h
      unfold getsV
      go_simp
      refine (numbers1 dy g _ 3 (0, 0) hg (by omega) (by omega)).mono ?_
      rintro e wq ⟨rfl, z1, rfl⟩
      exact ⟨_, rfl, rfl, _, rfl⟩
    · intro f z h
      try simp [Region.binds, holdsAt, SP.holds] at h
      unfold getsV
      go_simp
      exact ⟨rfl, stays _⟩
    · intro f z h
      try simp [Region.binds, holdsAt, SP.holds] at h
      unfold getsV
      go_simp
      exact ⟨rfl, stays _⟩
    · intro f z h
      try simp [Region.binds, holdsAt, SP.holds] at h
      unfold getsV
      go_simp
      exact ⟨rfl, stays _⟩
    · intro f z h
      try simp [Region.binds, holdsAt, SP.holds] at h
      unfold getsV
      go_simp
      exact ⟨rfl, stays _⟩
    · intro f z h
      try simp [Region.binds, holdsAt, SP.holds] at h
      unfold getsV
      go_simp
      exact ⟨rfl, stays _⟩
    · intro f z h
      try simp [Region.binds, holdsAt, SP.holds] at h
      unfold getsV
      go_simp
      exact ⟨rfl, stays _⟩
    · intro f z h
      try simp [Region.binds, holdsAt, SP.holds] at h
      unfold getsV
      go_simp
      exact ⟨rfl, stays _⟩
    · intro f z h
      simp [Region.binds, holdsAt, SP.holds] at h
      unfold getsV
      go_simp
      exact ⟨⟨_, rfl, (by (repeat (first | with_reducible exact G_new _ _ _ (by simp) | with_reducible exact G_new _ _ _ (by simp [ext_size]) | with_reducible refine G_drew ?_ | with_reducible refine G_ext ?_ | with_reducible refine G_alloc ?_)))⟩, ext_below (by repeat (first | exact B_refl | exact Below.refl _ _ | assumption | with_reducible refine B_alloc ?_ _ | with_reducible refine B_ext ?_ _ | with_reducible refine B_drew ?_ | with_reducible refine B_drewN ?_ _ | with_reducible refine B_set ?_ (by simp; omega) _))⟩
    · intro f z h
      simp [Region.binds, holdsAt, SP.holds] at h
      first
        | obtain ⟨g, hf, hg⟩ := h
        | obtain ⟨⟨g, hf, hg⟩, -⟩ := h
      unfold getsV
      go_simp
      refine (numbers1 l g _ 3 (0, 0) hg (by omega) (by omega)).mono ?_
      rintro e wq ⟨rfl, z1, rfl⟩
      exact ⟨_, rfl, rfl, _, rfl⟩
    · intro f z h
      try simp [Region.binds, holdsAt, SP.holds] at h
      unfold getsV
      go_simp
      exact ⟨rfl, stays _⟩
    · intro f z h
      try simp [Region.binds, holdsAt, SP.holds] at h
      unfold getsV
      go_simp
      exact ⟨rfl, stays _⟩
    · intro f z h
      try simp [Region.binds, holdsAt, SP.holds] at h
      unfold getsV
      go_simp
      exact ⟨rfl, stays _⟩
    · intro f z h
      try simp [Region.binds, holdsAt, SP.holds] at h
      unfold getsV
      go_simp
      exact ⟨rfl, stays _⟩
    · intro f z h
      try simp [Region.binds, holdsAt, SP.holds] at h
      unfold getsV
      go_simp
      exact ⟨rfl, stays _⟩
    · intro f z h
      try simp [Region.binds, holdsAt, SP.holds] at h
      unfold getsV
      go_simp
      exact ⟨rfl, stays _⟩
    · intro f z h
      try simp [Region.binds, holdsAt, SP.holds] at h
      unfold getsV
      go_simp
      exact ⟨rfl, stays _⟩
    · intro f z h
      simp [Region.binds, holdsAt, SP.holds] at h
      unfold getsV
      go_simp
      exact ⟨⟨_, rfl, (by (repeat (first | with_reducible exact G_new _ _ _ (by simp) | with_reducible exact G_new _ _ _ (by simp [ext_size]) | with_reducible refine G_drew ?_ | with_reducible refine G_ext ?_ | with_reducible refine G_alloc ?_)))⟩, ext_below (by repeat (first | exact B_refl | exact Below.refl _ _ | assumption | with_reducible refine B_alloc ?_ _ | with_reducible refine B_ext ?_ _ | with_reducible refine B_drew ?_ | with_reducible refine B_drewN ?_ _ | with_reducible refine B_set ?_ (by simp; omega) _))⟩
    · intro f z h
      simp [Region.binds, holdsAt, SP.holds] at h
      first
        | obtain ⟨g, hf, hg⟩ := h
        | obtain ⟨⟨g, hf, hg⟩, -⟩ := h
      unfold getsV
      go_simp
      refine (numbers1 c g _ 3 (0, 0) hg (by omega) (by omega)).mono ?_
      rintro e wq ⟨rfl, z1, rfl⟩
      exact ⟨_, rfl, rfl, _, rfl⟩
    · intro f z h
      try simp [Region.binds, holdsAt, SP.holds] at h
      unfold getsV
      go_simp
      exact ⟨rfl, stays _⟩
    · intro f z h
      try simp [Region.binds, holdsAt, SP.holds] at h
      unfold getsV
      go_simp
      exact ⟨rfl, stays _⟩
  case hend =>
    intro f z h
    have h24 : f 24 = .string _ := h 24 (by decide)
    rw [h24]
    clear h h24
    go_wp2_with fail
    go_ret
    exact Ret.of (congrArg Value.string HX.out) (by repeat (first | exact B_refl | exact Below.refl _ _ | assumption | with_reducible refine B_alloc ?_ _ | with_reducible refine B_ext ?_ _ | with_reducible refine B_drew ?_ | with_reducible refine B_drewN ?_ _ | with_reducible refine B_set ?_ (by simp; omega) _))
end Go.Proofs.YtpohkolapgofdaaGreatDoor
namespace Go.Proofs.YtpohkolapgofdaaGreatDoor
open Go.RowKit
theorem rFormat_any (dy k : Int) (si : ByteArray) (l : Int) (rm : ByteArray) (c : Int) (o : Bool) (w : World) (h : OkE ⟨dy, k, si, l, rm, c, o⟩) (hs : si.size ≤ 1000) (hr : rm.size ≤ 1000) :
    Calls Tryz.prog 11 #[.agg #[.int .i64 dy, .int .i64 k, .string si, .int .i64 l, .string rm, .int .i64 c, .bool o]] w (Ret w (.string (toB (fmtB ⟨dy, k, si, l, rm, c, o⟩)))) := by
  obtain ⟨hd, hk, hrm, hsi, hlv, hco, hn, hf, ho⟩ := h
  dsimp only at hd hk hrm hsi hlv hco hn hf ho
  have hkk : k = 0 ∨ k = 1 ∨ k = 2 ∨ k = 3 ∨ k = 4 := by omega
  rcases hkk with rfl | rfl | rfl | rfl | rfl
  · cases o
    · have h1 := hlv (by simp)
      have h2 := hco (by simp)
      exact rFormat_bury dy si l rm c w hd.1 hd.2 h1.1 (by omega) h2.1 (by omega) hs hr
    · exact absurd (ho rfl) (by simp)
  · obtain ⟨rfl, rfl⟩ := hn (by simp)
    obtain rfl := hf (by simp)
    exact rFormat_exhume dy _ _ rm _ o w hd.1 hd.2 hr
  · cases o
    · have h1 := hlv (by simp)
      have h2 := hco (by simp)
      exact rFormat_rebury dy si l rm c w hd.1 hd.2 h1.1 (by omega) h2.1 (by omega) hs hr
    · exact absurd (ho rfl) (by simp)
  · obtain ⟨rfl, rfl⟩ := hn (by simp)
    have h1 := hlv (by simp)
    exact rFormat_lower dy _ l rm _ o w hd.1 hd.2 h1.1 (by omega) hr
  · obtain ⟨rfl, rfl⟩ := hn (by simp)
    obtain rfl := hf (by simp)
    cases o
    · exact rFormat_gather dy _ _ rm _ w hd.1 hd.2 hr
    · exact absurd (ho rfl) (by simp)
end Go.Proofs.YtpohkolapgofdaaGreatDoor
