/- Walk of the program: the text of a lowering. -/
/- Walk of the program: the text of a lowering by order. -/
/- Walk of the program: the text of a burial. -/
/- Walk of the program: the text of an event, right or not. -/
import Derived.Test.YtpohkolapgofdaaGreatDoorTP
import Derived.Test.YtpohkolapgofdaaGreatDoorR7
namespace Go.Proofs.YtpohkolapgofdaaGreatDoor
open Go.RowKit
attribute [local go_sem] World.cell?_alloc_mark ext_size ext_cell ext_frozen lt_add_r lt_add_r2 lt_add_r3 lt_add_r4 lt_add_r5 lt_add_r6 lt_add_r7 lt_add_r8
set_option maxRecDepth 100000 in
set_option maxHeartbeats 2000000 in
theorem pFormat_lower (dy : Int) (si : ByteArray) (l : Int) (rm : ByteArray) (c : Int) (w : World) (hL : Laid w) (h : checkEventP ⟨dy, 3, si, l, rm, c, false⟩ = 0) (hs : si.size ≤ 1000) (hr : rm.size ≤ 1000) :
    Calls Tryz.prog 8 #[.agg #[.int .i64 dy, .int .i64 3, .string si, .int .i64 l, .string rm, .int .i64 c, .bool false]] w (Ret w (.tuple #[.string (toB (fmtB ⟨dy, 3, si, l, rm, c, false⟩)), .int .i64 0])) := by
  have hok := (ok_of h).day
  have hlv := (ok_of h).level (.inr (.inr rfl))
  dsimp only at hok hlv
  go_enter Tryz.func8, Tryz.ntmps8
  go_wp2_with (go_at_call 10; refine (checkEvent_any dy 3 si l rm c false _ (by omega) (by omega)).mono ?_; rintro e wq ⟨rfl, z1, rfl⟩; rw [h])
  apply wp_region_inv (V := holdsL [isBlk (w.heap.size + 1) 5 (kindsS.map Value.string).toArray 9, isV (.pointer (some ⟨w.heap.size, 1, none⟩)), isV (.int .i64 3), isPtr (.string (toB lowerB)), isV (.string (toB lowerB)), isV (.pointer (some ⟨w.heap.size, 0, none⟩)), isV (.int .i64 dy), isV (.string (toB (Lib.itoa dy))), isBlk (w.heap.size + 1) 2 #[.string (toB lowerB), .string (toB (Lib.itoa dy))] 9, isBlk (w.heap.size + 1) 2 #[.string (toB lowerB), .string (toB (Lib.itoa dy))] 9])
  case hm => kernel_rfl
  case hd => kernel_rfl
  case hf => kernel_rfl
  case hsel => kernel_rfl
  case hmono => exact holdsL_mono (by simp [mono_V, mono_blk, mono_ptr])
  case hA =>
    intro f
    simp [fillTo, Act.put]
    rfl
  case hstep =>
    simp only [stepsFrom, and_true]
    refine ⟨?_, ?_, ?_, ?_, ?_, ?_, ?_, ?_, ?_, ?_⟩
    · intro f z h
      unfold getsV
      go_simp
      refine (words_any _).mono ?_
      rintro e wq ⟨q, rfl, hqb, hq, z2, rfl⟩
      exact ⟨_, rfl, ⟨q, rfl, by simp [ext_size] at hqb; omega, hq⟩, _, rfl⟩
    · intro f z h
      first
        | (clear h; unfold getsV; go_simp; exact ⟨rfl, stays _⟩)
        | (simp [Region.binds, holdsL, isV] at h; unfold getsV; go_simp; exact ⟨rfl, stays _⟩)
    · intro f z h
      first
        | (clear h; unfold getsV; go_simp; exact ⟨rfl, stays _⟩)
        | (simp [Region.binds, holdsL, isV] at h; unfold getsV; go_simp; exact ⟨rfl, stays _⟩)
    · intro f z h
      obtain ⟨g, hf, -, hg⟩ := h ⟨0, .data⟩ (by simp) rfl
      have h2 : f 2 = .int .i64 3 := h ⟨2, .data⟩ (by simp) rfl
      clear h
      unfold getsV
      go_simp
      exact ⟨⟨g, 3, rfl, blk_lt hg, by simp [World.cell?, hg, kindsS, kindsB]⟩, stays _⟩
    · intro f z h
      obtain ⟨b, o, hf, hb, hc⟩ := h ⟨3, .data⟩ (by simp) rfl
      clear h
      unfold getsV
      go_simp
      exact ⟨rfl, stays _⟩
    · intro f z h
      first
        | (clear h; unfold getsV; go_simp; exact ⟨rfl, stays _⟩)
        | (simp [Region.binds, holdsL, isV] at h; unfold getsV; go_simp; exact ⟨rfl, stays _⟩)
    · intro f z h
      first
        | (clear h; unfold getsV; go_simp; exact ⟨rfl, stays _⟩)
        | (simp [Region.binds, holdsL, isV] at h; unfold getsV; go_simp; exact ⟨rfl, stays _⟩)
    · intro f z h
      have h2 : f 6 = .int .i64 dy := h ⟨6, .data⟩ (by simp) rfl
      clear h
      unfold getsV
      go_simp
      refine (pdecimal_any dy _ (hL.keep (n := w.heap.size) (by repeat (first | exact B_refl | exact Below.refl _ _ | assumption | with_reducible refine B_alloc ?_ _ | with_reducible refine B_ext ?_ _ | with_reducible refine B_drew ?_ | with_reducible refine B_drewN ?_ _ | with_reducible refine B_set ?_ (by simp; omega) _))) (by omega) (by omega)).mono ?_
      rintro e wq ⟨rfl, z2, rfl⟩
      exact ⟨_, rfl, rfl, _, rfl⟩
    · intro f z h
      have h4 : f 4 = .string (toB lowerB) := h ⟨4, .data⟩ (by simp) rfl
      have h7 : f 7 = .string (toB (Lib.itoa dy)) := h ⟨7, .data⟩ (by simp) rfl
      clear h
      unfold getsV
      go_simp
      refine ⟨⟨_, rfl, ?_, ?_⟩, ext_below ?_⟩
      · first | omega | (simp [ext_size]; omega)
      · (repeat (first | with_reducible exact G_new _ _ _ (by simp) | with_reducible exact G_new _ _ _ (by simp [ext_size]) | with_reducible refine G_drew ?_ | with_reducible refine G_ext ?_ | with_reducible refine G_alloc ?_))
      · repeat (first | exact B_refl | exact Below.refl _ _ | assumption | with_reducible refine B_alloc ?_ _ | with_reducible refine B_ext ?_ _ | with_reducible refine B_drew ?_ | with_reducible refine B_drewN ?_ _ | with_reducible refine B_set ?_ (by simp; omega) _)
    · intro f z h
      obtain ⟨g, hf, hb, hg⟩ := h ⟨8, .data⟩ (by simp) rfl
      clear h
      unfold getsV
      go_simp
      exact ⟨⟨g, rfl, hb, hg⟩, stays _⟩
  case hend =>
    intro f z h
    obtain ⟨g, hf, hb, hg⟩ := h 9 (by decide)
    rw [hf]
    clear h hf
    generalize hW0 : World.ext (World.drew (World.ext (w.alloc _) z1)) z = W0 at *
    have hbox : W0.heap[w.heap.size]? = some (.cells #[.int .i64 dy, .int .i64 3, .string si, .int .i64 l, .string rm, .int .i64 c, .bool false] 23) := by rw [← hW0]; (repeat (first | with_reducible exact G_new _ _ _ (by simp) | with_reducible exact G_new _ _ _ (by simp [ext_size]) | with_reducible refine G_drew ?_ | with_reducible refine G_ext ?_ | with_reducible refine G_alloc ?_))
    have hB0 : Below w.heap.size w W0 := by rw [← hW0]; repeat (first | exact B_refl | exact Below.refl _ _ | assumption | with_reducible refine B_alloc ?_ _ | with_reducible refine B_ext ?_ _ | with_reducible refine B_drew ?_ | with_reducible refine B_drewN ?_ _ | with_reducible refine B_set ?_ (by simp; omega) _)
    have hL0 : Laid W0 := hL.keep hB0
    have hz := blk_lt hbox
    clear hW0 hL
    have g1 : W0.cell? ⟨w.heap.size, 1, none⟩ = some (.int .i64 3) := by simp [World.cell?, hbox]
    have g3 : W0.cell? ⟨w.heap.size, 3, none⟩ = some (.int .i64 l) := by simp [World.cell?, hbox]
    have g4 : W0.cell? ⟨w.heap.size, 4, none⟩ = some (.string rm) := by simp [World.cell?, hbox]
    have g6 : W0.cell? ⟨w.heap.size, 6, none⟩ = some (.bool false) := by simp [World.cell?, hbox]
    have k3 : ∀ z, (W0.drew.ext z).cell? ⟨w.heap.size, 3, none⟩ = some (.int .i64 l) := fun z => ((below_ext W0.drew z).cell (p := ⟨w.heap.size, 3, none⟩) hz).trans g3
    have k4 : ∀ z, (W0.drew.ext z).cell? ⟨w.heap.size, 4, none⟩ = some (.string rm) := fun z => ((below_ext W0.drew z).cell (p := ⟨w.heap.size, 4, none⟩) hz).trans g4
    have k6 : ∀ z, (W0.drew.ext z).cell? ⟨w.heap.size, 6, none⟩ = some (.bool false) := fun z => ((below_ext W0.drew z).cell (p := ⟨w.heap.size, 6, none⟩) hz).trans g6
    have hjl : (Lib.join ([toB lowerB, toB (Lib.itoa dy), toB (Lib.itoa l), rm].map (·.data.toList)) [32]).length ≤ 2000 := by
      have h1 := itoa_small (n := dy) (by omega) (by omega)
      have h3 := itoa_small (n := l) (by omega) (by omega)
      have h2 : rm.data.toList.length = rm.size := bs_len rm
      simp [Lib.join, toB, lowerB]
      omega
    go_wp2_with fail
    apply wp_region_inv6 (m := 8) (V := holdsL [isV (.slice (some ⟨g, 0, none⟩) 2 2), isV (.pointer (some ⟨w.heap.size, 3, none⟩)), isV (.int .i64 l), isV (.string (toB (Lib.itoa l))), isV (.pointer (some ⟨w.heap.size, 4, none⟩)), isV (.string rm), isBlk (w.heap.size + 1) 2 #[.string (toB (Lib.itoa l)), .string rm] 9,
      isOwn (w.heap.size + 1) 4 ([toB lowerB, toB (Lib.itoa dy), toB (Lib.itoa l), rm].flatMap strCells), isOwn (w.heap.size + 1) 4 ([toB lowerB, toB (Lib.itoa dy), toB (Lib.itoa l), rm].flatMap strCells)])
    case hm => kernel_rfl
    case hd => kernel_rfl
    case hf => kernel_rfl
    case hsel => kernel_rfl
    case hmono => exact holdsL_mono (by simp [mono_V, mono_blk, mono_own])
    case hm0 => decide
    case hA =>
      intro f
      simp [fillTo, Act.put]
      rfl
    case hB =>
      intro f
      simp [fillTo, Act.put]
      rfl
    case hstep =>
      simp only [stepsFrom, and_true]
      refine ⟨?_, ?_, ?_, ?_, ?_, ?_, ?_, ?_, ?_⟩
      · intro f z h
        first
          | (clear h; unfold getsV; go_simp; exact ⟨rfl, stays _⟩)
          | (simp [Region.binds, holdsL, isV] at h; unfold getsV; go_simp; exact ⟨rfl, stays _⟩)
      · intro f z h
        first
          | (clear h; unfold getsV; go_simp; exact ⟨rfl, stays _⟩)
          | (simp [Region.binds, holdsL, isV] at h; unfold getsV; go_simp; exact ⟨rfl, stays _⟩)
      · intro f z h
        first
          | (clear h; unfold getsV; go_simp; exact ⟨rfl, stays _⟩)
          | (simp [Region.binds, holdsL, isV] at h; unfold getsV; go_simp; exact ⟨rfl, stays _⟩)
      · intro f z h
        have h2 : f 2 = .int .i64 l := h ⟨2, .data⟩ (by simp) rfl
        clear h
        unfold getsV
        go_simp
        refine (pdecimal_any l _ (hL0.keep (n := W0.heap.size) (by repeat (first | exact B_refl | exact Below.refl _ _ | assumption | with_reducible refine B_alloc ?_ _ | with_reducible refine B_ext ?_ _ | with_reducible refine B_drew ?_ | with_reducible refine B_drewN ?_ _ | with_reducible refine B_set ?_ (by simp; omega) _))) (by omega) (by omega)).mono ?_
        rintro e wq ⟨rfl, z2, rfl⟩
        exact ⟨_, rfl, rfl, _, rfl⟩
      · intro f z h
        first
          | (clear h; unfold getsV; go_simp; exact ⟨rfl, stays _⟩)
          | (simp [Region.binds, holdsL, isV] at h; unfold getsV; go_simp; exact ⟨rfl, stays _⟩)
      · intro f z h
        first
          | (clear h; unfold getsV; go_simp; exact ⟨rfl, stays _⟩)
          | (simp [Region.binds, holdsL, isV] at h; unfold getsV; go_simp; exact ⟨rfl, stays _⟩)
      · intro f z h
        have h3 : f 3 = .string (toB (Lib.itoa l)) := h ⟨3, .data⟩ (by simp) rfl
        have h5 : f 5 = .string rm := h ⟨5, .data⟩ (by simp) rfl
        clear h
        unfold getsV
        go_simp
        refine ⟨⟨_, rfl, ?_, ?_⟩, ext_below ?_⟩
        · first | omega | (simp [ext_size]; omega)
        · (repeat (first | with_reducible exact G_new _ _ _ (by simp) | with_reducible exact G_new _ _ _ (by simp [ext_size]) | with_reducible refine G_drew ?_ | with_reducible refine G_ext ?_ | with_reducible refine G_alloc ?_))
        · repeat (first | exact B_refl | exact Below.refl _ _ | assumption | with_reducible refine B_alloc ?_ _ | with_reducible refine B_ext ?_ _ | with_reducible refine B_drew ?_ | with_reducible refine B_drewN ?_ _ | with_reducible refine B_set ?_ (by simp; omega) _)
      · intro f z h
        have h0 : f 0 = .slice (some ⟨g, 0, none⟩) 2 2 := h ⟨0, .data⟩ (by simp) rfl
        obtain ⟨g2, hf, hb2, hg2⟩ := h ⟨6, .data⟩ (by simp) rfl
        clear h
        refine gets_append_full (.tmp 45) (.tmp 51) rfl elStr (base := w.heap.size + 1) (xs := [toB lowerB, toB (Lib.itoa dy)]) (ys := [toB (Lib.itoa l), rm]) (n := 2) (m := 2) h0 (G_ext (G_drew hg)) hb rfl (by decide) hf rfl (sl_block str_len hg2 (by simp [strCells])) (by simp) (by simp) ?_
        intro v' z' hv
        exact ⟨hv, z', rfl⟩
      · intro f z h
        have h7 := h ⟨7, .data⟩ (by simp) rfl
        clear h
        unfold getsV
        go_simp
        exact ⟨h7, stays _⟩
    case hend =>
      intro f z h
      have h8 : World.ownsRow _ (w.heap.size + 1) 9 1 (f 8) [toB lowerB, toB (Lib.itoa dy), toB (Lib.itoa l), rm].length ([toB lowerB, toB (Lib.itoa dy), toB (Lib.itoa l), rm].flatMap strCells) := h 8 (by decide)
      clear h
      obtain ⟨A1, c1, he, hS1, hlc⟩ := own_sl str_len h8
      rw [he]
      clear he h8
      obtain ⟨b1, o1, rfl, hb1, hc1⟩ := hS1 (by simp)
      have HC1 := Lib.hid hc1
      clear hS1 hc1
      go_wp2_with (go_at_call 35; refine (Tryz.strings_Join b1 o1 c1 [toB lowerB, toB (Lib.itoa dy), toB (Lib.itoa l), rm] ⟨#[32]⟩ _ (fun j x hj => by simpa using HC1.out j x hj 0 _ rfl) hb1 (by simp) hlc (by exact Nat.le_trans hjl (by decide))).mono ?_; rintro e wq ⟨rfl, hBj⟩)
      go_ret2
      have hB2 : Below W0.heap.size W0 (W0.drew.ext z) := by repeat (first | exact B_refl | exact Below.refl _ _ | assumption | with_reducible refine B_alloc ?_ _ | with_reducible refine B_ext ?_ _ | with_reducible refine B_drew ?_ | with_reducible refine B_drewN ?_ _ | with_reducible refine B_set ?_ (by simp; omega) _)
      exact Ret.of rfl ((hB0.trans (hB2.mono hB0.size)).trans (hBj.mono (by have := hB0.size; simp [ext_size]; omega)))
end Go.Proofs.YtpohkolapgofdaaGreatDoor
namespace Go.Proofs.YtpohkolapgofdaaGreatDoor
open Go.RowKit
attribute [local go_sem] World.cell?_alloc_mark ext_size ext_cell ext_frozen lt_add_r lt_add_r2 lt_add_r3 lt_add_r4 lt_add_r5 lt_add_r6 lt_add_r7 lt_add_r8
set_option maxRecDepth 100000 in
set_option maxHeartbeats 2000000 in
theorem pFormat_lowerO (dy : Int) (si : ByteArray) (l : Int) (rm : ByteArray) (c : Int) (w : World) (hL : Laid w) (h : checkEventP ⟨dy, 3, si, l, rm, c, true⟩ = 0) (hs : si.size ≤ 1000) (hr : rm.size ≤ 1000) :
    Calls Tryz.prog 8 #[.agg #[.int .i64 dy, .int .i64 3, .string si, .int .i64 l, .string rm, .int .i64 c, .bool true]] w (Ret w (.tuple #[.string (toB (fmtB ⟨dy, 3, si, l, rm, c, true⟩)), .int .i64 0])) := by
  have hok := (ok_of h).day
  have hlv := (ok_of h).level (.inr (.inr rfl))
  dsimp only at hok hlv
  go_enter Tryz.func8, Tryz.ntmps8
  go_wp2_with (go_at_call 10; refine (checkEvent_any dy 3 si l rm c true _ (by omega) (by omega)).mono ?_; rintro e wq ⟨rfl, z1, rfl⟩; rw [h])
  apply wp_region_inv (V := holdsL [isBlk (w.heap.size + 1) 5 (kindsS.map Value.string).toArray 9, isV (.pointer (some ⟨w.heap.size, 1, none⟩)), isV (.int .i64 3), isPtr (.string (toB lowerB)), isV (.string (toB lowerB)), isV (.pointer (some ⟨w.heap.size, 0, none⟩)), isV (.int .i64 dy), isV (.string (toB (Lib.itoa dy))), isBlk (w.heap.size + 1) 2 #[.string (toB lowerB), .string (toB (Lib.itoa dy))] 9, isBlk (w.heap.size + 1) 2 #[.string (toB lowerB), .string (toB (Lib.itoa dy))] 9])
  case hm => kernel_rfl
  case hd => kernel_rfl
  case hf => kernel_rfl
  case hsel => kernel_rfl
  case hmono => exact holdsL_mono (by simp [mono_V, mono_blk, mono_ptr])
  case hA =>
    intro f
    simp [fillTo, Act.put]
    rfl
  case hstep =>
    simp only [stepsFrom, and_true]
    refine ⟨?_, ?_, ?_, ?_, ?_, ?_, ?_, ?_, ?_, ?_⟩
    · intro f z h
      unfold getsV
      go_simp
      refine (words_any _).mono ?_
      rintro e wq ⟨q, rfl, hqb, hq, z2, rfl⟩
      exact ⟨_, rfl, ⟨q, rfl, by simp [ext_size] at hqb; omega, hq⟩, _, rfl⟩
    · intro f z h
      first
        | (clear h; unfold getsV; go_simp; exact ⟨rfl, stays _⟩)
        | (simp [Region.binds, holdsL, isV] at h; unfold getsV; go_simp; exact ⟨rfl, stays _⟩)
    · intro f z h
      first
        | (clear h; unfold getsV; go_simp; exact ⟨rfl, stays _⟩)
        | (simp [Region.binds, holdsL, isV] at h; unfold getsV; go_simp; exact ⟨rfl, stays _⟩)
    · intro f z h
      obtain ⟨g, hf, -, hg⟩ := h ⟨0, .data⟩ (by simp) rfl
      have h2 : f 2 = .int .i64 3 := h ⟨2, .data⟩ (by simp) rfl
      clear h
      unfold getsV
      go_simp
      exact ⟨⟨g, 3, rfl, blk_lt hg, by simp [World.cell?, hg, kindsS, kindsB]⟩, stays _⟩
    · intro f z h
      obtain ⟨b, o, hf, hb, hc⟩ := h ⟨3, .data⟩ (by simp) rfl
      clear h
      unfold getsV
      go_simp
      exact ⟨rfl, stays _⟩
    · intro f z h
      first
        | (clear h; unfold getsV; go_simp; exact ⟨rfl, stays _⟩)
        | (simp [Region.binds, holdsL, isV] at h; unfold getsV; go_simp; exact ⟨rfl, stays _⟩)
    · intro f z h
      first
        | (clear h; unfold getsV; go_simp; exact ⟨rfl, stays _⟩)
        | (simp [Region.binds, holdsL, isV] at h; unfold getsV; go_simp; exact ⟨rfl, stays _⟩)
    · intro f z h
      have h2 : f 6 = .int .i64 dy := h ⟨6, .data⟩ (by simp) rfl
      clear h
      unfold getsV
      go_simp
      refine (pdecimal_any dy _ (hL.keep (n := w.heap.size) (by repeat (first | exact B_refl | exact Below.refl _ _ | assumption | with_reducible refine B_alloc ?_ _ | with_reducible refine B_ext ?_ _ | with_reducible refine B_drew ?_ | with_reducible refine B_drewN ?_ _ | with_reducible refine B_set ?_ (by simp; omega) _))) (by omega) (by omega)).mono ?_
      rintro e wq ⟨rfl, z2, rfl⟩
      exact ⟨_, rfl, rfl, _, rfl⟩
    · intro f z h
      have h4 : f 4 = .string (toB lowerB) := h ⟨4, .data⟩ (by simp) rfl
      have h7 : f 7 = .string (toB (Lib.itoa dy)) := h ⟨7, .data⟩ (by simp) rfl
      clear h
      unfold getsV
      go_simp
      refine ⟨⟨_, rfl, ?_, ?_⟩, ext_below ?_⟩
      · first | omega | (simp [ext_size]; omega)
      · (repeat (first | with_reducible exact G_new _ _ _ (by simp) | with_reducible exact G_new _ _ _ (by simp [ext_size]) | with_reducible refine G_drew ?_ | with_reducible refine G_ext ?_ | with_reducible refine G_alloc ?_))
      · repeat (first | exact B_refl | exact Below.refl _ _ | assumption | with_reducible refine B_alloc ?_ _ | with_reducible refine B_ext ?_ _ | with_reducible refine B_drew ?_ | with_reducible refine B_drewN ?_ _ | with_reducible refine B_set ?_ (by simp; omega) _)
    · intro f z h
      obtain ⟨g, hf, hb, hg⟩ := h ⟨8, .data⟩ (by simp) rfl
      clear h
      unfold getsV
      go_simp
      exact ⟨⟨g, rfl, hb, hg⟩, stays _⟩
  case hend =>
    intro f z h
    obtain ⟨g, hf, hb, hg⟩ := h 9 (by decide)
    rw [hf]
    clear h hf
    generalize hW0 : World.ext (World.drew (World.ext (w.alloc _) z1)) z = W0 at *
    have hbox : W0.heap[w.heap.size]? = some (.cells #[.int .i64 dy, .int .i64 3, .string si, .int .i64 l, .string rm, .int .i64 c, .bool true] 23) := by rw [← hW0]; (repeat (first | with_reducible exact G_new _ _ _ (by simp) | with_reducible exact G_new _ _ _ (by simp [ext_size]) | with_reducible refine G_drew ?_ | with_reducible refine G_ext ?_ | with_reducible refine G_alloc ?_))
    have hB0 : Below w.heap.size w W0 := by rw [← hW0]; repeat (first | exact B_refl | exact Below.refl _ _ | assumption | with_reducible refine B_alloc ?_ _ | with_reducible refine B_ext ?_ _ | with_reducible refine B_drew ?_ | with_reducible refine B_drewN ?_ _ | with_reducible refine B_set ?_ (by simp; omega) _)
    have hL0 : Laid W0 := hL.keep hB0
    have hz := blk_lt hbox
    clear hW0 hL
    have g1 : W0.cell? ⟨w.heap.size, 1, none⟩ = some (.int .i64 3) := by simp [World.cell?, hbox]
    have g3 : W0.cell? ⟨w.heap.size, 3, none⟩ = some (.int .i64 l) := by simp [World.cell?, hbox]
    have g4 : W0.cell? ⟨w.heap.size, 4, none⟩ = some (.string rm) := by simp [World.cell?, hbox]
    have g6 : W0.cell? ⟨w.heap.size, 6, none⟩ = some (.bool true) := by simp [World.cell?, hbox]
    have k3 : ∀ z, (W0.drew.ext z).cell? ⟨w.heap.size, 3, none⟩ = some (.int .i64 l) := fun z => ((below_ext W0.drew z).cell (p := ⟨w.heap.size, 3, none⟩) hz).trans g3
    have k4 : ∀ z, (W0.drew.ext z).cell? ⟨w.heap.size, 4, none⟩ = some (.string rm) := fun z => ((below_ext W0.drew z).cell (p := ⟨w.heap.size, 4, none⟩) hz).trans g4
    have k6 : ∀ z, (W0.drew.ext z).cell? ⟨w.heap.size, 6, none⟩ = some (.bool true) := fun z => ((below_ext W0.drew z).cell (p := ⟨w.heap.size, 6, none⟩) hz).trans g6
    have hjl : (Lib.join ([toB lowerB, toB (Lib.itoa dy), toB (Lib.itoa l), rm, toB orderB].map (·.data.toList)) [32]).length ≤ 2000 := by
      have h1 := itoa_small (n := dy) (by omega) (by omega)
      have h3 := itoa_small (n := l) (by omega) (by omega)
      have h2 : rm.data.toList.length = rm.size := bs_len rm
      simp [Lib.join, toB, lowerB, orderB]
      omega
    go_wp2_with fail
    apply wp_region_inv6 (m := 8) (V := holdsL [isV (.slice (some ⟨g, 0, none⟩) 2 2), isV (.pointer (some ⟨w.heap.size, 3, none⟩)), isV (.int .i64 l), isV (.string (toB (Lib.itoa l))), isV (.pointer (some ⟨w.heap.size, 4, none⟩)), isV (.string rm), isBlk (w.heap.size + 1) 2 #[.string (toB (Lib.itoa l)), .string rm] 9,
      isOwn (w.heap.size + 1) 4 ([toB lowerB, toB (Lib.itoa dy), toB (Lib.itoa l), rm].flatMap strCells), isOwn (w.heap.size + 1) 4 ([toB lowerB, toB (Lib.itoa dy), toB (Lib.itoa l), rm].flatMap strCells)])
    case hm => kernel_rfl
    case hd => kernel_rfl
    case hf => kernel_rfl
    case hsel => kernel_rfl
    case hmono => exact holdsL_mono (by simp [mono_V, mono_blk, mono_own])
    case hm0 => decide
    case hA =>
      intro f
      simp [fillTo, Act.put]
      rfl
    case hB =>
      intro f
      simp [fillTo, Act.put]
      rfl
    case hstep =>
      simp only [stepsFrom, and_true]
      refine ⟨?_, ?_, ?_, ?_, ?_, ?_, ?_, ?_, ?_⟩
      · intro f z h
        first
          | (clear h; unfold getsV; go_simp; exact ⟨rfl, stays _⟩)
          | (simp [Region.binds, holdsL, isV] at h; unfold getsV; go_simp; exact ⟨rfl, stays _⟩)
      · intro f z h
        first
          | (clear h; unfold getsV; go_simp; exact ⟨rfl, stays _⟩)
          | (simp [Region.binds, holdsL, isV] at h; unfold getsV; go_simp; exact ⟨rfl, stays _⟩)
      · intro f z h
        first
          | (clear h; unfold getsV; go_simp; exact ⟨rfl, stays _⟩)
          | (simp [Region.binds, holdsL, isV] at h; unfold getsV; go_simp; exact ⟨rfl, stays _⟩)
      · intro f z h
        have h2 : f 2 = .int .i64 l := h ⟨2, .data⟩ (by simp) rfl
        clear h
        unfold getsV
        go_simp
        refine (pdecimal_any l _ (hL0.keep (n := W0.heap.size) (by repeat (first | exact B_refl | exact Below.refl _ _ | assumption | with_reducible refine B_alloc ?_ _ | with_reducible refine B_ext ?_ _ | with_reducible refine B_drew ?_ | with_reducible refine B_drewN ?_ _ | with_reducible refine B_set ?_ (by simp; omega) _))) (by omega) (by omega)).mono ?_
        rintro e wq ⟨rfl, z2, rfl⟩
        exact ⟨_, rfl, rfl, _, rfl⟩
      · intro f z h
        first
          | (clear h; unfold getsV; go_simp; exact ⟨rfl, stays _⟩)
          | (simp [Region.binds, holdsL, isV] at h; unfold getsV; go_simp; exact ⟨rfl, stays _⟩)
      · intro f z h
        first
          | (clear h; unfold getsV; go_simp; exact ⟨rfl, stays _⟩)
          | (simp [Region.binds, holdsL, isV] at h; unfold getsV; go_simp; exact ⟨rfl, stays _⟩)
      · intro f z h
        have h3 : f 3 = .string (toB (Lib.itoa l)) := h ⟨3, .data⟩ (by simp) rfl
        have h5 : f 5 = .string rm := h ⟨5, .data⟩ (by simp) rfl
        clear h
        unfold getsV
        go_simp
        refine ⟨⟨_, rfl, ?_, ?_⟩, ext_below ?_⟩
        · first | omega | (simp [ext_size]; omega)
        · (repeat (first | with_reducible exact G_new _ _ _ (by simp) | with_reducible exact G_new _ _ _ (by simp [ext_size]) | with_reducible refine G_drew ?_ | with_reducible refine G_ext ?_ | with_reducible refine G_alloc ?_))
        · repeat (first | exact B_refl | exact Below.refl _ _ | assumption | with_reducible refine B_alloc ?_ _ | with_reducible refine B_ext ?_ _ | with_reducible refine B_drew ?_ | with_reducible refine B_drewN ?_ _ | with_reducible refine B_set ?_ (by simp; omega) _)
      · intro f z h
        have h0 : f 0 = .slice (some ⟨g, 0, none⟩) 2 2 := h ⟨0, .data⟩ (by simp) rfl
        obtain ⟨g2, hf, hb2, hg2⟩ := h ⟨6, .data⟩ (by simp) rfl
        clear h
        refine gets_append_full (.tmp 45) (.tmp 51) rfl elStr (base := w.heap.size + 1) (xs := [toB lowerB, toB (Lib.itoa dy)]) (ys := [toB (Lib.itoa l), rm]) (n := 2) (m := 2) h0 (G_ext (G_drew hg)) hb rfl (by decide) hf rfl (sl_block str_len hg2 (by simp [strCells])) (by simp) (by simp) ?_
        intro v' z' hv
        exact ⟨hv, z', rfl⟩
      · intro f z h
        have h7 := h ⟨7, .data⟩ (by simp) rfl
        clear h
        unfold getsV
        go_simp
        exact ⟨h7, stays _⟩
    case hend =>
      intro f z h
      have h8 : World.ownsRow _ (w.heap.size + 1) 9 1 (f 8) 4 ([toB lowerB, toB (Lib.itoa dy), toB (Lib.itoa l), rm].flatMap strCells) := h 8 (by decide)
      clear h
      have hB2 : Below W0.heap.size W0 (W0.drew.ext z) := by repeat (first | exact B_refl | exact Below.refl _ _ | assumption | with_reducible refine B_alloc ?_ _ | with_reducible refine B_ext ?_ _ | with_reducible refine B_drew ?_ | with_reducible refine B_drewN ?_ _ | with_reducible refine B_set ?_ (by simp; omega) _)
      generalize f 8 = v8 at *
      have k6z := k6 z
      clear k3 k4 k6
      generalize hW2 : W0.drew.ext z = W2 at *
      clear hW2
      have hz2 : w.heap.size < W2.heap.size := by have := hB2.size; omega
      go_wp2_with (first
        | (at_builtin; refine wpList_append_sl rfl _ _ rfl elStr str_len str_one (base := w.heap.size + 1) (n := 4) (m := 1) (v := v8) rfl (h8.alloc _) rfl (ys := [toB orderB]) rfl (sl_str (t := 9) (fr := (0, 0)) (G_new _ _ _ (by first | rfl | (simp [ext_size]; done)))) (by simp [maxLen]) (by omega) (by simp; omega) ?_; intro v2 w2 h1 h2 h3
           have hB3 : Below (w.heap.size + 1) W2 w2 := below_own2 (B_alloc (Below.refl _ _) _ (by omega)) (h8.alloc _) h2
           have hown3 : w2.ownsRow (w.heap.size + 1) 9 1 v2 [toB lowerB, toB (Lib.itoa dy), toB (Lib.itoa l), rm, toB orderB].length ([toB lowerB, toB (Lib.itoa dy), toB (Lib.itoa l), rm, toB orderB].flatMap strCells) := by simpa using h1
           obtain ⟨A1, c1, rfl, hS1, hlc⟩ := own_sl str_len hown3
           obtain ⟨b1, o1, rfl, hb1, hc1⟩ := hS1 (by simp)
           have HC1 := Lib.hid hc1
           clear h1 h2 h3 hown3 hS1 hc1)
        | (go_at_call 35; refine (Tryz.strings_Join b1 o1 c1 [toB lowerB, toB (Lib.itoa dy), toB (Lib.itoa l), rm, toB orderB] ⟨#[32]⟩ _ (fun j x hj => by simpa using HC1.out j x hj 0 _ rfl) hb1 (by simp) hlc (by exact Nat.le_trans hjl (by decide))).mono ?_; rintro e wq ⟨rfl, hBj⟩))
      go_ret2
      exact Ret.of rfl (((hB0.trans (hB2.mono hB0.size)).trans (hB3.mono (by omega))).trans (hBj.mono (by have := hB0.size; have := hB2.size; have := hB3.size; omega)))
end Go.Proofs.YtpohkolapgofdaaGreatDoor
namespace Go.Proofs.YtpohkolapgofdaaGreatDoor
open Go.RowKit
attribute [local go_sem] World.cell?_alloc_mark ext_size ext_cell ext_frozen lt_add_r lt_add_r2 lt_add_r3 lt_add_r4 lt_add_r5 lt_add_r6 lt_add_r7 lt_add_r8
set_option maxRecDepth 100000 in
set_option maxHeartbeats 2000000 in
theorem pFormat_bury (dy : Int) (si : ByteArray) (l : Int) (rm : ByteArray) (c : Int) (w : World) (hL : Laid w) (h : checkEventP ⟨dy, 0, si, l, rm, c, false⟩ = 0) (hs : si.size ≤ 1000) (hr : rm.size ≤ 1000) :
    Calls Tryz.prog 8 #[.agg #[.int .i64 dy, .int .i64 0, .string si, .int .i64 l, .string rm, .int .i64 c, .bool false]] w (Ret w (.tuple #[.string (toB (fmtB ⟨dy, 0, si, l, rm, c, false⟩)), .int .i64 0])) := by
  have hok := (ok_of h).day
  have hlv := (ok_of h).level (.inl rfl)
  have hco := (ok_of h).container (.inl rfl)
  dsimp only at hok hlv hco
  go_enter Tryz.func8, Tryz.ntmps8
  go_wp2_with (go_at_call 10; refine (checkEvent_any dy 0 si l rm c false _ (by omega) (by omega)).mono ?_; rintro e wq ⟨rfl, z1, rfl⟩; rw [h])
  apply wp_region_inv (V := holdsL [isBlk (w.heap.size + 1) 5 (kindsS.map Value.string).toArray 9, isV (.pointer (some ⟨w.heap.size, 1, none⟩)), isV (.int .i64 0), isPtr (.string (toB buryB)), isV (.string (toB buryB)), isV (.pointer (some ⟨w.heap.size, 0, none⟩)), isV (.int .i64 dy), isV (.string (toB (Lib.itoa dy))), isBlk (w.heap.size + 1) 2 #[.string (toB buryB), .string (toB (Lib.itoa dy))] 9, isBlk (w.heap.size + 1) 2 #[.string (toB buryB), .string (toB (Lib.itoa dy))] 9])
  case hm => kernel_rfl
  case hd => kernel_rfl
  case hf => kernel_rfl
  case hsel => kernel_rfl
  case hmono => exact holdsL_mono (by simp [mono_V, mono_blk, mono_ptr])
  case hA =>
    intro f
    simp [fillTo, Act.put]
    rfl
  case hstep =>
    simp only [stepsFrom, and_true]
    refine ⟨?_, ?_, ?_, ?_, ?_, ?_, ?_, ?_, ?_, ?_⟩
    · intro f z h
      unfold getsV
      go_simp
      refine (words_any _).mono ?_
      rintro e wq ⟨q, rfl, hqb, hq, z2, rfl⟩
      exact ⟨_, rfl, ⟨q, rfl, by simp [ext_size] at hqb; omega, hq⟩, _, rfl⟩
    · intro f z h
      first
        | (clear h; unfold getsV; go_simp; exact ⟨rfl, stays _⟩)
        | (simp [Region.binds, holdsL, isV] at h; unfold getsV; go_simp; exact ⟨rfl, stays _⟩)
    · intro f z h
      first
        | (clear h; unfold getsV; go_simp; exact ⟨rfl, stays _⟩)
        | (simp [Region.binds, holdsL, isV] at h; unfold getsV; go_simp; exact ⟨rfl, stays _⟩)
    · intro f z h
      obtain ⟨g, hf, -, hg⟩ := h ⟨0, .data⟩ (by simp) rfl
      have h2 : f 2 = .int .i64 0 := h ⟨2, .data⟩ (by simp) rfl
      clear h
      unfold getsV
      go_simp
      exact ⟨⟨g, 0, rfl, blk_lt hg, by simp [World.cell?, hg, kindsS, kindsB]⟩, stays _⟩
    · intro f z h
      obtain ⟨b, o, hf, hb, hc⟩ := h ⟨3, .data⟩ (by simp) rfl
      clear h
      unfold getsV
      go_simp
      exact ⟨rfl, stays _⟩
    · intro f z h
      first
        | (clear h; unfold getsV; go_simp; exact ⟨rfl, stays _⟩)
        | (simp [Region.binds, holdsL, isV] at h; unfold getsV; go_simp; exact ⟨rfl, stays _⟩)
    · intro f z h
      first
        | (clear h; unfold getsV; go_simp; exact ⟨rfl, stays _⟩)
        | (simp [Region.binds, holdsL, isV] at h; unfold getsV; go_simp; exact ⟨rfl, stays _⟩)
    · intro f z h
      have h2 : f 6 = .int .i64 dy := h ⟨6, .data⟩ (by simp) rfl
      clear h
      unfold getsV
      go_simp
      refine (pdecimal_any dy _ (hL.keep (n := w.heap.size) (by repeat (first | exact B_refl | exact Below.refl _ _ | assumption | with_reducible refine B_alloc ?_ _ | with_reducible refine B_ext ?_ _ | with_reducible refine B_drew ?_ | with_reducible refine B_drewN ?_ _ | with_reducible refine B_set ?_ (by simp; omega) _))) (by omega) (by omega)).mono ?_
      rintro e wq ⟨rfl, z2, rfl⟩
      exact ⟨_, rfl, rfl, _, rfl⟩
    · intro f z h
      have h4 : f 4 = .string (toB buryB) := h ⟨4, .data⟩ (by simp) rfl
      have h7 : f 7 = .string (toB (Lib.itoa dy)) := h ⟨7, .data⟩ (by simp) rfl
      clear h
      unfold getsV
      go_simp
      refine ⟨⟨_, rfl, ?_, ?_⟩, ext_below ?_⟩
      · first | omega | (simp [ext_size]; omega)
      · (repeat (first | with_reducible exact G_new _ _ _ (by simp) | with_reducible exact G_new _ _ _ (by simp [ext_size]) | with_reducible refine G_drew ?_ | with_reducible refine G_ext ?_ | with_reducible refine G_alloc ?_))
      · repeat (first | exact B_refl | exact Below.refl _ _ | assumption | with_reducible refine B_alloc ?_ _ | with_reducible refine B_ext ?_ _ | with_reducible refine B_drew ?_ | with_reducible refine B_drewN ?_ _ | with_reducible refine B_set ?_ (by simp; omega) _)
    · intro f z h
      obtain ⟨g, hf, hb, hg⟩ := h ⟨8, .data⟩ (by simp) rfl
      clear h
      unfold getsV
      go_simp
      exact ⟨⟨g, rfl, hb, hg⟩, stays _⟩
  case hend =>
    intro f z h
    obtain ⟨g, hf, hb, hg⟩ := h 9 (by decide)
    rw [hf]
    clear h hf
    generalize hW0 : World.ext (World.drew (World.ext (w.alloc _) z1)) z = W0 at *
    have hbox : W0.heap[w.heap.size]? = some (.cells #[.int .i64 dy, .int .i64 0, .string si, .int .i64 l, .string rm, .int .i64 c, .bool false] 23) := by rw [← hW0]; (repeat (first | with_reducible exact G_new _ _ _ (by simp) | with_reducible exact G_new _ _ _ (by simp [ext_size]) | with_reducible refine G_drew ?_ | with_reducible refine G_ext ?_ | with_reducible refine G_alloc ?_))
    have hB0 : Below w.heap.size w W0 := by rw [← hW0]; repeat (first | exact B_refl | exact Below.refl _ _ | assumption | with_reducible refine B_alloc ?_ _ | with_reducible refine B_ext ?_ _ | with_reducible refine B_drew ?_ | with_reducible refine B_drewN ?_ _ | with_reducible refine B_set ?_ (by simp; omega) _)
    have hL0 : Laid W0 := hL.keep hB0
    have hz := blk_lt hbox
    clear hW0 hL
    have g1 : W0.cell? ⟨w.heap.size, 1, none⟩ = some (.int .i64 0) := by simp [World.cell?, hbox]
    have g3 : W0.cell? ⟨w.heap.size, 3, none⟩ = some (.int .i64 l) := by simp [World.cell?, hbox]
    have g4 : W0.cell? ⟨w.heap.size, 4, none⟩ = some (.string rm) := by simp [World.cell?, hbox]
    have g2 : W0.cell? ⟨w.heap.size, 2, none⟩ = some (.string si) := by simp [World.cell?, hbox]
    have g5 : W0.cell? ⟨w.heap.size, 5, none⟩ = some (.int .i64 c) := by simp [World.cell?, hbox]
    have g6 : W0.cell? ⟨w.heap.size, 6, none⟩ = some (.bool false) := by simp [World.cell?, hbox]
    have k3 : ∀ z, (W0.drew.ext z).cell? ⟨w.heap.size, 3, none⟩ = some (.int .i64 l) := fun z => ((below_ext W0.drew z).cell (p := ⟨w.heap.size, 3, none⟩) hz).trans g3
    have k4 : ∀ z, (W0.drew.ext z).cell? ⟨w.heap.size, 4, none⟩ = some (.string rm) := fun z => ((below_ext W0.drew z).cell (p := ⟨w.heap.size, 4, none⟩) hz).trans g4
    have k2 : ∀ z, (W0.drew.ext z).cell? ⟨w.heap.size, 2, none⟩ = some (.string si) := fun z => ((below_ext W0.drew z).cell (p := ⟨w.heap.size, 2, none⟩) hz).trans g2
    have k5 : ∀ z, (W0.drew.ext z).cell? ⟨w.heap.size, 5, none⟩ = some (.int .i64 c) := fun z => ((below_ext W0.drew z).cell (p := ⟨w.heap.size, 5, none⟩) hz).trans g5
    have k6 : ∀ z, (W0.drew.ext z).cell? ⟨w.heap.size, 6, none⟩ = some (.bool false) := fun z => ((below_ext W0.drew z).cell (p := ⟨w.heap.size, 6, none⟩) hz).trans g6
    have hjl : (Lib.join ([toB buryB, toB (Lib.itoa dy), si, toB (Lib.itoa l), rm, toB (Lib.itoa c)].map (·.data.toList)) [32]).length ≤ 4000 := by
      have h1 := itoa_small (n := dy) (by omega) (by omega)
      have h3 := itoa_small (n := l) (by omega) (by omega)
      have h2 : rm.data.toList.length = rm.size := bs_len rm
      have h4 : si.data.toList.length = si.size := bs_len si
      have h5 := itoa_small (n := c) (by omega) (by omega)
      simp [Lib.join, toB, buryB]
      omega
    go_wp2_with fail
    apply wp_region_inv6 (m := 13) (V := holdsL [isV (.slice (some ⟨g, 0, none⟩) 2 2), isV (.pointer (some ⟨w.heap.size, 2, none⟩)), isV (.string si), isV (.pointer (some ⟨w.heap.size, 3, none⟩)), isV (.int .i64 l), isV (.string (toB (Lib.itoa l))), isV (.pointer (some ⟨w.heap.size, 4, none⟩)), isV (.string rm), isV (.pointer (some ⟨w.heap.size, 5, none⟩)), isV (.int .i64 c), isV (.string (toB (Lib.itoa c))),
      isBlk (w.heap.size + 1) 4 #[.string si, .string (toB (Lib.itoa l)), .string rm, .string (toB (Lib.itoa c))] 9,
      isOwn (w.heap.size + 1) 6 ([toB buryB, toB (Lib.itoa dy), si, toB (Lib.itoa l), rm, toB (Lib.itoa c)].flatMap strCells), isOwn (w.heap.size + 1) 6 ([toB buryB, toB (Lib.itoa dy), si, toB (Lib.itoa l), rm, toB (Lib.itoa c)].flatMap strCells)])
    case hm => kernel_rfl
    case hd => kernel_rfl
    case hf => kernel_rfl
    case hsel => kernel_rfl
    case hmono => exact holdsL_mono (by simp [mono_V, mono_blk, mono_own])
    case hm0 => decide
    case hA =>
      intro f
      simp [fillTo, Act.put]
      rfl
    case hB =>
      intro f
      simp [fillTo, Act.put]
      rfl
    case hstep =>
      simp only [stepsFrom, and_true]
      refine ⟨?_, ?_, ?_, ?_, ?_, ?_, ?_, ?_, ?_, ?_, ?_, ?_, ?_, ?_⟩
      · intro f z h
        first
          | (clear h; unfold getsV; go_simp; exact ⟨rfl, stays _⟩)
          | (simp [Region.binds, holdsL, isV] at h; unfold getsV; go_simp; exact ⟨rfl, stays _⟩)
      · intro f z h
        first
          | (clear h; unfold getsV; go_simp; exact ⟨rfl, stays _⟩)
          | (simp [Region.binds, holdsL, isV] at h; unfold getsV; go_simp; exact ⟨rfl, stays _⟩)
      · intro f z h
        first
          | (clear h; unfold getsV; go_simp; exact ⟨rfl, stays _⟩)
          | (simp [Region.binds, holdsL, isV] at h; unfold getsV; go_simp; exact ⟨rfl, stays _⟩)
      · intro f z h
        first
          | (clear h; unfold getsV; go_simp; exact ⟨rfl, stays _⟩)
          | (simp [Region.binds, holdsL, isV] at h; unfold getsV; go_simp; exact ⟨rfl, stays _⟩)
      · intro f z h
        first
          | (clear h; unfold getsV; go_simp; exact ⟨rfl, stays _⟩)
          | (simp [Region.binds, holdsL, isV] at h; unfold getsV; go_simp; exact ⟨rfl, stays _⟩)
      · intro f z h
        have h2 : f 4 = .int .i64 l := h ⟨4, .data⟩ (by simp) rfl
        clear h
        unfold getsV
        go_simp
        refine (pdecimal_any l _ (hL0.keep (n := W0.heap.size) (by repeat (first | exact B_refl | exact Below.refl _ _ | assumption | with_reducible refine B_alloc ?_ _ | with_reducible refine B_ext ?_ _ | with_reducible refine B_drew ?_ | with_reducible refine B_drewN ?_ _ | with_reducible refine B_set ?_ (by simp; omega) _))) (by omega) (by omega)).mono ?_
        rintro e wq ⟨rfl, z2, rfl⟩
        exact ⟨_, rfl, rfl, _, rfl⟩
      · intro f z h
        first
          | (clear h; unfold getsV; go_simp; exact ⟨rfl, stays _⟩)
          | (simp [Region.binds, holdsL, isV] at h; unfold getsV; go_simp; exact ⟨rfl, stays _⟩)
      · intro f z h
        first
          | (clear h; unfold getsV; go_simp; exact ⟨rfl, stays _⟩)
          | (simp [Region.binds, holdsL, isV] at h; unfold getsV; go_simp; exact ⟨rfl, stays _⟩)
      · intro f z h
        first
          | (clear h; unfold getsV; go_simp; exact ⟨rfl, stays _⟩)
          | (simp [Region.binds, holdsL, isV] at h; unfold getsV; go_simp; exact ⟨rfl, stays _⟩)
      · intro f z h
        first
          | (clear h; unfold getsV; go_simp; exact ⟨rfl, stays _⟩)
          | (simp [Region.binds, holdsL, isV] at h; unfold getsV; go_simp; exact ⟨rfl, stays _⟩)
      · intro f z h
        have h2 : f 9 = .int .i64 c := h ⟨9, .data⟩ (by simp) rfl
        clear h
        unfold getsV
        go_simp
        refine (pdecimal_any c _ (hL0.keep (n := W0.heap.size) (by repeat (first | exact B_refl | exact Below.refl _ _ | assumption | with_reducible refine B_alloc ?_ _ | with_reducible refine B_ext ?_ _ | with_reducible refine B_drew ?_ | with_reducible refine B_drewN ?_ _ | with_reducible refine B_set ?_ (by simp; omega) _))) (by omega) (by omega)).mono ?_
        rintro e wq ⟨rfl, z2, rfl⟩
        exact ⟨_, rfl, rfl, _, rfl⟩
      · intro f z h
        have h2 : f 2 = .string si := h ⟨2, .data⟩ (by simp) rfl
        have h5 : f 5 = .string (toB (Lib.itoa l)) := h ⟨5, .data⟩ (by simp) rfl
        have h7 : f 7 = .string rm := h ⟨7, .data⟩ (by simp) rfl
        have h10 : f 10 = .string (toB (Lib.itoa c)) := h ⟨10, .data⟩ (by simp) rfl
        clear h
        unfold getsV
        go_simp
        refine ⟨⟨_, rfl, ?_, ?_⟩, ext_below ?_⟩
        · first | omega | (simp [ext_size]; omega)
        · (repeat (first | with_reducible exact G_new _ _ _ (by simp) | with_reducible exact G_new _ _ _ (by simp [ext_size]) | with_reducible refine G_drew ?_ | with_reducible refine G_ext ?_ | with_reducible refine G_alloc ?_))
        · repeat (first | exact B_refl | exact Below.refl _ _ | assumption | with_reducible refine B_alloc ?_ _ | with_reducible refine B_ext ?_ _ | with_reducible refine B_drew ?_ | with_reducible refine B_drewN ?_ _ | with_reducible refine B_set ?_ (by simp; omega) _)
      · intro f z h
        have h0 : f 0 = .slice (some ⟨g, 0, none⟩) 2 2 := h ⟨0, .data⟩ (by simp) rfl
        obtain ⟨g2, hf, hb2, hg2⟩ := h ⟨11, .data⟩ (by simp) rfl
        clear h
        refine gets_append_full (.tmp 30) (.tmp 41) rfl elStr (base := w.heap.size + 1) (xs := [toB buryB, toB (Lib.itoa dy)]) (ys := [si, toB (Lib.itoa l), rm, toB (Lib.itoa c)]) (n := 2) (m := 4) h0 (G_ext (G_drew hg)) hb rfl (by decide) hf rfl (sl_block str_len hg2 (by simp [strCells])) (by simp) (by simp) ?_
        intro v' z' hv
        exact ⟨hv, z', rfl⟩
      · intro f z h
        have h7 := h ⟨12, .data⟩ (by simp) rfl
        clear h
        unfold getsV
        go_simp
        exact ⟨h7, stays _⟩
    case hend =>
      intro f z h
      have h8 : World.ownsRow _ (w.heap.size + 1) 9 1 (f 13) [toB buryB, toB (Lib.itoa dy), si, toB (Lib.itoa l), rm, toB (Lib.itoa c)].length ([toB buryB, toB (Lib.itoa dy), si, toB (Lib.itoa l), rm, toB (Lib.itoa c)].flatMap strCells) := h 13 (by decide)
      clear h
      obtain ⟨A1, c1, he, hS1, hlc⟩ := own_sl str_len h8
      rw [he]
      clear he h8
      obtain ⟨b1, o1, rfl, hb1, hc1⟩ := hS1 (by simp)
      have HC1 := Lib.hid hc1
      clear hS1 hc1
      go_wp2_with (go_at_call 35; refine (Tryz.strings_Join b1 o1 c1 [toB buryB, toB (Lib.itoa dy), si, toB (Lib.itoa l), rm, toB (Lib.itoa c)] ⟨#[32]⟩ _ (fun j x hj => by simpa using HC1.out j x hj 0 _ rfl) hb1 (by simp) hlc (by exact Nat.le_trans hjl (by decide))).mono ?_; rintro e wq ⟨rfl, hBj⟩)
      go_ret2
      have hB2 : Below W0.heap.size W0 (W0.drew.ext z) := by repeat (first | exact B_refl | exact Below.refl _ _ | assumption | with_reducible refine B_alloc ?_ _ | with_reducible refine B_ext ?_ _ | with_reducible refine B_drew ?_ | with_reducible refine B_drewN ?_ _ | with_reducible refine B_set ?_ (by simp; omega) _)
      exact Ret.of rfl ((hB0.trans (hB2.mono hB0.size)).trans (hBj.mono (by have := hB0.size; simp [ext_size]; omega)))
set_option maxRecDepth 100000 in
set_option maxHeartbeats 2000000 in
theorem pFormat_rebury (dy : Int) (si : ByteArray) (l : Int) (rm : ByteArray) (c : Int) (w : World) (hL : Laid w) (h : checkEventP ⟨dy, 2, si, l, rm, c, false⟩ = 0) (hs : si.size ≤ 1000) (hr : rm.size ≤ 1000) :
    Calls Tryz.prog 8 #[.agg #[.int .i64 dy, .int .i64 2, .string si, .int .i64 l, .string rm, .int .i64 c, .bool false]] w (Ret w (.tuple #[.string (toB (fmtB ⟨dy, 2, si, l, rm, c, false⟩)), .int .i64 0])) := by
  have hok := (ok_of h).day
  have hlv := (ok_of h).level (.inr (.inl rfl))
  have hco := (ok_of h).container (.inr rfl)
  dsimp only at hok hlv hco
  go_enter Tryz.func8, Tryz.ntmps8
  go_wp2_with (go_at_call 10; refine (checkEvent_any dy 2 si l rm c false _ (by omega) (by omega)).mono ?_; rintro e wq ⟨rfl, z1, rfl⟩; rw [h])
  apply wp_region_inv (V := holdsL [isBlk (w.heap.size + 1) 5 (kindsS.map Value.string).toArray 9, isV (.pointer (some ⟨w.heap.size, 1, none⟩)), isV (.int .i64 2), isPtr (.string (toB reburyB)), isV (.string (toB reburyB)), isV (.pointer (some ⟨w.heap.size, 0, none⟩)), isV (.int .i64 dy), isV (.string (toB (Lib.itoa dy))), isBlk (w.heap.size + 1) 2 #[.string (toB reburyB), .string (toB (Lib.itoa dy))] 9, isBlk (w.heap.size + 1) 2 #[.string (toB reburyB), .string (toB (Lib.itoa dy))] 9])
  case hm => kernel_rfl
  case hd => kernel_rfl
  case hf => kernel_rfl
  case hsel => kernel_rfl
  case hmono => exact holdsL_mono (by simp [mono_V, mono_blk, mono_ptr])
  case hA =>
    intro f
    simp [fillTo, Act.put]
    rfl
  case hstep =>
    simp only [stepsFrom, and_true]
    refine ⟨?_, ?_, ?_, ?_, ?_, ?_, ?_, ?_, ?_, ?_⟩
    · intro f z h
      unfold getsV
      go_simp
      refine (words_any _).mono ?_
      rintro e wq ⟨q, rfl, hqb, hq, z2, rfl⟩
      exact ⟨_, rfl, ⟨q, rfl, by simp [ext_size] at hqb; omega, hq⟩, _, rfl⟩
    · intro f z h
      first
        | (clear h; unfold getsV; go_simp; exact ⟨rfl, stays _⟩)
        | (simp [Region.binds, holdsL, isV] at h; unfold getsV; go_simp; exact ⟨rfl, stays _⟩)
    · intro f z h
      first
        | (clear h; unfold getsV; go_simp; exact ⟨rfl, stays _⟩)
        | (simp [Region.binds, holdsL, isV] at h; unfold getsV; go_simp; exact ⟨rfl, stays _⟩)
    · intro f z h
      obtain ⟨g, hf, -, hg⟩ := h ⟨0, .data⟩ (by simp) rfl
      have h2 : f 2 = .int .i64 2 := h ⟨2, .data⟩ (by simp) rfl
      clear h
      unfold getsV
      go_simp
      exact ⟨⟨g, 2, rfl, blk_lt hg, by simp [World.cell?, hg, kindsS, kindsB]⟩, stays _⟩
    · intro f z h
      obtain ⟨b, o, hf, hb, hc⟩ := h ⟨3, .data⟩ (by simp) rfl
      clear h
      unfold getsV
      go_simp
      exact ⟨rfl, stays _⟩
    · intro f z h
      first
        | (clear h; unfold getsV; go_simp; exact ⟨rfl, stays _⟩)
        | (simp [Region.binds, holdsL, isV] at h; unfold getsV; go_simp; exact ⟨rfl, stays _⟩)
    · intro f z h
      first
        | (clear h; unfold getsV; go_simp; exact ⟨rfl, stays _⟩)
        | (simp [Region.binds, holdsL, isV] at h; unfold getsV; go_simp; exact ⟨rfl, stays _⟩)
    · intro f z h
      have h2 : f 6 = .int .i64 dy := h ⟨6, .data⟩ (by simp) rfl
      clear h
      unfold getsV
      go_simp
      refine (pdecimal_any dy _ (hL.keep (n := w.heap.size) (by repeat (first | exact B_refl | exact Below.refl _ _ | assumption | with_reducible refine B_alloc ?_ _ | with_reducible refine B_ext ?_ _ | with_reducible refine B_drew ?_ | with_reducible refine B_drewN ?_ _ | with_reducible refine B_set ?_ (by simp; omega) _))) (by omega) (by omega)).mono ?_
      rintro e wq ⟨rfl, z2, rfl⟩
      exact ⟨_, rfl, rfl, _, rfl⟩
    · intro f z h
      have h4 : f 4 = .string (toB reburyB) := h ⟨4, .data⟩ (by simp) rfl
      have h7 : f 7 = .string (toB (Lib.itoa dy)) := h ⟨7, .data⟩ (by simp) rfl
      clear h
      unfold getsV
      go_simp
      refine ⟨⟨_, rfl, ?_, ?_⟩, ext_below ?_⟩
      · first | omega | (simp [ext_size]; omega)
      · (repeat (first | with_reducible exact G_new _ _ _ (by simp) | with_reducible exact G_new _ _ _ (by simp [ext_size]) | with_reducible refine G_drew ?_ | with_reducible refine G_ext ?_ | with_reducible refine G_alloc ?_))
      · repeat (first | exact B_refl | exact Below.refl _ _ | assumption | with_reducible refine B_alloc ?_ _ | with_reducible refine B_ext ?_ _ | with_reducible refine B_drew ?_ | with_reducible refine B_drewN ?_ _ | with_reducible refine B_set ?_ (by simp; omega) _)
    · intro f z h
      obtain ⟨g, hf, hb, hg⟩ := h ⟨8, .data⟩ (by simp) rfl
      clear h
      unfold getsV
      go_simp
      exact ⟨⟨g, rfl, hb, hg⟩, stays _⟩
  case hend =>
    intro f z h
    obtain ⟨g, hf, hb, hg⟩ := h 9 (by decide)
    rw [hf]
    clear h hf
    generalize hW0 : World.ext (World.drew (World.ext (w.alloc _) z1)) z = W0 at *
    have hbox : W0.heap[w.heap.size]? = some (.cells #[.int .i64 dy, .int .i64 2, .string si, .int .i64 l, .string rm, .int .i64 c, .bool false] 23) := by rw [← hW0]; (repeat (first | with_reducible exact G_new _ _ _ (by simp) | with_reducible exact G_new _ _ _ (by simp [ext_size]) | with_reducible refine G_drew ?_ | with_reducible refine G_ext ?_ | with_reducible refine G_alloc ?_))
    have hB0 : Below w.heap.size w W0 := by rw [← hW0]; repeat (first | exact B_refl | exact Below.refl _ _ | assumption | with_reducible refine B_alloc ?_ _ | with_reducible refine B_ext ?_ _ | with_reducible refine B_drew ?_ | with_reducible refine B_drewN ?_ _ | with_reducible refine B_set ?_ (by simp; omega) _)
    have hL0 : Laid W0 := hL.keep hB0
    have hz := blk_lt hbox
    clear hW0 hL
    have g1 : W0.cell? ⟨w.heap.size, 1, none⟩ = some (.int .i64 2) := by simp [World.cell?, hbox]
    have g3 : W0.cell? ⟨w.heap.size, 3, none⟩ = some (.int .i64 l) := by simp [World.cell?, hbox]
    have g4 : W0.cell? ⟨w.heap.size, 4, none⟩ = some (.string rm) := by simp [World.cell?, hbox]
    have g2 : W0.cell? ⟨w.heap.size, 2, none⟩ = some (.string si) := by simp [World.cell?, hbox]
    have g5 : W0.cell? ⟨w.heap.size, 5, none⟩ = some (.int .i64 c) := by simp [World.cell?, hbox]
    have g6 : W0.cell? ⟨w.heap.size, 6, none⟩ = some (.bool false) := by simp [World.cell?, hbox]
    have k3 : ∀ z, (W0.drew.ext z).cell? ⟨w.heap.size, 3, none⟩ = some (.int .i64 l) := fun z => ((below_ext W0.drew z).cell (p := ⟨w.heap.size, 3, none⟩) hz).trans g3
    have k4 : ∀ z, (W0.drew.ext z).cell? ⟨w.heap.size, 4, none⟩ = some (.string rm) := fun z => ((below_ext W0.drew z).cell (p := ⟨w.heap.size, 4, none⟩) hz).trans g4
    have k2 : ∀ z, (W0.drew.ext z).cell? ⟨w.heap.size, 2, none⟩ = some (.string si) := fun z => ((below_ext W0.drew z).cell (p := ⟨w.heap.size, 2, none⟩) hz).trans g2
    have k5 : ∀ z, (W0.drew.ext z).cell? ⟨w.heap.size, 5, none⟩ = some (.int .i64 c) := fun z => ((below_ext W0.drew z).cell (p := ⟨w.heap.size, 5, none⟩) hz).trans g5
    have k6 : ∀ z, (W0.drew.ext z).cell? ⟨w.heap.size, 6, none⟩ = some (.bool false) := fun z => ((below_ext W0.drew z).cell (p := ⟨w.heap.size, 6, none⟩) hz).trans g6
    have hjl : (Lib.join ([toB reburyB, toB (Lib.itoa dy), si, toB (Lib.itoa l), rm, toB (Lib.itoa c)].map (·.data.toList)) [32]).length ≤ 4000 := by
      have h1 := itoa_small (n := dy) (by omega) (by omega)
      have h3 := itoa_small (n := l) (by omega) (by omega)
      have h2 : rm.data.toList.length = rm.size := bs_len rm
      have h4 : si.data.toList.length = si.size := bs_len si
      have h5 := itoa_small (n := c) (by omega) (by omega)
      simp [Lib.join, toB, reburyB]
      omega
    go_wp2_with fail
    apply wp_region_inv6 (m := 13) (V := holdsL [isV (.slice (some ⟨g, 0, none⟩) 2 2), isV (.pointer (some ⟨w.heap.size, 2, none⟩)), isV (.string si), isV (.pointer (some ⟨w.heap.size, 3, none⟩)), isV (.int .i64 l), isV (.string (toB (Lib.itoa l))), isV (.pointer (some ⟨w.heap.size, 4, none⟩)), isV (.string rm), isV (.pointer (some ⟨w.heap.size, 5, none⟩)), isV (.int .i64 c), isV (.string (toB (Lib.itoa c))),
      isBlk (w.heap.size + 1) 4 #[.string si, .string (toB (Lib.itoa l)), .string rm, .string (toB (Lib.itoa c))] 9,
      isOwn (w.heap.size + 1) 6 ([toB reburyB, toB (Lib.itoa dy), si, toB (Lib.itoa l), rm, toB (Lib.itoa c)].flatMap strCells), isOwn (w.heap.size + 1) 6 ([toB reburyB, toB (Lib.itoa dy), si, toB (Lib.itoa l), rm, toB (Lib.itoa c)].flatMap strCells)])
    case hm => kernel_rfl
    case hd => kernel_rfl
    case hf => kernel_rfl
    case hsel => kernel_rfl
    case hmono => exact holdsL_mono (by simp [mono_V, mono_blk, mono_own])
    case hm0 => decide
    case hA =>
      intro f
      simp [fillTo, Act.put]
      rfl
    case hB =>
      intro f
      simp [fillTo, Act.put]
      rfl
    case hstep =>
      simp only [stepsFrom, and_true]
      refine ⟨?_, ?_, ?_, ?_, ?_, ?_, ?_, ?_, ?_, ?_, ?_, ?_, ?_, ?_⟩
      · intro f z h
        first
          | (clear h; unfold getsV; go_simp; exact ⟨rfl, stays _⟩)
          | (simp [Region.binds, holdsL, isV] at h; unfold getsV; go_simp; exact ⟨rfl, stays _⟩)
      · intro f z h
        first
          | (clear h; unfold getsV; go_simp; exact ⟨rfl, stays _⟩)
          | (simp [Region.binds, holdsL, isV] at h; unfold getsV; go_simp; exact ⟨rfl, stays _⟩)
      · intro f z h
        first
          | (clear h; unfold getsV; go_simp; exact ⟨rfl, stays _⟩)
          | (simp [Region.binds, holdsL, isV] at h; unfold getsV; go_simp; exact ⟨rfl, stays _⟩)
      · intro f z h
        first
          | (clear h; unfold getsV; go_simp; exact ⟨rfl, stays _⟩)
          | (simp [Region.binds, holdsL, isV] at h; unfold getsV; go_simp; exact ⟨rfl, stays _⟩)
      · intro f z h
        first
          | (clear h; unfold getsV; go_simp; exact ⟨rfl, stays _⟩)
          | (simp [Region.binds, holdsL, isV] at h; unfold getsV; go_simp; exact ⟨rfl, stays _⟩)
      · intro f z h
        have h2 : f 4 = .int .i64 l := h ⟨4, .data⟩ (by simp) rfl
        clear h
        unfold getsV
        go_simp
        refine (pdecimal_any l _ (hL0.keep (n := W0.heap.size) (by repeat (first | exact B_refl | exact Below.refl _ _ | assumption | with_reducible refine B_alloc ?_ _ | with_reducible refine B_ext ?_ _ | with_reducible refine B_drew ?_ | with_reducible refine B_drewN ?_ _ | with_reducible refine B_set ?_ (by simp; omega) _))) (by omega) (by omega)).mono ?_
        rintro e wq ⟨rfl, z2, rfl⟩
        exact ⟨_, rfl, rfl, _, rfl⟩
      · intro f z h
        first
          | (clear h; unfold getsV; go_simp; exact ⟨rfl, stays _⟩)
          | (simp [Region.binds, holdsL, isV] at h; unfold getsV; go_simp; exact ⟨rfl, stays _⟩)
      · intro f z h
        first
          | (clear h; unfold getsV; go_simp; exact ⟨rfl, stays _⟩)
          | (simp [Region.binds, holdsL, isV] at h; unfold getsV; go_simp; exact ⟨rfl, stays _⟩)
      · intro f z h
        first
          | (clear h; unfold getsV; go_simp; exact ⟨rfl, stays _⟩)
          | (simp [Region.binds, holdsL, isV] at h; unfold getsV; go_simp; exact ⟨rfl, stays _⟩)
      · intro f z h
        first
          | (clear h; unfold getsV; go_simp; exact ⟨rfl, stays _⟩)
          | (simp [Region.binds, holdsL, isV] at h; unfold getsV; go_simp; exact ⟨rfl, stays _⟩)
      · intro f z h
        have h2 : f 9 = .int .i64 c := h ⟨9, .data⟩ (by simp) rfl
        clear h
        unfold getsV
        go_simp
        refine (pdecimal_any c _ (hL0.keep (n := W0.heap.size) (by repeat (first | exact B_refl | exact Below.refl _ _ | assumption | with_reducible refine B_alloc ?_ _ | with_reducible refine B_ext ?_ _ | with_reducible refine B_drew ?_ | with_reducible refine B_drewN ?_ _ | with_reducible refine B_set ?_ (by simp; omega) _))) (by omega) (by omega)).mono ?_
        rintro e wq ⟨rfl, z2, rfl⟩
        exact ⟨_, rfl, rfl, _, rfl⟩
      · intro f z h
        have h2 : f 2 = .string si := h ⟨2, .data⟩ (by simp) rfl
        have h5 : f 5 = .string (toB (Lib.itoa l)) := h ⟨5, .data⟩ (by simp) rfl
        have h7 : f 7 = .string rm := h ⟨7, .data⟩ (by simp) rfl
        have h10 : f 10 = .string (toB (Lib.itoa c)) := h ⟨10, .data⟩ (by simp) rfl
        clear h
        unfold getsV
        go_simp
        refine ⟨⟨_, rfl, ?_, ?_⟩, ext_below ?_⟩
        · first | omega | (simp [ext_size]; omega)
        · (repeat (first | with_reducible exact G_new _ _ _ (by simp) | with_reducible exact G_new _ _ _ (by simp [ext_size]) | with_reducible refine G_drew ?_ | with_reducible refine G_ext ?_ | with_reducible refine G_alloc ?_))
        · repeat (first | exact B_refl | exact Below.refl _ _ | assumption | with_reducible refine B_alloc ?_ _ | with_reducible refine B_ext ?_ _ | with_reducible refine B_drew ?_ | with_reducible refine B_drewN ?_ _ | with_reducible refine B_set ?_ (by simp; omega) _)
      · intro f z h
        have h0 : f 0 = .slice (some ⟨g, 0, none⟩) 2 2 := h ⟨0, .data⟩ (by simp) rfl
        obtain ⟨g2, hf, hb2, hg2⟩ := h ⟨11, .data⟩ (by simp) rfl
        clear h
        refine gets_append_full (.tmp 30) (.tmp 41) rfl elStr (base := w.heap.size + 1) (xs := [toB reburyB, toB (Lib.itoa dy)]) (ys := [si, toB (Lib.itoa l), rm, toB (Lib.itoa c)]) (n := 2) (m := 4) h0 (G_ext (G_drew hg)) hb rfl (by decide) hf rfl (sl_block str_len hg2 (by simp [strCells])) (by simp) (by simp) ?_
        intro v' z' hv
        exact ⟨hv, z', rfl⟩
      · intro f z h
        have h7 := h ⟨12, .data⟩ (by simp) rfl
        clear h
        unfold getsV
        go_simp
        exact ⟨h7, stays _⟩
    case hend =>
      intro f z h
      have h8 : World.ownsRow _ (w.heap.size + 1) 9 1 (f 13) [toB reburyB, toB (Lib.itoa dy), si, toB (Lib.itoa l), rm, toB (Lib.itoa c)].length ([toB reburyB, toB (Lib.itoa dy), si, toB (Lib.itoa l), rm, toB (Lib.itoa c)].flatMap strCells) := h 13 (by decide)
      clear h
      obtain ⟨A1, c1, he, hS1, hlc⟩ := own_sl str_len h8
      rw [he]
      clear he h8
      obtain ⟨b1, o1, rfl, hb1, hc1⟩ := hS1 (by simp)
      have HC1 := Lib.hid hc1
      clear hS1 hc1
      go_wp2_with (go_at_call 35; refine (Tryz.strings_Join b1 o1 c1 [toB reburyB, toB (Lib.itoa dy), si, toB (Lib.itoa l), rm, toB (Lib.itoa c)] ⟨#[32]⟩ _ (fun j x hj => by simpa using HC1.out j x hj 0 _ rfl) hb1 (by simp) hlc (by exact Nat.le_trans hjl (by decide))).mono ?_; rintro e wq ⟨rfl, hBj⟩)
      go_ret2
      have hB2 : Below W0.heap.size W0 (W0.drew.ext z) := by repeat (first | exact B_refl | exact Below.refl _ _ | assumption | with_reducible refine B_alloc ?_ _ | with_reducible refine B_ext ?_ _ | with_reducible refine B_drew ?_ | with_reducible refine B_drewN ?_ _ | with_reducible refine B_set ?_ (by simp; omega) _)
      exact Ret.of rfl ((hB0.trans (hB2.mono hB0.size)).trans (hBj.mono (by have := hB0.size; simp [ext_size]; omega)))
end Go.Proofs.YtpohkolapgofdaaGreatDoor
namespace Go.Proofs.YtpohkolapgofdaaGreatDoor
open Go.RowKit
attribute [local go_sem] World.cell?_alloc_mark ext_size ext_cell ext_frozen lt_add_r lt_add_r2 lt_add_r3 lt_add_r4 lt_add_r5 lt_add_r6 lt_add_r7 lt_add_r8
/-- What FormatEvent hands back. -/
def pFmt (e : Event) : Value := .tuple #[.string (if checkEventP e == 0 then toB (fmtB e) else ⟨#[]⟩), .int .i64 (checkEventP e)]
set_option maxRecDepth 100000 in
set_option maxHeartbeats 2000000 in
theorem pFormat_wrong (dy k : Int) (si : ByteArray) (l : Int) (rm : ByteArray) (c : Int) (o : Bool) (d : Int) (w : World) (h : checkEventP ⟨dy, k, si, l, rm, c, o⟩ = d) (hd : ¬ d = 0) (hs : si.size ≤ 1000) (hr : rm.size ≤ 1000) :
    Calls Tryz.prog 8 #[.agg #[.int .i64 dy, .int .i64 k, .string si, .int .i64 l, .string rm, .int .i64 c, .bool o]] w (Ret w (.tuple #[.string ⟨#[]⟩, .int .i64 d])) := by
  go_enter Tryz.func8, Tryz.ntmps8
  go_wp2_with (go_at_call 10; refine (checkEvent_any dy k si l rm c o _ (by omega) (by omega)).mono ?_; rintro e wq ⟨rfl, z1, rfl⟩; rw [h])
  go_ret2
  exact Ret.of rfl (by repeat (first | exact B_refl | exact Below.refl _ _ | assumption | with_reducible refine B_alloc ?_ _ | with_reducible refine B_ext ?_ _ | with_reducible refine B_drew ?_ | with_reducible refine B_drewN ?_ _ | with_reducible refine B_set ?_ (by simp; omega) _))
theorem pFormat_any (dy k : Int) (si : ByteArray) (l : Int) (rm : ByteArray) (c : Int) (o : Bool) (w : World) (hL : Laid w) (hs : si.size ≤ 1000) (hr : rm.size ≤ 1000) :
    Calls Tryz.prog 8 #[.agg #[.int .i64 dy, .int .i64 k, .string si, .int .i64 l, .string rm, .int .i64 c, .bool o]] w (Ret w (pFmt ⟨dy, k, si, l, rm, c, o⟩)) := by
  unfold pFmt
  by_cases h0 : checkEventP ⟨dy, k, si, l, rm, c, o⟩ = 0
  · rw [if_pos (by rw [h0]; rfl), h0]
    have hk := (ok_of h0).kind
    have ho := (ok_of h0).order
    dsimp only at hk ho
    have hkk : k = 0 ∨ k = 1 ∨ k = 2 ∨ k = 3 ∨ k = 4 := by omega
    rcases hkk with rfl | rfl | rfl | rfl | rfl
    · cases o
      · exact pFormat_bury dy si l rm c w hL h0 hs hr
      · exact absurd (ho rfl) (by simp)
    · cases o
      · exact pFormat_exhume dy si l rm c w hL h0 hs hr
      · exact pFormat_exhumeO dy si l rm c w hL h0 hs hr
    · cases o
      · exact pFormat_rebury dy si l rm c w hL h0 hs hr
      · exact absurd (ho rfl) (by simp)
    · cases o
      · exact pFormat_lower dy si l rm c w hL h0 hs hr
      · exact pFormat_lowerO dy si l rm c w hL h0 hs hr
    · cases o
      · exact pFormat_gather dy si l rm c w hL h0 hs hr
      · exact absurd (ho rfl) (by simp)
  · rw [if_neg (by simpa using h0)]
    exact pFormat_wrong dy k si l rm c o _ w rfl h0 hs hr
end Go.Proofs.YtpohkolapgofdaaGreatDoor
