/- Words for the values of a region that draws, by predicates; the head of the program's FormatEvent. -/
/- Walk of the program: the text of an exhumation. -/
/- An append in a region that draws, onto a row without room: all that was there stays. -/
import Derived.Test.YtpohkolapgofdaaGreatDoorTM
import Derived.Test.YtpohkolapgofdaaGreatDoorTG
namespace Go.Proofs.YtpohkolapgofdaaGreatDoor
open Go.RowKit
attribute [local go_sem] World.cell?_alloc_mark ext_size ext_cell ext_frozen lt_add_r lt_add_r2 lt_add_r3 lt_add_r4 lt_add_r5 lt_add_r6 lt_add_r7 lt_add_r8

def isV (u : Value) (v : Value) (_ : World) : Prop := v = u
def isBlk (base n : Nat) (cs : Array Value) (t : TypeId) (v : Value) (W : World) : Prop := ∃ g, v = .slice (some ⟨g, 0, none⟩) n n ∧ base ≤ g ∧ W.heap[g]? = some (.cells cs t (0, 0))
def isPtr (u : Value) (v : Value) (W : World) : Prop := ∃ b o, v = .pointer (some ⟨b, o, none⟩) ∧ b < W.heap.size ∧ W.cell? ⟨b, o, none⟩ = some u
def Mono (p : Value → World → Prop) : Prop := ∀ v W z, p v W → p v (W.ext z)
theorem mono_V (u : Value) : Mono (isV u) := fun _ _ _ h => h
theorem mono_blk (base n : Nat) (cs : Array Value) (t : TypeId) : Mono (isBlk base n cs t) := fun _ W z ⟨g, h1, h0, h2⟩ => ⟨g, h1, h0, (ext_heap_lt W z g (blk_lt h2)).trans h2⟩
theorem mono_ptr (u : Value) : Mono (isPtr u) := fun _ W z ⟨b, o, h1, h2, h3⟩ => ⟨b, o, h1, by rw [ext_size]; omega, ((below_ext W z).cell (p := ⟨b, o, none⟩) h2).trans h3⟩
def holdsL (Vs : List (Value → World → Prop)) (i : Nat) (v : Value) (W : World) : Prop := (Vs.getD i (fun _ _ => True)) v W
theorem holdsL_mono {Vs : List (Value → World → Prop)} (h : ∀ p ∈ Vs, Mono p) (i : Nat) (v : Value) (W : World) (z : Ez) (hv : holdsL Vs i v W) : holdsL Vs i v (W.ext z) := by
  unfold holdsL at *
  rw [List.getD_eq_getElem?_getD] at *
  cases hx : Vs[i]? with
  | none => trivial
  | some p =>
    rw [hx] at hv
    exact h p (List.mem_of_getElem? hx) v W z hv
theorem own_blk {w : World} {base g n : Nat} {xs : List ByteArray} {t : TypeId} (hg : w.heap[g]? = some (.cells (xs.map Value.string).toArray t (0, 0))) (hb : base ≤ g) (hn : xs.length = n) (hm : n ≤ 1000) : w.ownsRow base t 1 (.slice (some ⟨g, 0, none⟩) n n) n (xs.flatMap strCells) := by
  have hf : xs.flatMap strCells = xs.map Value.string := by
    rw [← List.flatMap_singleton' (xs.map Value.string), List.flatMap_map]
    rfl
  rw [hf]
  subst hn
  exact ⟨by simp, .inr ⟨g, xs.length, (xs.map Value.string).toArray, rfl, hb, hg, Nat.le_refl _, Nat.le_trans hm (by decide), by simp, by simpa using List.take_of_length_le (by simp)⟩⟩
set_option maxRecDepth 100000 in
set_option maxHeartbeats 2000000 in
theorem pFormat_gather (dy : Int) (si : ByteArray) (l : Int) (rm : ByteArray) (c : Int) (w : World) (hL : Laid w) (h : checkEventP ⟨dy, 4, si, l, rm, c, false⟩ = 0) (hs : si.size ≤ 1000) (hr : rm.size ≤ 1000) :
    Calls Tryz.prog 8 #[.agg #[.int .i64 dy, .int .i64 4, .string si, .int .i64 l, .string rm, .int .i64 c, .bool false]] w (Ret w (.tuple #[.string (toB (fmtB ⟨dy, 4, si, l, rm, c, false⟩)), .int .i64 0])) := by
  have hok := (ok_of h).day
  dsimp only at hok
  go_enter Tryz.func8, Tryz.ntmps8
  go_wp2_with (go_at_call 10; refine (checkEvent_any dy 4 si l rm c false _ (by omega) (by omega)).mono ?_; rintro e wq ⟨rfl, z1, rfl⟩; rw [h])
  apply wp_region_inv (V := holdsL [isBlk (w.heap.size + 1) 5 (kindsS.map Value.string).toArray 9, isV (.pointer (some ⟨w.heap.size, 1, none⟩)), isV (.int .i64 4), isPtr (.string (toB gatherB)), isV (.string (toB gatherB)), isV (.pointer (some ⟨w.heap.size, 0, none⟩)), isV (.int .i64 dy), isV (.string (toB (Lib.itoa dy))), isBlk (w.heap.size + 1) 2 #[.string (toB gatherB), .string (toB (Lib.itoa dy))] 9, isBlk (w.heap.size + 1) 2 #[.string (toB gatherB), .string (toB (Lib.itoa dy))] 9])
  case hm => kernel_rfl
  case hd => kernel_rfl
  case hf => kernel_rfl
  case hsel => kernel_rfl
  case hmono => exact holdsL_mono (by simp [mono_V, mono_blk, mono_ptr])
  case hA =>
    intro f
    simp [fillTo, Act.put]
    rfl
  case hstep =>
    simp only [stepsFrom, and_true]
    refine ⟨?_, ?_, ?_, ?_, ?_, ?_, ?_, ?_, ?_, ?_⟩
    · intro f z h
      unfold getsV
      go_simp
      refine (words_any _).mono ?_
      rintro e wq ⟨q, rfl, hqb, hq, z2, rfl⟩
      exact ⟨_, rfl, ⟨q, rfl, by simp [ext_size] at hqb; omega, hq⟩, _, rfl⟩
    · intro f z h
      first
        | (clear h; unfold getsV; go_simp; exact ⟨rfl, stays _⟩)
        | (simp [Region.binds, holdsL, isV] at h; unfold getsV; go_simp; exact ⟨rfl, stays _⟩)
    · intro f z h
      first
        | (clear h; unfold getsV; go_simp; exact ⟨rfl, stays _⟩)
        | (simp [Region.binds, holdsL, isV] at h; unfold getsV; go_simp; exact ⟨rfl, stays _⟩)
    · intro f z h
      obtain ⟨g, hf, -, hg⟩ := h ⟨0, .data⟩ (by simp) rfl
      have h2 : f 2 = .int .i64 4 := h ⟨2, .data⟩ (by simp) rfl
      clear h
      unfold getsV
      go_simp
      exact ⟨⟨g, 4, rfl, blk_lt hg, by simp [World.cell?, hg, kindsS, kindsB]⟩, stays _⟩
    · intro f z h
      obtain ⟨b, o, hf, hb, hc⟩ := h ⟨3, .data⟩ (by simp) rfl
      clear h
      unfold getsV
      go_simp
      exact ⟨rfl, stays _⟩
    · intro f z h
      first
        | (clear h; unfold getsV; go_simp; exact ⟨rfl, stays _⟩)
        | (simp [Region.binds, holdsL, isV] at h; unfold getsV; go_simp; exact ⟨rfl, stays _⟩)
    · intro f z h
      first
        | (clear h; unfold getsV; go_simp; exact ⟨rfl, stays _⟩)
        | (simp [Region.binds, holdsL, isV] at h; unfold getsV; go_simp; exact ⟨rfl, stays _⟩)
    · intro f z h
      have h2 : f 6 = .int .i64 dy := h ⟨6, .data⟩ (by simp) rfl
      clear h
      unfold getsV
      go_simp
      refine (pdecimal_any dy _ (hL.keep (n := w.heap.size) (by repeat (first | exact B_refl | exact Below.refl _ _ | assumption | with_reducible refine B_alloc ?_ _ | with_reducible refine B_ext ?_ _ | with_reducible refine B_drew ?_ | with_reducible refine B_drewN ?_ _ | with_reducible refine B_set ?_ (by simp; omega) _))) (by omega) (by omega)).mono ?_
      rintro e wq ⟨rfl, z2, rfl⟩
      exact ⟨_, rfl, rfl, _, rfl⟩
    · intro f z h
      have h4 : f 4 = .string (toB gatherB) := h ⟨4, .data⟩ (by simp) rfl
      have h7 : f 7 = .string (toB (Lib.itoa dy)) := h ⟨7, .data⟩ (by simp) rfl
      clear h
      unfold getsV
      go_simp
      refine ⟨⟨_, rfl, ?_, ?_⟩, ext_below ?_⟩
      · first | omega | (simp [ext_size]; omega)
      · (repeat (first | with_reducible exact G_new _ _ _ (by simp) | with_reducible exact G_new _ _ _ (by simp [ext_size]) | with_reducible refine G_drew ?_ | with_reducible refine G_ext ?_ | with_reducible refine G_alloc ?_))
      · repeat (first | exact B_refl | exact Below.refl _ _ | assumption | with_reducible refine B_alloc ?_ _ | with_reducible refine B_ext ?_ _ | with_reducible refine B_drew ?_ | with_reducible refine B_drewN ?_ _ | with_reducible refine B_set ?_ (by simp; omega) _)
    · intro f z h
      obtain ⟨g, hf, hb, hg⟩ := h ⟨8, .data⟩ (by simp) rfl
      clear h
      unfold getsV
      go_simp
      exact ⟨⟨g, rfl, hb, hg⟩, stays _⟩
  case hend =>
    intro f z h
    obtain ⟨g, hf, hb, hg⟩ := h 9 (by decide)
    rw [hf]
    clear h hf
    have hown := own_blk (xs := [toB gatherB, toB (Lib.itoa dy)]) (t := 9) (n := 2) hg hb rfl (by decide)
    clear hg
    generalize hW0 : World.ext (World.drew (World.ext (w.alloc _) z1)) z = W0 at *
    have hbox : W0.heap[w.heap.size]? = some (.cells #[.int .i64 dy, .int .i64 4, .string si, .int .i64 l, .string rm, .int .i64 c, .bool false] 23) := by rw [← hW0]; (repeat (first | with_reducible exact G_new _ _ _ (by simp) | with_reducible exact G_new _ _ _ (by simp [ext_size]) | with_reducible refine G_drew ?_ | with_reducible refine G_ext ?_ | with_reducible refine G_alloc ?_))
    have hB0 : Below w.heap.size w W0 := by rw [← hW0]; repeat (first | exact B_refl | exact Below.refl _ _ | assumption | with_reducible refine B_alloc ?_ _ | with_reducible refine B_ext ?_ _ | with_reducible refine B_drew ?_ | with_reducible refine B_drewN ?_ _ | with_reducible refine B_set ?_ (by simp; omega) _)
    have hz := blk_lt hbox
    clear hW0
    have g1 : W0.cell? ⟨w.heap.size, 1, none⟩ = some (.int .i64 4) := by simp [World.cell?, hbox]
    have g4 : W0.cell? ⟨w.heap.size, 4, none⟩ = some (.string rm) := by simp [World.cell?, hbox]
    have hjl : (Lib.join ([toB gatherB, toB (Lib.itoa dy), rm].map (·.data.toList)) [32]).length ≤ 2000 := by
      have h1 := itoa_small (n := dy) (by omega) (by omega)
      have h2 : rm.data.toList.length = rm.size := bs_len rm
      simp [Lib.join, toB, gatherB]
      omega
    have HX : Hid ((⟨(Lib.join ([toB gatherB, toB (Lib.itoa dy), rm].map (·.data.toList)) [32]).toArray⟩ : ByteArray) = toB (fmtB ⟨dy, 4, si, l, rm, c, false⟩)) := rfl
    go_wp2_with (first
      | (at_builtin; refine wpList_append_sl rfl _ _ rfl elStr str_len str_one (base := w.heap.size + 1) (n := 2) (m := 1) (v := .slice (some ⟨g, 0, none⟩) 2 2) rfl (hown.alloc _) rfl (ys := [rm]) rfl (sl_str (t := 9) (fr := (0, 0)) (G_new _ _ _ (by first | rfl | (simp [ext_size]; done)))) (by simp [maxLen]) (by omega) (by simp; omega) ?_; intro v' w1 h1 h2 h3
         have hB1 : Below (w.heap.size + 1) W0 w1 := below_own2 (B_alloc (Below.refl _ _) _ (by omega)) (hown.alloc _) h2
         have k6 : w1.cell? ⟨w.heap.size, 6, none⟩ = some (.bool false) := (hB1.cell (p := ⟨w.heap.size, 6, none⟩) (Nat.lt_succ_self _)).trans (by simp [World.cell?, hbox])
         have hown2 : w1.ownsRow (w.heap.size + 1) 9 1 v' [toB gatherB, toB (Lib.itoa dy), rm].length ([toB gatherB, toB (Lib.itoa dy), rm].flatMap strCells) := by simpa using h1
         obtain ⟨A1, c1, rfl, hS1, hlc⟩ := own_sl str_len hown2
         obtain ⟨b1, o1, rfl, hb1, hc1⟩ := hS1 (by simp)
         have HC1 := Lib.hid hc1
         clear h1 h2 h3 hown2 hS1 hc1)
      | (go_at_call 35; refine (Tryz.strings_Join b1 o1 c1 [toB gatherB, toB (Lib.itoa dy), rm] ⟨#[32]⟩ _ (fun j x hj => by simpa using HC1.out j x hj 0 _ rfl) hb1 (by simp) hlc (by exact Nat.le_trans hjl (by decide))).mono ?_; rintro e wq ⟨rfl, hBj⟩))
    go_ret2
    exact Ret.of rfl ((hB0.trans (hB1.mono (by omega))).trans (hBj.mono (by have := hB0.size; have := hB1.size; omega)))
end Go.Proofs.YtpohkolapgofdaaGreatDoor
namespace Go.Proofs.YtpohkolapgofdaaGreatDoor
open Go.RowKit
attribute [local go_sem] World.cell?_alloc_mark ext_size ext_cell ext_frozen lt_add_r lt_add_r2 lt_add_r3 lt_add_r4 lt_add_r5 lt_add_r6 lt_add_r7 lt_add_r8
set_option maxRecDepth 100000 in
set_option maxHeartbeats 2000000 in
theorem pFormat_exhume (dy : Int) (si : ByteArray) (l : Int) (rm : ByteArray) (c : Int) (w : World) (hL : Laid w) (h : checkEventP ⟨dy, 1, si, l, rm, c, false⟩ = 0) (hs : si.size ≤ 1000) (hr : rm.size ≤ 1000) :
    Calls Tryz.prog 8 #[.agg #[.int .i64 dy, .int .i64 1, .string si, .int .i64 l, .string rm, .int .i64 c, .bool false]] w (Ret w (.tuple #[.string (toB (fmtB ⟨dy, 1, si, l, rm, c, false⟩)), .int .i64 0])) := by
  have hok := (ok_of h).day
  dsimp only at hok
  go_enter Tryz.func8, Tryz.ntmps8
  go_wp2_with (go_at_call 10; refine (checkEvent_any dy 1 si l rm c false _ (by omega) (by omega)).mono ?_; rintro e wq ⟨rfl, z1, rfl⟩; rw [h])
  apply wp_region_inv (V := holdsL [isBlk (w.heap.size + 1) 5 (kindsS.map Value.string).toArray 9, isV (.pointer (some ⟨w.heap.size, 1, none⟩)), isV (.int .i64 1), isPtr (.string (toB exhumeB)), isV (.string (toB exhumeB)), isV (.pointer (some ⟨w.heap.size, 0, none⟩)), isV (.int .i64 dy), isV (.string (toB (Lib.itoa dy))), isBlk (w.heap.size + 1) 2 #[.string (toB exhumeB), .string (toB (Lib.itoa dy))] 9, isBlk (w.heap.size + 1) 2 #[.string (toB exhumeB), .string (toB (Lib.itoa dy))] 9])
  case hm => kernel_rfl
  case hd => kernel_rfl
  case hf => kernel_rfl
  case hsel => kernel_rfl
  case hmono => exact holdsL_mono (by simp [mono_V, mono_blk, mono_ptr])
  case hA =>
    intro f
    simp [fillTo, Act.put]
    rfl
  case hstep =>
    simp only [stepsFrom, and_true]
    refine ⟨?_, ?_, ?_, ?_, ?_, ?_, ?_, ?_, ?_, ?_⟩
    · intro f z h
      unfold getsV
      go_simp
      refine (words_any _).mono ?_
      rintro e wq ⟨q, rfl, hqb, hq, z2, rfl⟩
      exact ⟨_, rfl, ⟨q, rfl, by simp [ext_size] at hqb; omega, hq⟩, _, rfl⟩
    · intro f z h
      first
        | (clear h; unfold getsV; go_simp; exact ⟨rfl, stays _⟩)
        | (simp [Region.binds, holdsL, isV] at h; unfold getsV; go_simp; exact ⟨rfl, stays _⟩)
    · intro f z h
      first
        | (clear h; unfold getsV; go_simp; exact ⟨rfl, stays _⟩)
        | (simp [Region.binds, holdsL, isV] at h; unfold getsV; go_simp; exact ⟨rfl, stays _⟩)
    · intro f z h
      obtain ⟨g, hf, -, hg⟩ := h ⟨0, .data⟩ (by simp) rfl
      have h2 : f 2 = .int .i64 1 := h ⟨2, .data⟩ (by simp) rfl
      clear h
      unfold getsV
      go_simp
      exact ⟨⟨g, 1, rfl, blk_lt hg, by simp [World.cell?, hg, kindsS, kindsB]⟩, stays _⟩
    · intro f z h
      obtain ⟨b, o, hf, hb, hc⟩ := h ⟨3, .data⟩ (by simp) rfl
      clear h
      unfold getsV
      go_simp
      exact ⟨rfl, stays _⟩
    · intro f z h
      first
        | (clear h; unfold getsV; go_simp; exact ⟨rfl, stays _⟩)
        | (simp [Region.binds, holdsL, isV] at h; unfold getsV; go_simp; exact ⟨rfl, stays _⟩)
    · intro f z h
      first
        | (clear h; unfold getsV; go_simp; exact ⟨rfl, stays _⟩)
        | (simp [Region.binds, holdsL, isV] at h; unfold getsV; go_simp; exact ⟨rfl, stays _⟩)
    · intro f z h
      have h2 : f 6 = .int .i64 dy := h ⟨6, .data⟩ (by simp) rfl
      clear h
      unfold getsV
      go_simp
      refine (pdecimal_any dy _ (hL.keep (n := w.heap.size) (by repeat (first | exact B_refl | exact Below.refl _ _ | assumption | with_reducible refine B_alloc ?_ _ | with_reducible refine B_ext ?_ _ | with_reducible refine B_drew ?_ | with_reducible refine B_drewN ?_ _ | with_reducible refine B_set ?_ (by simp; omega) _))) (by omega) (by omega)).mono ?_
      rintro e wq ⟨rfl, z2, rfl⟩
      exact ⟨_, rfl, rfl, _, rfl⟩
    · intro f z h
      have h4 : f 4 = .string (toB exhumeB) := h ⟨4, .data⟩ (by simp) rfl
      have h7 : f 7 = .string (toB (Lib.itoa dy)) := h ⟨7, .data⟩ (by simp) rfl
      clear h
      unfold getsV
      go_simp
      refine ⟨⟨_, rfl, ?_, ?_⟩, ext_below ?_⟩
      · first | omega | (simp [ext_size]; omega)
      · (repeat (first | with_reducible exact G_new _ _ _ (by simp) | with_reducible exact G_new _ _ _ (by simp [ext_size]) | with_reducible refine G_drew ?_ | with_reducible refine G_ext ?_ | with_reducible refine G_alloc ?_))
      · repeat (first | exact B_refl | exact Below.refl _ _ | assumption | with_reducible refine B_alloc ?_ _ | with_reducible refine B_ext ?_ _ | with_reducible refine B_drew ?_ | with_reducible refine B_drewN ?_ _ | with_reducible refine B_set ?_ (by simp; omega) _)
    · intro f z h
      obtain ⟨g, hf, hb, hg⟩ := h ⟨8, .data⟩ (by simp) rfl
      clear h
      unfold getsV
      go_simp
      exact ⟨⟨g, rfl, hb, hg⟩, stays _⟩
  case hend =>
    intro f z h
    obtain ⟨g, hf, hb, hg⟩ := h 9 (by decide)
    rw [hf]
    clear h hf
    have hown := own_blk (xs := [toB exhumeB, toB (Lib.itoa dy)]) (t := 9) (n := 2) hg hb rfl (by decide)
    clear hg
    generalize hW0 : World.ext (World.drew (World.ext (w.alloc _) z1)) z = W0 at *
    have hbox : W0.heap[w.heap.size]? = some (.cells #[.int .i64 dy, .int .i64 1, .string si, .int .i64 l, .string rm, .int .i64 c, .bool false] 23) := by rw [← hW0]; (repeat (first | with_reducible exact G_new _ _ _ (by simp) | with_reducible exact G_new _ _ _ (by simp [ext_size]) | with_reducible refine G_drew ?_ | with_reducible refine G_ext ?_ | with_reducible refine G_alloc ?_))
    have hB0 : Below w.heap.size w W0 := by rw [← hW0]; repeat (first | exact B_refl | exact Below.refl _ _ | assumption | with_reducible refine B_alloc ?_ _ | with_reducible refine B_ext ?_ _ | with_reducible refine B_drew ?_ | with_reducible refine B_drewN ?_ _ | with_reducible refine B_set ?_ (by simp; omega) _)
    have hz := blk_lt hbox
    clear hW0
    have g1 : W0.cell? ⟨w.heap.size, 1, none⟩ = some (.int .i64 1) := by simp [World.cell?, hbox]
    have g4 : W0.cell? ⟨w.heap.size, 4, none⟩ = some (.string rm) := by simp [World.cell?, hbox]
    have hjl : (Lib.join ([toB exhumeB, toB (Lib.itoa dy), rm].map (·.data.toList)) [32]).length ≤ 2000 := by
      have h1 := itoa_small (n := dy) (by omega) (by omega)
      have h2 : rm.data.toList.length = rm.size := bs_len rm
      simp [Lib.join, toB, exhumeB]
      omega
    have HX : Hid ((⟨(Lib.join ([toB exhumeB, toB (Lib.itoa dy), rm].map (·.data.toList)) [32]).toArray⟩ : ByteArray) = toB (fmtB ⟨dy, 1, si, l, rm, c, false⟩)) := rfl
    go_wp2_with (first
      | (at_builtin; refine wpList_append_sl rfl _ _ rfl elStr str_len str_one (base := w.heap.size + 1) (n := 2) (m := 1) (v := .slice (some ⟨g, 0, none⟩) 2 2) rfl (hown.alloc _) rfl (ys := [rm]) rfl (sl_str (t := 9) (fr := (0, 0)) (G_new _ _ _ (by first | rfl | (simp [ext_size]; done)))) (by simp [maxLen]) (by omega) (by simp; omega) ?_; intro v' w1 h1 h2 h3
         have hB1 : Below (w.heap.size + 1) W0 w1 := below_own2 (B_alloc (Below.refl _ _) _ (by omega)) (hown.alloc _) h2
         have k6 : w1.cell? ⟨w.heap.size, 6, none⟩ = some (.bool false) := (hB1.cell (p := ⟨w.heap.size, 6, none⟩) (Nat.lt_succ_self _)).trans (by simp [World.cell?, hbox])
         have hown2 : w1.ownsRow (w.heap.size + 1) 9 1 v' [toB exhumeB, toB (Lib.itoa dy), rm].length ([toB exhumeB, toB (Lib.itoa dy), rm].flatMap strCells) := by simpa using h1
         obtain ⟨A1, c1, rfl, hS1, hlc⟩ := own_sl str_len hown2
         obtain ⟨b1, o1, rfl, hb1, hc1⟩ := hS1 (by simp)
         have HC1 := Lib.hid hc1
         clear h1 h2 h3 hown2 hS1 hc1)
      | (go_at_call 35; refine (Tryz.strings_Join b1 o1 c1 [toB exhumeB, toB (Lib.itoa dy), rm] ⟨#[32]⟩ _ (fun j x hj => by simpa using HC1.out j x hj 0 _ rfl) hb1 (by simp) hlc (by exact Nat.le_trans hjl (by decide))).mono ?_; rintro e wq ⟨rfl, hBj⟩))
    go_ret2
    exact Ret.of rfl ((hB0.trans (hB1.mono (by omega))).trans (hBj.mono (by have := hB0.size; have := hB1.size; omega)))
set_option maxRecDepth 100000 in
set_option maxHeartbeats 2000000 in
theorem pFormat_exhumeO (dy : Int) (si : ByteArray) (l : Int) (rm : ByteArray) (c : Int) (w : World) (hL : Laid w) (h : checkEventP ⟨dy, 1, si, l, rm, c, true⟩ = 0) (hs : si.size ≤ 1000) (hr : rm.size ≤ 1000) :
    Calls Tryz.prog 8 #[.agg #[.int .i64 dy, .int .i64 1, .string si, .int .i64 l, .string rm, .int .i64 c, .bool true]] w (Ret w (.tuple #[.string (toB (fmtB ⟨dy, 1, si, l, rm, c, true⟩)), .int .i64 0])) := by
  have hok := (ok_of h).day
  dsimp only at hok
  go_enter Tryz.func8, Tryz.ntmps8
  go_wp2_with (go_at_call 10; refine (checkEvent_any dy 1 si l rm c true _ (by omega) (by omega)).mono ?_; rintro e wq ⟨rfl, z1, rfl⟩; rw [h])
  apply wp_region_inv (V := holdsL [isBlk (w.heap.size + 1) 5 (kindsS.map Value.string).toArray 9, isV (.pointer (some ⟨w.heap.size, 1, none⟩)), isV (.int .i64 1), isPtr (.string (toB exhumeB)), isV (.string (toB exhumeB)), isV (.pointer (some ⟨w.heap.size, 0, none⟩)), isV (.int .i64 dy), isV (.string (toB (Lib.itoa dy))), isBlk (w.heap.size + 1) 2 #[.string (toB exhumeB), .string (toB (Lib.itoa dy))] 9, isBlk (w.heap.size + 1) 2 #[.string (toB exhumeB), .string (toB (Lib.itoa dy))] 9])
  case hm => kernel_rfl
  case hd => kernel_rfl
  case hf => kernel_rfl
  case hsel => kernel_rfl
  case hmono => exact holdsL_mono (by simp [mono_V, mono_blk, mono_ptr])
  case hA =>
    intro f
    simp [fillTo, Act.put]
    rfl
  case hstep =>
    simp only [stepsFrom, and_true]
    refine ⟨?_, ?_, ?_, ?_, ?_, ?_, ?_, ?_, ?_, ?_⟩
    · intro f z h
      unfold getsV
      go_simp
      refine (words_any _).mono ?_
      rintro e wq ⟨q, rfl, hqb, hq, z2, rfl⟩
      exact ⟨_, rfl, ⟨q, rfl, by simp [ext_size] at hqb; omega, hq⟩, _, rfl⟩
    · intro f z h
      first
        | (clear h; unfold getsV; go_simp; exact ⟨rfl, stays _⟩)
        | (simp [Region.binds, holdsL, isV] at h; unfold getsV; go_simp; exact ⟨rfl, stays _⟩)
    · intro f z h
      first
        | (clear h; unfold getsV; go_simp; exact ⟨rfl, stays _⟩)
        | (simp [Region.binds, holdsL, isV] at h; unfold getsV; go_simp; exact ⟨rfl, stays _⟩)
    · intro f z h
      obtain ⟨g, hf, -, hg⟩ := h ⟨0, .data⟩ (by simp) rfl
      have h2 : f 2 = .int .i64 1 := h ⟨2, .data⟩ (by simp) rfl
      clear h
      unfold getsV
      go_simp
      exact ⟨⟨g, 1, rfl, blk_lt hg, by simp [World.cell?, hg, kindsS, kindsB]⟩, stays _⟩
    · intro f z h
      obtain ⟨b, o, hf, hb, hc⟩ := h ⟨3, .data⟩ (by simp) rfl
      clear h
      unfold getsV
      go_simp
      exact ⟨rfl, stays _⟩
    · intro f z h
      first
        | (clear h; unfold getsV; go_simp; exact ⟨rfl, stays _⟩)
        | (simp [Region.binds, holdsL, isV] at h; unfold getsV; go_simp; exact ⟨rfl, stays _⟩)
    · intro f z h
      first
        | (clear h; unfold getsV; go_simp; exact ⟨rfl, stays _⟩)
        | (simp [Region.binds, holdsL, isV] at h; unfold getsV; go_simp; exact ⟨rfl, stays _⟩)
    · intro f z h
      have h2 : f 6 = .int .i64 dy := h ⟨6, .data⟩ (by simp) rfl
      clear h
      unfold getsV
      go_simp
      refine (pdecimal_any dy _ (hL.keep (n := w.heap.size) (by repeat (first | exact B_refl | exact Below.refl _ _ | assumption | with_reducible refine B_alloc ?_ _ | with_reducible refine B_ext ?_ _ | with_reducible refine B_drew ?_ | with_reducible refine B_drewN ?_ _ | with_reducible refine B_set ?_ (by simp; omega) _))) (by omega) (by omega)).mono ?_
      rintro e wq ⟨rfl, z2, rfl⟩
      exact ⟨_, rfl, rfl, _, rfl⟩
    · intro f z h
      have h4 : f 4 = .string (toB exhumeB) := h ⟨4, .data⟩ (by simp) rfl
      have h7 : f 7 = .string (toB (Lib.itoa dy)) := h ⟨7, .data⟩ (by simp) rfl
      clear h
      unfold getsV
      go_simp
      refine ⟨⟨_, rfl, ?_, ?_⟩, ext_below ?_⟩
      · first | omega | (simp [ext_size]; omega)
      · (repeat (first | with_reducible exact G_new _ _ _ (by simp) | with_reducible exact G_new _ _ _ (by simp [ext_size]) | with_reducible refine G_drew ?_ | with_reducible refine G_ext ?_ | with_reducible refine G_alloc ?_))
      · repeat (first | exact B_refl | exact Below.refl _ _ | assumption | with_reducible refine B_alloc ?_ _ | with_reducible refine B_ext ?_ _ | with_reducible refine B_drew ?_ | with_reducible refine B_drewN ?_ _ | with_reducible refine B_set ?_ (by simp; omega) _)
    · intro f z h
      obtain ⟨g, hf, hb, hg⟩ := h ⟨8, .data⟩ (by simp) rfl
      clear h
      unfold getsV
      go_simp
      exact ⟨⟨g, rfl, hb, hg⟩, stays _⟩
  case hend =>
    intro f z h
    obtain ⟨g, hf, hb, hg⟩ := h 9 (by decide)
    rw [hf]
    clear h hf
    have hown := own_blk (xs := [toB exhumeB, toB (Lib.itoa dy)]) (t := 9) (n := 2) hg hb rfl (by decide)
    clear hg
    generalize hW0 : World.ext (World.drew (World.ext (w.alloc _) z1)) z = W0 at *
    have hbox : W0.heap[w.heap.size]? = some (.cells #[.int .i64 dy, .int .i64 1, .string si, .int .i64 l, .string rm, .int .i64 c, .bool true] 23) := by rw [← hW0]; (repeat (first | with_reducible exact G_new _ _ _ (by simp) | with_reducible exact G_new _ _ _ (by simp [ext_size]) | with_reducible refine G_drew ?_ | with_reducible refine G_ext ?_ | with_reducible refine G_alloc ?_))
    have hB0 : Below w.heap.size w W0 := by rw [← hW0]; repeat (first | exact B_refl | exact Below.refl _ _ | assumption | with_reducible refine B_alloc ?_ _ | with_reducible refine B_ext ?_ _ | with_reducible refine B_drew ?_ | with_reducible refine B_drewN ?_ _ | with_reducible refine B_set ?_ (by simp; omega) _)
    have hz := blk_lt hbox
    clear hW0
    have g1 : W0.cell? ⟨w.heap.size, 1, none⟩ = some (.int .i64 1) := by simp [World.cell?, hbox]
    have g4 : W0.cell? ⟨w.heap.size, 4, none⟩ = some (.string rm) := by simp [World.cell?, hbox]
    have hjl : (Lib.join ([toB exhumeB, toB (Lib.itoa dy), rm, toB orderB].map (·.data.toList)) [32]).length ≤ 2000 := by
      have h1 := itoa_small (n := dy) (by omega) (by omega)
      have h2 : rm.data.toList.length = rm.size := bs_len rm
      simp [Lib.join, toB, exhumeB, orderB]
      omega
    have HX : Hid ((⟨(Lib.join ([toB exhumeB, toB (Lib.itoa dy), rm, toB orderB].map (·.data.toList)) [32]).toArray⟩ : ByteArray) = toB (fmtB ⟨dy, 1, si, l, rm, c, true⟩)) := rfl
    go_wp2_with (first
      | (at_builtin; refine wpList_append_sl rfl _ _ rfl elStr str_len str_one (base := w.heap.size + 1) (n := 2) (m := 1) (v := .slice (some ⟨g, 0, none⟩) 2 2) rfl (hown.alloc _) rfl (ys := [rm]) rfl (sl_str (t := 9) (fr := (0, 0)) (G_new _ _ _ (by first | rfl | (simp [ext_size]; done)))) (by simp [maxLen]) (by omega) (by simp; omega) ?_; intro v' w1 h1 h2 h3
         have hB1 : Below (w.heap.size + 1) W0 w1 := below_own2 (B_alloc (Below.refl _ _) _ (by omega)) (hown.alloc _) h2
         have k6 : w1.cell? ⟨w.heap.size, 6, none⟩ = some (.bool true) := (hB1.cell (p := ⟨w.heap.size, 6, none⟩) (Nat.lt_succ_self _)).trans (by simp [World.cell?, hbox])
         have hown2 : w1.ownsRow (w.heap.size + 1) 9 1 v' 3 ([toB exhumeB, toB (Lib.itoa dy), rm].flatMap strCells) := by simpa using h1
         have hz1 : w.heap.size + 1 ≤ w1.heap.size := Nat.le_trans (by omega) hB1.size
         clear h1 h2 h3)
      | (at_builtin; refine wpList_append_sl rfl _ _ rfl elStr str_len str_one (base := w.heap.size + 1) (n := 3) (m := 1) (v := v') rfl (hown2.alloc _) rfl (ys := [toB orderB]) rfl (sl_str (t := 9) (fr := (0, 0)) (G_new _ _ _ (by first | rfl | (simp [ext_size]; done)))) (by simp [maxLen]) (by omega) (by simp; omega) ?_; intro v2 w2 h1 h2 h3
         have hB2 : Below (w.heap.size + 1) w1 w2 := below_own2 (B_alloc (Below.refl _ _) _ (by omega)) (hown2.alloc _) h2
         have hown3 : w2.ownsRow (w.heap.size + 1) 9 1 v2 [toB exhumeB, toB (Lib.itoa dy), rm, toB orderB].length ([toB exhumeB, toB (Lib.itoa dy), rm, toB orderB].flatMap strCells) := by simpa using h1
         obtain ⟨A1, c1, rfl, hS1, hlc⟩ := own_sl str_len hown3
         obtain ⟨b1, o1, rfl, hb1, hc1⟩ := hS1 (by simp)
         have HC1 := Lib.hid hc1
         clear h1 h2 h3 hown2 hown3 hS1 hc1)
      | (go_at_call 35; refine (Tryz.strings_Join b1 o1 c1 [toB exhumeB, toB (Lib.itoa dy), rm, toB orderB] ⟨#[32]⟩ _ (fun j x hj => by simpa using HC1.out j x hj 0 _ rfl) hb1 (by simp) hlc (by exact Nat.le_trans hjl (by decide))).mono ?_; rintro e wq ⟨rfl, hBj⟩))
    go_ret2
    exact Ret.of rfl (((hB0.trans (hB1.mono (by omega))).trans (hB2.mono (by omega))).trans (hBj.mono (by have := hB0.size; have := hB1.size; have := hB2.size; omega)))
end Go.Proofs.YtpohkolapgofdaaGreatDoor
namespace Go.Proofs.YtpohkolapgofdaaGreatDoor
open Go.RowKit
attribute [local go_sem] World.cell?_alloc_mark ext_size ext_cell ext_frozen lt_add_r lt_add_r2 lt_add_r3 lt_add_r4 lt_add_r5 lt_add_r6 lt_add_r7 lt_add_r8

theorem sl_own {w : World} {g : Nat} {xs : List ByteArray} {t : TypeId} (hg : w.heap[g]? = some (.cells (xs.map Value.string).toArray t (0, 0))) : ∀ j u, (xs.map Value.string)[j]? = some u → w.cell? ((⟨g, 0, none⟩ : Addr).add j) = some u := by
  intro j u hj
  rw [show (⟨g, 0, none⟩ : Addr).add j = ⟨g, j, none⟩ by simp [Addr.add]; exact fun h => h.symm]
  simp only [World.cell?, hg]
  simpa using hj
theorem run_append_full {P : Program} {t e : TypeId} (T : ElTy P t e 1 16) {w : World} {base ty g n m c : Nat} {xs : List ByteArray} (hg : w.heap[g]? = some (.cells (xs.map Value.string).toArray e (0, 0))) (hbg : base ≤ g) (hn : xs.length = n) (hn2 : n ≤ 1000)
    {A : Option Addr} {ys : List ByteArray} (hm : m = ys.length) (hS : Sl w 1 strCells A ys) (hy : 1 ≤ ys.length) (hys : ys.length ≤ 1000) :
    ∃ v' z, (Builtin.append_ #[t, t] ty #[.slice (some ⟨g, 0, none⟩) n n, .slice A m c]).run P w = .ok v' (w.ext z) ∧ (w.ext z).ownsRow base e 1 v' (n + m) ((xs ++ ys).flatMap strCells) := by
  have hown := own_blk (base := base) (t := e) hg hbg hn hn2
  have hbase : base ≤ w.heap.size := Nat.le_trans hbg (Nat.le_of_lt (blk_lt hg))
  have hb1 : (n + m) * 16 ≤ 140737488355328 := by omega
  have hb2 : n + m ≤ maxLen := by simp [maxLen]; omega
  obtain ⟨v', w', hrun, h2, h3, h4⟩ := run_append_sl (ty := ty) (c := c) T str_len str_one hown hm hS hb2 hb1 hbase
  obtain ⟨i, z, hi, hz, hs, hb, hzs⟩ := T.hi
  have ht := T.ht
  subst hm
  obtain ⟨b, off, rfl, hb0, hc⟩ := hS (by omega)
  have hfl := flat_len strCells 1 str_len ys
  have hr := run_append_grow (P := P) w t ty e i z ht hi hz ⟨g, 0, none⟩ n n (xs.map Value.string) (by rw [List.length_map, hs]; omega) (sl_own hg) ⟨b, off, none⟩ ys.length c (ys.flatMap strCells) (by rw [hfl, hs]) (sl_flat str_len hc) (by omega) (by omega) (growslice_fits (by omega) (by rw [hb]; exact hb1))
  rw [hr] at hrun
  simp only [Result.ok.injEq] at hrun
  obtain ⟨rfl, rfl⟩ := hrun
  have hB : Below w.heap.size w (w.drew.alloc (.cells ((xs.map Value.string).toArray ++ (ys.flatMap strCells).toArray ++ Builtin.zeroCells z.cells (grownCap w (n + ys.length) n e - (n + ys.length))) e)) := B_alloc (B_drew (Below.refl _ _)) _ (Nat.le_refl _)
  obtain ⟨z', hz'⟩ := ext_below hB
  rw [List.flatMap_append]
  exact ⟨_, z', by rw [← hz']; exact hr, by rw [← hz']; exact h2⟩
theorem gets_append_full {P : Program} {t e : TypeId} {o : Oper} {a : Act} {K : Value → World → Prop} (s x : Operand) (ho : o.op = .call { callee := .builtin .append, args := #[s, x], argTypes := #[t, t] }) (T : ElTy P t e 1 16) {w : World} {base g n m c : Nat} {xs : List ByteArray}
    (hs : a.eval s = .slice (some ⟨g, 0, none⟩) n n) (hg : w.heap[g]? = some (.cells (xs.map Value.string).toArray e (0, 0))) (hbg : base ≤ g) (hn : xs.length = n) (hn2 : n ≤ 1000)
    {A : Option Addr} {ys : List ByteArray} (hx : a.eval x = .slice A m c) (hm : m = ys.length) (hS : Sl w 1 strCells A ys) (hy : 1 ≤ ys.length) (hys : ys.length ≤ 1000)
    (h : ∀ v' z, (w.ext z).ownsRow base e 1 v' (n + m) ((xs ++ ys).flatMap strCells) → K v' (w.ext z)) : getsV P o a w K := by
  obtain ⟨v', z, hrun, h2⟩ := run_append_full (ty := o.type) (c := c) T hg hbg hn hn2 hm hS hy hys
  unfold getsV execOp
  simp only [ho, resolve, invoke, builtin, Sem.run_bind, Sem.run_pure, Result.andThen_ok, List.map_toArray, List.map_cons, List.map_nil, hs, hx, hrun]
  exact h v' z h2
def isOwn (base n : Nat) (cs : List Value) (v : Value) (W : World) : Prop := W.ownsRow base 9 1 v n cs
theorem mono_own (base n : Nat) (cs : List Value) : Mono (isOwn base n cs) := fun _ _ z h => own_ext h z
end Go.Proofs.YtpohkolapgofdaaGreatDoor
