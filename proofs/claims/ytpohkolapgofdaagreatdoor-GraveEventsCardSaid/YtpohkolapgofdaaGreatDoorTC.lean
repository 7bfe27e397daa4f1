/- Walk of the reference: a text cut at its blanks. -/
import Derived.Test.YtpohkolapgofdaaGreatDoorTB
import Derived.Test.YtpohkolapgofdaaGreatDoorW1
namespace Go.Proofs.YtpohkolapgofdaaGreatDoor
open Go.RowKit
attribute [local go_sem] World.cell?_alloc_mark ext_size ext_cell ext_frozen lt_add_r lt_add_r2 lt_add_r3 lt_add_r4 lt_add_r5 lt_add_r6 lt_add_r7 lt_add_r8

def toB (l : Bs) : ByteArray := ⟨l.toArray⟩
def strCells (s : ByteArray) : List Value := [.string s]
theorem str_len (s : ByteArray) : (strCells s).length = 1 := rfl
theorem str_one (s : ByteArray) : ∀ u ∈ strCells s, u.oneCell' = true := by simp [strCells, Value.oneCell']
theorem elStr : ElTy Tryz.prog 67 9 1 16 := elTy_of (z := .string ⟨#[]⟩) (by kernel_rfl) (by kernel_rfl) rfl (by decide)
theorem sl_str {w : World} {q : Nat} {x : ByteArray} {t : TypeId} {fr : Nat × Nat} (h : w.heap[q]? = some (.cells #[.string x] t fr)) : Sl w 1 strCells (some ⟨q, 0, none⟩) [x] :=
  sl_block str_len h (by simp [strCells])
/-- A slice of texts of the call's own comes back. -/
def StrsPost (w : World) (l : List ByteArray) (e : Ending) (w' : World) : Prop :=
  ∃ v, e = .returned v ∧ w'.ownsRow w.heap.size 9 1 v l.length (l.flatMap strCells) ∧ ∃ z, w' = w.ext z
theorem own_empty {w : World} {base g size : Nat} {e : TypeId} (hg : w.heap[g]? = some (.cells #[] e (0, 0))) (hbg : base ≤ g) : w.ownsRow base e size (.slice (some ⟨g, 0, none⟩) 0 0) 0 [] :=
  ⟨by simp, .inr ⟨g, 0, #[], rfl, hbg, hg, Nat.le_refl _, Nat.zero_le _, by simp, by simp⟩⟩
theorem own_ge2 {W : World} {base size n : Nat} {e : TypeId} {v : Value} {xs : List Value} (h : W.ownsRow base e size v n xs) : ∀ g, v.ownBlock = some g → base ≤ g := by
  rcases h.2 with ⟨rfl, _⟩ | ⟨g, cap, cur, rfl, hb, _⟩
  · intro g hg; cases hg
  · intro r hr
    have : g = r := by simpa [Value.ownBlock] using hr
    omega
theorem below_own2 {W0 W w1 : World} {n size k : Nat} {e : TypeId} {v : Value} {xs : List Value} (hB : Below n W0 W) (h : W.ownsRow n e size v k xs) (hg : W.grownBy w1 v.ownBlock) (hn : n ≤ W0.heap.size := by omega) : Below n W0 w1 :=
  hB.grown hg (Nat.le_trans hn hB.size) (fun j hj => own_ge2 h j hj)
theorem bs_toB (l : Bs) : bs (toB l) = l := rfl
theorem toB_bs (s : ByteArray) : toB (bs s) = s := bs_back s
theorem bs_cut (s : ByteArray) (a j : Nat) : bs (s.extract a j) = ((bs s).drop a).take (j - a) := by
  unfold bs
  rw [ByteArray.data_extract, Array.toList_extract, List.extract]
/-- The words of a text. -/
def cutS (s : ByteArray) : List ByteArray := (cutB (bs s)).map toB
theorem cutS_of {s : ByteArray} {ws : List ByteArray} (h : ws.map bs = cutB (bs s)) : ws = cutS s := by
  unfold cutS
  rw [← h, List.map_map]
  have : toB ∘ bs = id := by funext x; exact toB_bs x
  rw [this, List.map_id]
def CutI (s : ByteArray) (dn : List ByteArray) (a j : Nat) : Prop := dn.map bs ++ cutB ((bs s).drop a) = cutB (bs s) ∧ ∀ b ∈ ((bs s).drop a).take (j - a), b ≠ 32
theorem cutI_start (s : ByteArray) : CutI s [] 0 0 := ⟨rfl, by simp⟩
theorem cut_split {s : ByteArray} {a j : Nat} (ha : a ≤ j) (hj : j < s.size) : (bs s).drop a = ((bs s).drop a).take (j - a) ++ s[j] :: (bs s).drop (j + 1) := by
  have h1 : (bs s).drop j = ((bs s).drop a).drop (j - a) := by rw [List.drop_drop]; congr 1; omega
  rw [← bs_at hj, h1]
  exact (List.take_append_drop _ _).symm
theorem cutI_blank {s : ByteArray} {dn : List ByteArray} {a j : Nat} (h : CutI s dn a j) (ha : a ≤ j) (hj : j < s.size) (hb : s[j] = 32) : CutI s (dn ++ [s.extract a j]) (j + 1) (j + 1) := by
  refine ⟨?_, by simp⟩
  rw [← h.1, cut_split ha hj, hb, cut_app _ _ h.2, List.map_append, List.append_assoc]
  congr 1
  rw [← bs_cut]
  rfl
theorem cutI_step {s : ByteArray} {dn : List ByteArray} {a j : Nat} (h : CutI s dn a j) (ha : a ≤ j) (hj : j < s.size) (hb : s[j] ≠ 32) : CutI s dn a (j + 1) := by
  refine ⟨h.1, ?_⟩
  have h1 := cut_split ha hj
  have h2 : (((bs s).drop a).take (j - a)).length = j - a := by rw [List.length_take, List.length_drop, bs_len]; omega
  rw [h1, show j + 1 - a = (((bs s).drop a).take (j - a)).length + 1 by omega, List.take_append]
  intro b hbm
  rcases List.mem_append.1 hbm with hbm | hbm
  · exact h.2 b (List.mem_of_mem_take hbm)
  · rw [show (((bs s).drop a).take (j - a)).length + 1 - (((bs s).drop a).take (j - a)).length = 1 by omega, List.take_succ_cons, List.take_zero, List.mem_singleton] at hbm
    rw [hbm]
    exact hb
theorem cutI_end {s : ByteArray} {dn : List ByteArray} {a : Nat} (h : CutI s dn a s.size) : dn ++ [s.extract a s.size] = cutS s := by
  apply cutS_of
  rw [← h.1, List.map_append]
  congr 1
  have h1 : ((bs s).drop a).take (s.size - a) = (bs s).drop a := List.take_of_length_le (by rw [List.length_drop, bs_len]; exact Nat.le_refl _)
  have h2 := h.2
  rw [h1] at h2
  rw [cut_one _ h2, List.map_cons, List.map_nil, bs_cut, h1]
set_option maxRecDepth 100000 in
set_option maxHeartbeats 2000000 in
theorem cut_any (s : ByteArray) (w : World) (hs : s.size ≤ 100000) :
    Calls Tryz.prog 32 #[.string s, .int .u8 32] w (StrsPost w (cutS s)) := by
  go_enter Tryz.func32, Tryz.ntmps32
  go_wp2_with fail
  go_loopw [5, 6, 7] (fun ov st i wr => ∃ (dn : List ByteArray) (a j : Nat), st = .int .i64 a ∧ i = .int .i64 j ∧ a ≤ j ∧ j ≤ s.size ∧ dn.length ≤ a ∧ Hid (CutI s dn a j) ∧ wr.ownsRow w.heap.size 9 1 ov dn.length (dn.flatMap strCells) ∧ Below w.heap.size w wr) (fun _ _ i _ => s.size - (intOf i).toNat)
  case atStart => exact ⟨[], 0, 0, rfl, rfl, Nat.le_refl _, Nat.zero_le _, Nat.le_refl _, cutI_start s, own_empty (G_new _ _ _ rfl) (Nat.le_refl _), by repeat (first | exact B_refl | exact Below.refl _ _ | assumption | with_reducible refine B_alloc ?_ _ | with_reducible refine B_ext ?_ _ | with_reducible refine B_drew ?_ | with_reducible refine B_drewN ?_ _ | with_reducible refine B_set ?_ (by simp; omega) _)⟩
  case round =>
    obtain ⟨dn, a, j, rfl, rfl, haj, hj, hdn, hI, hown, hB⟩ := hrel
    have hwN : w.heap.size ≤ wr.heap.size := hB.size
    by_cases hlt : j < s.size
    · by_cases hb : s[j].toNat = 32
      · have HN := Lib.hid (cutI_blank hI.out haj hlt (UInt8.toNat_inj.1 hb))
        go_wp2_with (at_builtin; refine wpList_append_sl rfl _ _ rfl elStr str_len str_one (base := w.heap.size) (n := dn.length) (m := 1) (v := u5) rfl (hown.alloc _) rfl (ys := [s.extract a j]) rfl (sl_str (t := 9) (fr := (0, 0)) (G_new _ _ _ (by first | rfl | (simp [ext_size]; done)))) (by simp [maxLen]; omega) (by omega) (by simp; omega) ?_; intro v' w1 h1 h2 h3)
        have hown2 : w1.ownsRow w.heap.size 9 1 v' (dn ++ [s.extract a j]).length ((dn ++ [s.extract a j]).flatMap strCells) := by simpa using h1
        have hB2 : Below w.heap.size w w1 := below_own2 (B_alloc hB _) (hown.alloc _) h2
        clear h1 h2 h3
        go_wp2_with fail
        go_roundw
        case rel => exact ⟨dn ++ [s.extract a j], j + 1, j + 1, by go_num, by go_num, Nat.le_refl _, hlt, by simp; omega, HN, hown2, hB2⟩
        case measure => simp [intOf]; omega
      · have HN := Lib.hid (cutI_step hI.out haj hlt (fun e => hb (by rw [e]; rfl)))
        have hbi : ¬ ((s[j].toNat : Int) = 32) := by omega
        go_wp2_with fail
        go_roundw
        case rel => exact ⟨dn, a, j + 1, rfl, by go_num, by omega, hlt, hdn, HN, hown, hB⟩
        case measure => simp [intOf]; omega
    · have hje : j = s.size := by omega
      subst hje
      have HN := Lib.hid (cutI_end hI.out)
      go_wp2_with (at_builtin; refine wpList_append_sl rfl _ _ rfl elStr str_len str_one (base := w.heap.size) (n := dn.length) (m := 1) (v := u5) rfl (hown.alloc _) rfl (ys := [s.extract a s.size]) rfl (sl_str (t := 9) (fr := (0, 0)) (G_new _ _ _ (by first | rfl | (simp [ext_size]; done)))) (by simp [maxLen]; omega) (by omega) (by simp; omega) ?_; intro v' w1 h1 h2 h3)
      have hown2 : w1.ownsRow w.heap.size 9 1 v' (dn ++ [s.extract a s.size]).length ((dn ++ [s.extract a s.size]).flatMap strCells) := by simpa using h1
      have hB2 : Below w.heap.size w w1 := below_own2 (B_alloc hB _) (hown.alloc _) h2
      clear h1 h2 h3
      go_wp2_with fail
      go_ret
      rw [HN.out] at hown2
      exact ⟨_, rfl, hown2, ext_below hB2⟩
end Go.Proofs.YtpohkolapgofdaaGreatDoor
