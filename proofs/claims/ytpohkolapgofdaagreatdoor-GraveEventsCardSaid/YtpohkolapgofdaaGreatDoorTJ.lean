/- Plain law: the library's Split at a blank cuts as the reference cuts; its Index finds the kind. -/
/- Walks of the program: the kinds' words; a word of a text by its place. -/
import Derived.Test.YtpohkolapgofdaaGreatDoorTC
import Derived.Lib.SlicesS
namespace Go.Proofs.YtpohkolapgofdaaGreatDoor
open Go.RowKit

theorem index_blank (b : UInt8) (l : Bs) : Lib.index (b :: l) [32] = if b = 32 then 0 else if Lib.index l [32] == -1 then -1 else Lib.index l [32] + 1 := by
  rw [Lib.index]
  by_cases h : b = 32
  · subst h; simp [List.isPrefixOf]
  · have hp : ([32] : List UInt8).isPrefixOf (b :: l) = false := by simp [List.isPrefixOf, Ne.symm h]
    rw [hp, if_neg h]
    simp
theorem splitK_cut : ∀ l : Bs, Lib.splitK [32] 0 (l.count 32) l = cutB l
  | [] => rfl
  | b :: l => by
    have ih := splitK_cut l
    by_cases hb : b = 32
    · subst hb
      rw [List.count_cons_self, Lib.splitK, index_blank, if_pos rfl]
      unfold cutB
      rw [← ih]
      simp
    · rw [List.count_cons_of_ne (by simpa using hb)]
      unfold cutB
      rw [if_neg (by simpa using hb), ← ih]
      cases hc : l.count 32 with
      | zero => rfl
      | succ k =>
        have hm : Lib.index l [32] ≠ -1 := by
          intro e
          have := Lib.count_miss e
          rw [Lib.count_one] at this
          omega
        have hge := Lib.index_ge l [32]
        obtain ⟨j, hj⟩ : ∃ j : Nat, Lib.index l [32] = j := ⟨(Lib.index l [32]).toNat, by omega⟩
        rw [Lib.splitK, Lib.splitK, index_blank, if_neg hb, hj]
        have h1 : ¬ (((j : Int) == -1) = true) := by simp
        rw [if_neg h1, if_neg h1, if_neg (by simp; omega)]
        rw [show (((j : Int) + 1).toNat + 0) = j + 1 by omega, show ((j : Int).toNat + 0) = j by omega, show (((j : Int) + 1).toNat + ([32] : Bs).length) = j + 1 + 1 by simp, show ((j : Int).toNat + ([32] : Bs).length) = j + 1 by simp]
        simp
theorem kind_idx (x : ByteArray) : ∀ (zs : List Bs) (i : Nat), Lib.idxFromS (zs.map toB) x i = kindGo (bs x) zs i
  | [], _ => rfl
  | z :: zs, i => by
    rw [List.map_cons, Lib.idxFromS, kindGo, kind_idx x zs (i + 1)]
    by_cases h : toB z = x
    · rw [if_pos h, if_pos (by rw [← h]; simp [bs_toB])]
    · rw [if_neg h, if_neg (by intro e; apply h; rw [beq_iff_eq] at e; rw [e]; exact toB_bs x)]
      simp
theorem split_cut (s : ByteArray) : Lib.splitB ⟨#[32]⟩ 0 (Lib.countB s ⟨#[32]⟩) s = cutS s := by
  apply cutS_of
  have h1 : Lib.countB s ⟨#[32]⟩ = (bs s).count 32 := Lib.count_one 32 (bs s)
  rw [h1, ← splitK_cut]
  exact Lib.splitB_data ⟨#[32]⟩ 0 _ s
end Go.Proofs.YtpohkolapgofdaaGreatDoor
namespace Go.Proofs.YtpohkolapgofdaaGreatDoor
open Go.RowKit
attribute [local go_sem] World.cell?_alloc_mark ext_size ext_cell ext_frozen lt_add_r lt_add_r2 lt_add_r3 lt_add_r4 lt_add_r5 lt_add_r6 lt_add_r7 lt_add_r8

def kindsS : List ByteArray := kindsB.map toB
def WordsPost (w : World) (e : Ending) (w' : World) : Prop := ∃ q, e = .returned (.slice (some ⟨q, 0, none⟩) 5 5) ∧ w.heap.size ≤ q ∧ w'.heap[q]? = some (.cells (kindsS.map Value.string).toArray 9 (0, 0)) ∧ ∃ z, w' = w.ext z
set_option maxRecDepth 100000 in
set_option maxHeartbeats 2000000 in
theorem words_any (w : World) : Calls Tryz.prog 30 #[] w (WordsPost w) := by
  go_enter Tryz.func30, Tryz.ntmps30
  go_wp2_with fail
  go_ret
  exact ⟨_, rfl, Nat.le_refl _, heap_alloc_new _ _, ext_below (by repeat (first | exact B_refl | exact Below.refl _ _ | assumption | with_reducible refine B_alloc ?_ _ | with_reducible refine B_ext ?_ _ | with_reducible refine B_drew ?_ | with_reducible refine B_drewN ?_ _ | with_reducible refine B_set ?_ (by simp; omega) _))⟩
/-- The word at a place, or none. -/
def wordAt (ws : List ByteArray) (k : Nat) : ByteArray := ws.getD k ⟨#[]⟩
set_option maxRecDepth 100000 in
set_option maxHeartbeats 2000000 in
theorem word_any (ws : List ByteArray) (A : Option Addr) (c k b : Nat) (w : World) (hS : Sl w 1 strCells A ws) (hl : ws.length ≤ 100001) (hk : k ≤ 10) (hb : w.cell? ⟨b, 0, none⟩ = some (.slice A ws.length c)) :
    Calls Tryz.prog 61 #[.int .i64 k, .pointer (some ⟨b, 0, none⟩)] w (Ret w (.string (wordAt ws k))) := by
  go_enter Tryz.func61, Tryz.ntmps61
  by_cases hlt : k < ws.length
  · obtain ⟨b2, off, rfl, hb2, hc0⟩ := hS.at hlt
    have hlt2 : (k : Int) < (ws.length : Int) := by omega
    have hk0 : (0 : Int) ≤ (k : Int) := by omega
    have x0 : w.cell? ⟨b2, off + k, none⟩ = some (.string ws[k]) := by simpa using hc0 0 _ rfl
    have hA : wordAt ws k = ws[k] := by
      unfold wordAt
      rw [List.getD_eq_getElem?_getD, List.getElem?_eq_getElem hlt]
      rfl
    rw [hA]
    clear hA hc0
    generalize ws[k] = x at *
    go_wp2_with fail
    go_ret
    exact Ret.of rfl (by repeat (first | exact B_refl | exact Below.refl _ _ | assumption | with_reducible refine B_alloc ?_ _ | with_reducible refine B_ext ?_ _ | with_reducible refine B_drew ?_ | with_reducible refine B_drewN ?_ _ | with_reducible refine B_set ?_ (by simp; omega) _))
  · have hA : wordAt ws k = ⟨#[]⟩ := by
      unfold wordAt
      rw [List.getD_eq_getElem?_getD, List.getElem?_eq_none (by omega)]
      rfl
    rw [hA]
    have hlt2 : ¬ (k : Int) < (ws.length : Int) := by omega
    clear hA
    go_wp2_with fail
    go_ret
    exact Ret.of rfl (by repeat (first | exact B_refl | exact Below.refl _ _ | assumption | with_reducible refine B_alloc ?_ _ | with_reducible refine B_ext ?_ _ | with_reducible refine B_drew ?_ | with_reducible refine B_drewN ?_ _ | with_reducible refine B_set ?_ (by simp; omega) _))
end Go.Proofs.YtpohkolapgofdaaGreatDoor
