/- Walk of the reference: the error of an event that puts a remain at a place. -/
import Derived.Test.YtmiobhlgpjjbgaaL5
namespace Go.Proofs.Ytmiobhlgpjjbgaa
open Go.RowKit
attribute [local go_sem] World.cell?_alloc_mark ext_size ext_cell ext_frozen lt_add_r lt_add_r2 lt_add_r3 lt_add_r4 lt_add_r5 lt_add_r6 lt_add_r7 lt_add_r8

def findLot (nm : ByteArray) : List Lot → Option Lot
  | [] => none
  | l :: r => if l.remain.toList == nm.toList then some l else findLot nm r
theorem lotIdx_find (nm : ByteArray) : ∀ (l : List Lot) (k : Nat), (match lotIdx nm l k with | none => findLot nm l = none | some j => ∃ i s, j = k + i ∧ l[i]? = some s ∧ findLot nm l = some s)
  | [], k => rfl
  | s :: l, k => by
    unfold lotIdx findLot
    by_cases h : (s.remain.toList == nm.toList) = true
    · rw [if_pos h, if_pos h]
      exact ⟨0, s, rfl, rfl, rfl⟩
    · rw [if_neg h, if_neg h]
      have := lotIdx_find nm l (k + 1)
      split at this
      · exact this
      · rename_i j hj
        obtain ⟨i, s', e, hi, hf⟩ := this
        exact ⟨i + 1, s', by omega, by simpa using hi, hf⟩
theorem lotIdx_some {nm : ByteArray} {ls : List Lot} {s : Lot} (h : findLot nm ls = some s) : ∃ k : Nat, lotIdx nm ls 0 = some k ∧ ls[k]? = some s := by
  have := lotIdx_find nm ls 0
  split at this
  · rw [h] at this; cases this
  · rename_i j hj
    obtain ⟨i, s', rfl, hi, hf⟩ := this
    rw [h] at hf
    cases hf
    exact ⟨_, hj, by simpa using hi⟩
theorem lotIdx_none {nm : ByteArray} {ls : List Lot} (h : findLot nm ls = none) : lotIdx nm ls 0 = none := by
  have := lotIdx_find nm ls 0
  split at this
  · assumption
  · obtain ⟨i, s', _, _, hf⟩ := this
    rw [h] at hf
    cases hf
def rPutP (c0 c1 c2 : Int) (ss : List Site) (ls : List Lot) (kd : Int) (si : ByteArray) (lv : Int) (rm : ByteArray) (co : Int) : Int :=
  if kd == 0 && (findLot rm ls).isSome then 5 else
  if kd == 2 && !(findLot rm ls).isSome then 6 else
  if kd == 2 && ((findLot rm ls).getD zeroLot).state != 0 then 28 else
  rPlaceP c0 c1 c2 ss ls si lv co

set_option maxRecDepth 100000 in
set_option maxHeartbeats 2000000 in
theorem rPut_any (ss : List Site) (rs : List Rest) (A R : Option Addr) (n c rn rc : Nat) (c0 c1 c2 : Int) (ls : List Lot) (L : Option Addr) (ln lc : Nat) (dy kd : Int) (si : ByteArray) (lv : Int) (rm : ByteArray) (co : Int) (o : Bool) (w : World) (hy : YardIn w ss rs A n c R rn rc) (hl : LotsIn w ls L ln) (hr : ∀ s ∈ ss, s.room ≤ 100000) (hk : kd = 0 ∨ kd = 2) (h1 : 0 ≤ lv) (h2 : lv ≤ 100000) (hc1 : 0 ≤ co) (hc2 : co ≤ 2) :
    Calls Try.prog 95 #[.agg #[.slice A n c, .slice R rn rc, .int .i64 c0, .int .i64 c1, .int .i64 c2], .slice L ln lc, .agg #[.int .i64 dy, .int .i64 kd, .string si, .int .i64 lv, .string rm, .int .i64 co, .bool o]] w (Ret w (.int .i64 (rPutP c0 c1 c2 ss ls kd si lv rm co))) := by
  obtain ⟨T, hT⟩ : ∃ T, rPlaceP c0 c1 c2 ss ls si lv co = T := ⟨_, rfl⟩
  have HP := Lib.hid hT
  go_enter Try.func95, Try.ntmps95
  cases hf : findLot rm ls with
  | none =>
    have hfi : rFindR rm ls = -1 := by rw [rFindR, lotIdx_none hf]
    rcases hk with rfl | rfl
    · have hX : rPutP c0 c1 c2 ss ls 0 si lv rm co = T := by simp [rPutP, hf, hT]
      rw [hX]
      clear hX hT hf
      go_wp2_with (first
                        | (go_at_call 78; refine (rFind_any ls _ _ _ _ _ (hl.keep (m := w.heap.size) (by repeat (first | exact B_refl | exact Below.refl _ _ | assumption | with_reducible refine B_alloc ?_ _ | with_reducible refine B_ext ?_ _ | with_reducible refine B_drew ?_ | with_reducible refine B_drewN ?_ _ | with_reducible refine B_set ?_ (by simp; omega) _)))).mono ?_; rintro e wq ⟨rfl, zt, rfl⟩; rw [hfi])
                        | (go_at_call 72; refine (rPlace_any ss rs _ _ _ _ _ _ _ _ _ ls _ _ _ _ _ _ _ (hy.keep (m := w.heap.size) (by repeat (first | exact B_refl | exact Below.refl _ _ | assumption | with_reducible refine B_alloc ?_ _ | with_reducible refine B_ext ?_ _ | with_reducible refine B_drew ?_ | with_reducible refine B_drewN ?_ _ | with_reducible refine B_set ?_ (by simp; omega) _))) (hl.keep (m := w.heap.size) (by repeat (first | exact B_refl | exact Below.refl _ _ | assumption | with_reducible refine B_alloc ?_ _ | with_reducible refine B_ext ?_ _ | with_reducible refine B_drew ?_ | with_reducible refine B_drewN ?_ _ | with_reducible refine B_set ?_ (by simp; omega) _))) hr h1 h2 hc1 hc2).mono ?_; rintro e wq ⟨rfl, zp, rfl⟩; rw [HP.out]))
      go_ret
      exact Ret.of rfl (by repeat (first | exact B_refl | exact Below.refl _ _ | assumption | with_reducible refine B_alloc ?_ _ | with_reducible refine B_ext ?_ _ | with_reducible refine B_drew ?_ | with_reducible refine B_drewN ?_ _ | with_reducible refine B_set ?_ (by simp; omega) _))
    · have hX : rPutP c0 c1 c2 ss ls 2 si lv rm co = 6 := by simp [rPutP, hf]
      rw [hX]
      clear hX hT hf
      go_wp2_with (first
                        | (go_at_call 78; refine (rFind_any ls _ _ _ _ _ (hl.keep (m := w.heap.size) (by repeat (first | exact B_refl | exact Below.refl _ _ | assumption | with_reducible refine B_alloc ?_ _ | with_reducible refine B_ext ?_ _ | with_reducible refine B_drew ?_ | with_reducible refine B_drewN ?_ _ | with_reducible refine B_set ?_ (by simp; omega) _)))).mono ?_; rintro e wq ⟨rfl, zt, rfl⟩; rw [hfi])
                        | (go_at_call 72; refine (rPlace_any ss rs _ _ _ _ _ _ _ _ _ ls _ _ _ _ _ _ _ (hy.keep (m := w.heap.size) (by repeat (first | exact B_refl | exact Below.refl _ _ | assumption | with_reducible refine B_alloc ?_ _ | with_reducible refine B_ext ?_ _ | with_reducible refine B_drew ?_ | with_reducible refine B_drewN ?_ _ | with_reducible refine B_set ?_ (by simp; omega) _))) (hl.keep (m := w.heap.size) (by repeat (first | exact B_refl | exact Below.refl _ _ | assumption | with_reducible refine B_alloc ?_ _ | with_reducible refine B_ext ?_ _ | with_reducible refine B_drew ?_ | with_reducible refine B_drewN ?_ _ | with_reducible refine B_set ?_ (by simp; omega) _))) hr h1 h2 hc1 hc2).mono ?_; rintro e wq ⟨rfl, zp, rfl⟩; rw [HP.out]))
      go_ret
      exact Ret.of rfl (by repeat (first | exact B_refl | exact Below.refl _ _ | assumption | with_reducible refine B_alloc ?_ _ | with_reducible refine B_ext ?_ _ | with_reducible refine B_drew ?_ | with_reducible refine B_drewN ?_ _ | with_reducible refine B_set ?_ (by simp; omega) _))
  | some s =>
    obtain ⟨i, hik, hgk⟩ := lotIdx_some hf
    have hfi : rFindR rm ls = (i : Int) := by rw [rFindR, hik]
    obtain ⟨hlt, hse⟩ := List.getElem?_eq_some_iff.1 hgk
    have hln := hl.hn
    have hl1 := hl.l1
    subst hln
    obtain ⟨b, off, rfl, hb, hcl⟩ := hl.sl.at hlt
    rw [hse] at hcl
    have x1 : w.cell? ⟨b, off + i * 6 + 1, none⟩ = some (.int .i64 s.state) := hcl 1 _ rfl
    have hlt2 : (i : Int) < (ls.length : Int) := by omega
    have hi0 : ¬ ((i : Int) < 0) := by omega
    rcases hk with rfl | rfl
    · have hX : rPutP c0 c1 c2 ss ls 0 si lv rm co = 5 := by simp [rPutP, hf]
      rw [hX]
      clear hX hT hf hik hgk hse hcl
      go_wp2_with (first
                        | (go_at_call 78; refine (rFind_any ls _ _ _ _ _ (hl.keep (m := w.heap.size) (by repeat (first | exact B_refl | exact Below.refl _ _ | assumption | with_reducible refine B_alloc ?_ _ | with_reducible refine B_ext ?_ _ | with_reducible refine B_drew ?_ | with_reducible refine B_drewN ?_ _ | with_reducible refine B_set ?_ (by simp; omega) _)))).mono ?_; rintro e wq ⟨rfl, zt, rfl⟩; rw [hfi])
                        | (go_at_call 72; refine (rPlace_any ss rs _ _ _ _ _ _ _ _ _ ls _ _ _ _ _ _ _ (hy.keep (m := w.heap.size) (by repeat (first | exact B_refl | exact Below.refl _ _ | assumption | with_reducible refine B_alloc ?_ _ | with_reducible refine B_ext ?_ _ | with_reducible refine B_drew ?_ | with_reducible refine B_drewN ?_ _ | with_reducible refine B_set ?_ (by simp; omega) _))) (hl.keep (m := w.heap.size) (by repeat (first | exact B_refl | exact Below.refl _ _ | assumption | with_reducible refine B_alloc ?_ _ | with_reducible refine B_ext ?_ _ | with_reducible refine B_drew ?_ | with_reducible refine B_drewN ?_ _ | with_reducible refine B_set ?_ (by simp; omega) _))) hr h1 h2 hc1 hc2).mono ?_; rintro e wq ⟨rfl, zp, rfl⟩; rw [HP.out]))
      go_ret
      exact Ret.of rfl (by repeat (first | exact B_refl | exact Below.refl _ _ | assumption | with_reducible refine B_alloc ?_ _ | with_reducible refine B_ext ?_ _ | with_reducible refine B_drew ?_ | with_reducible refine B_drewN ?_ _ | with_reducible refine B_set ?_ (by simp; omega) _))
    · cases hs : (s.state != 0)
      · have hX : rPutP c0 c1 c2 ss ls 2 si lv rm co = T := by simp [rPutP, hf, hT, hs]
        have hs0 : s.state = 0 := by simpa using hs
        rw [hX]
        rw [hs0] at x1
        clear hX hT hf hik hgk hse hcl hs
        go_wp2_with (first
                          | (go_at_call 78; refine (rFind_any ls _ _ _ _ _ (hl.keep (m := w.heap.size) (by repeat (first | exact B_refl | exact Below.refl _ _ | assumption | with_reducible refine B_alloc ?_ _ | with_reducible refine B_ext ?_ _ | with_reducible refine B_drew ?_ | with_reducible refine B_drewN ?_ _ | with_reducible refine B_set ?_ (by simp; omega) _)))).mono ?_; rintro e wq ⟨rfl, zt, rfl⟩; rw [hfi])
                          | (go_at_call 72; refine (rPlace_any ss rs _ _ _ _ _ _ _ _ _ ls _ _ _ _ _ _ _ (hy.keep (m := w.heap.size) (by repeat (first | exact B_refl | exact Below.refl _ _ | assumption | with_reducible refine B_alloc ?_ _ | with_reducible refine B_ext ?_ _ | with_reducible refine B_drew ?_ | with_reducible refine B_drewN ?_ _ | with_reducible refine B_set ?_ (by simp; omega) _))) (hl.keep (m := w.heap.size) (by repeat (first | exact B_refl | exact Below.refl _ _ | assumption | with_reducible refine B_alloc ?_ _ | with_reducible refine B_ext ?_ _ | with_reducible refine B_drew ?_ | with_reducible refine B_drewN ?_ _ | with_reducible refine B_set ?_ (by simp; omega) _))) hr h1 h2 hc1 hc2).mono ?_; rintro e wq ⟨rfl, zp, rfl⟩; rw [HP.out]))
        go_ret
        exact Ret.of rfl (by repeat (first | exact B_refl | exact Below.refl _ _ | assumption | with_reducible refine B_alloc ?_ _ | with_reducible refine B_ext ?_ _ | with_reducible refine B_drew ?_ | with_reducible refine B_drewN ?_ _ | with_reducible refine B_set ?_ (by simp; omega) _))
      · have hX : rPutP c0 c1 c2 ss ls 2 si lv rm co = 28 := by simp only [rPutP, hf]; simp [hs]
        have hs0 : s.state ≠ 0 := by simpa using hs
        rw [hX]
        clear hX hT hf hik hgk hse hcl hs
        go_wp2_with (first
                          | (go_at_call 78; refine (rFind_any ls _ _ _ _ _ (hl.keep (m := w.heap.size) (by repeat (first | exact B_refl | exact Below.refl _ _ | assumption | with_reducible refine B_alloc ?_ _ | with_reducible refine B_ext ?_ _ | with_reducible refine B_drew ?_ | with_reducible refine B_drewN ?_ _ | with_reducible refine B_set ?_ (by simp; omega) _)))).mono ?_; rintro e wq ⟨rfl, zt, rfl⟩; rw [hfi])
                          | (go_at_call 72; refine (rPlace_any ss rs _ _ _ _ _ _ _ _ _ ls _ _ _ _ _ _ _ (hy.keep (m := w.heap.size) (by repeat (first | exact B_refl | exact Below.refl _ _ | assumption | with_reducible refine B_alloc ?_ _ | with_reducible refine B_ext ?_ _ | with_reducible refine B_drew ?_ | with_reducible refine B_drewN ?_ _ | with_reducible refine B_set ?_ (by simp; omega) _))) (hl.keep (m := w.heap.size) (by repeat (first | exact B_refl | exact Below.refl _ _ | assumption | with_reducible refine B_alloc ?_ _ | with_reducible refine B_ext ?_ _ | with_reducible refine B_drew ?_ | with_reducible refine B_drewN ?_ _ | with_reducible refine B_set ?_ (by simp; omega) _))) hr h1 h2 hc1 hc2).mono ?_; rintro e wq ⟨rfl, zp, rfl⟩; rw [HP.out]))
        go_ret
        exact Ret.of rfl (by repeat (first | exact B_refl | exact Below.refl _ _ | assumption | with_reducible refine B_alloc ?_ _ | with_reducible refine B_ext ?_ _ | with_reducible refine B_drew ?_ | with_reducible refine B_drewN ?_ _ | with_reducible refine B_set ?_ (by simp; omega) _))
end Go.Proofs.Ytmiobhlgpjjbgaa
