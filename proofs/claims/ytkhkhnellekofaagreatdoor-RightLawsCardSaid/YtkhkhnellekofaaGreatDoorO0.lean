/- Parts that ascend by name: where a name stands, what setting a share does. -/
import Derived.Test.YtkhkhnellekofaaGreatDoorNE
import Derived.Lib.Bytealg
set_option linter.unusedSimpArgs false
set_option linter.unusedVariables false
namespace Go.Proofs.YtkhkhnellekofaaGreatDoor
open Go.RowKit

theorem compareB_neg : ∀ (a b : List UInt8), decide (Lib.compareBytes a b < 0) = Op.bytesLess a b
 | [], [] => by simp [Lib.compareBytes, Op.bytesLess]
 | [], _ :: _ => by simp [Lib.compareBytes, Op.bytesLess]
 | _ :: _, [] => by simp [Lib.compareBytes, Op.bytesLess]
 | a :: xs, b :: ys => by
  have ih := compareB_neg xs ys
  unfold Lib.compareBytes Op.bytesLess
  by_cases he : a = b
  · subst he
    simp [UInt8.lt_irrefl, ih]
  · by_cases h1 : a < b
    · simp [h1]
    · have h2 : b < a := (UInt8.lt_or_lt_of_ne he).resolve_left h1
      simp [h1, h2, he]
theorem compareB_zero : ∀ (a b : List UInt8), (Lib.compareBytes a b == 0) = (a == b)
 | [], [] => by simp [Lib.compareBytes]
 | [], _ :: _ => by simp [Lib.compareBytes]
 | _ :: _, [] => by simp [Lib.compareBytes]
 | a :: xs, b :: ys => by
  have ih := compareB_zero xs ys
  unfold Lib.compareBytes
  by_cases he : a = b
  · subst he
    simpa [UInt8.lt_irrefl] using ih
  · by_cases h1 : a < b
    · simp [h1, he]
    · have h2 : b < a := (UInt8.lt_or_lt_of_ne he).resolve_left h1
      simp [h1, h2, he]
def cmpN (a b : ByteArray) : Int := Lib.compareBytes a.data.toList b.data.toList
theorem cmpN_neg (a b : ByteArray) : decide (cmpN a b < 0) = lessN a b := by
 unfold cmpN lessN
 rw [compareB_neg, ByteArray.toList_eq, ByteArray.toList_eq]
theorem cmpN_zero (a b : ByteArray) : (cmpN a b == 0) = sameB a b := by
 unfold cmpN sameB
 rw [compareB_zero, ByteArray.toList_eq, ByteArray.toList_eq]

def AscP (l : Parts) : Prop := l.Pairwise fun a b => lessN a.1 b.1 = true
theorem less_up {a b n : ByteArray} (hab : lessN a b = true) (h : lessN a n = false) : lessN b n = false := by
 cases hb : lessN b n
 · rfl
 · rw [lessN_trans hab hb] at h; cases h
def headIs : Parts → ByteArray → Bool
 | [], _ => false
 | p :: _, n => sameB p.1 n
def setP : Parts → ByteArray → Rat → Parts
 | [], n, q => if q == 0 then [] else [(n, q)]
 | p :: r, n, q => if lessN p.1 n then p :: setP r n q else if sameB p.1 n then (if q == 0 then r else (n, q) :: r) else if q == 0 then p :: r else (n, q) :: p :: r
theorem set_split {n : ByteArray} {q : Rat} : ∀ {A B : Parts}, (∀ p ∈ A, lessN p.1 n = true) → setP (A ++ B) n q = A ++ setP B n q
 | [], B, _ => rfl
 | a :: A, B, h => by
  rw [List.cons_append, setP, if_pos (h a (by simp)), set_split fun p hp => h p (by simp [hp])]
  rfl
theorem less_same {a b : ByteArray} (h : lessN a b = true) : sameB a b = false := same_ne.2 (lessN_ne h)
theorem share_split {n : ByteArray} : ∀ {A B : Parts}, (∀ p ∈ A, lessN p.1 n = true) → shareP (A ++ B) n = shareP B n
 | [], B, _ => rfl
 | a :: A, B, h => by
  rw [List.cons_append, share_cons, less_same (h a (by simp)), if_neg (by simp), share_split fun p hp => h p (by simp [hp])]
theorem asc_tail {A B : Parts} (h : AscP (A ++ B)) : AscP B := (List.pairwise_append.1 h).2.1
theorem share_no {n : ByteArray} : ∀ {B : Parts}, (∀ p ∈ B, lessN p.1 n = false) → AscP B → headIs B n = false → shareP B n = 0
 | [], _, _, _ => rfl
 | b :: B, h, ha, hh => by
  have ha' := List.pairwise_cons.1 ha
  have hb : b.1 ≠ n := same_ne.1 hh
  have hnb : lessN n b.1 = true := by
   rcases lessN_tri b.1 n with h1 | h1 | h1
   · rw [h b (by simp)] at h1; cases h1
   · exact absurd h1 hb
   · exact h1
  exact (share_none fun p hp => by
   rcases List.mem_cons.1 hp with rfl | hp
   · exact hb
   · exact (lessN_ne (lessN_trans hnb (ha'.1 p hp))).symm).1
theorem given_split {n : ByteArray} {q : Rat} : ∀ {A B : Parts}, (∀ p ∈ A, lessN p.1 n = true) → givenP (A ++ B) n q = A ++ givenP B n q
 | [], B, _ => rfl
 | a :: A, B, h => by
  rw [List.cons_append, givenP]
  by_cases hq : q == 0
  · rw [if_pos hq]
    have : givenP B n q = B := by
     cases B with
     | nil => simp [givenP, hq]
     | cons b B => simp [givenP, hq]
    rw [this]; rfl
  · rw [if_neg hq, if_pos (h a (by simp)), given_split fun p hp => h p (by simp [hp])]
    rfl
theorem ex_split (l : Parts) (h : AscP l) (n : ByteArray) : ∃ A B, l = A ++ B ∧ (∀ p ∈ A, lessN p.1 n = true) ∧ (∀ p ∈ B, lessN p.1 n = false) := by
 induction l with
 | nil => exact ⟨[], [], rfl, by simp, by simp⟩
 | cons p l ih =>
  have hp := List.pairwise_cons.1 h
  cases hl : lessN p.1 n
  · refine ⟨[], p :: l, rfl, by simp, fun x hx => ?_⟩
    rcases List.mem_cons.1 hx with rfl | hx
    · exact hl
    · exact less_up (hp.1 x hx) hl
  · obtain ⟨A, B, rfl, h1, h2⟩ := ih hp.2
    refine ⟨p :: A, B, rfl, fun x hx => ?_, h2⟩
    rcases List.mem_cons.1 hx with rfl | hx
    · exact hl
    · exact h1 x hx
theorem set_given {l : Parts} (h : GoodParts l) {n : ByteArray} {q : Rat} (hq : 0 ≤ q) : setP l n (shareP l n + q) = givenP l n q := by
 obtain ⟨A, B, rfl, h1, h2⟩ := ex_split l h.1 n
 rw [set_split h1, share_split h1, given_split h1]
 congr 1
 have hB := asc_tail h.1
 cases B with
 | nil =>
  show (if (0 : Rat) + q == 0 then [] else [(n, 0 + q)]) = if q == 0 then [] else [(n, q)]
  rw [Rat.zero_add]
 | cons b B =>
  have hb := h2 b (by simp)
  have hbp : 0 < b.2 := h.2 b (by simp)
  cases hs : sameB b.1 n
  · have h0 : shareP (b :: B) n = 0 := share_no h2 hB hs
    rw [h0, Rat.zero_add, setP, givenP, hb, hs]
    simp
  · rw [share_cons, hs, if_pos rfl, setP, givenP, hb, hs]
    have hne : (b.2 + q == 0) = false := by
     rw [beq_eq_false_iff_ne]
     intro e
     grind
    rw [hne]
    by_cases hz : q == 0
    · have : q = 0 := by simpa using hz
      subst this
      have hbn : b.1 = n := same_iff.1 hs
      simp [Rat.add_zero, ← hbn]
    · simp [hz]
theorem set_zero {l : Parts} (h : AscP l) (n : ByteArray) : setP l n 0 = withoutP l n := by
 obtain ⟨A, B, rfl, h1, h2⟩ := ex_split l h n
 rw [set_split h1]
 unfold withoutP
 rw [List.filter_append, List.filter_eq_self.2 fun p hp => by rw [less_same (h1 p hp)]; rfl]
 congr 1
 have hB := asc_tail h
 cases B with
 | nil => rfl
 | cons b B =>
  have hb := h2 b (by simp)
  have hb' := List.pairwise_cons.1 hB
  rw [setP, hb]
  cases hs : sameB b.1 n
  · have hnb : lessN n b.1 = true := by
      rcases lessN_tri b.1 n with h3 | h3 | h3
      · rw [hb] at h3; cases h3
      · exact absurd h3 (same_ne.1 hs)
      · exact h3
    have e : (b :: B).filter (fun p => !sameB p.1 n) = b :: B := List.filter_eq_self.2 fun p hp => by
     rcases List.mem_cons.1 hp with rfl | hp
     · rw [hs]; rfl
     · rw [same_ne.2 (lessN_ne (lessN_trans hnb (hb'.1 p hp))).symm]; rfl
    rw [e]
    simp
  · have hbn : b.1 = n := same_iff.1 hs
    have e : (b :: B).filter (fun p => !sameB p.1 n) = B := by
     rw [List.filter_cons, hs, if_neg (by simp)]
     exact List.filter_eq_self.2 fun p hp => by rw [same_ne.2 (hbn ▸ (lessN_ne (hb'.1 p hp)).symm)]; rfl
    rw [e]
    simp
theorem set_keeps {l : Parts} (h : AscP l) (n : ByteArray) (q : Rat) : setP l n q = if q == 0 then withoutP l n else givenP (withoutP l n) n q := by
 by_cases hq : q == 0
 · rw [if_pos hq]
   have : q = 0 := by simpa using hq
   rw [this]
   exact set_zero h n
 · rw [if_neg hq]
   obtain ⟨A, B, rfl, h1, h2⟩ := ex_split l h n
   rw [set_split h1]
   have hA : withoutP (A ++ B) n = A ++ withoutP B n := by
    unfold withoutP
    rw [List.filter_append, List.filter_eq_self.2 fun p hp => by rw [less_same (h1 p hp)]; rfl]
   rw [hA, given_split h1]
   congr 1
   have hB := asc_tail h
   rw [← set_zero hB n]
   cases B with
   | nil => simp [setP, givenP, hq]
   | cons b B =>
    have hb := h2 b (by simp)
    have hb' := List.pairwise_cons.1 hB
    have hq2 : (q == 0) = false := by simpa using hq
    have e0 : setP (b :: B) n 0 = if sameB b.1 n then B else b :: B := by rw [setP, hb]; simp
    have e1 : setP (b :: B) n q = if sameB b.1 n then (n, q) :: B else (n, q) :: b :: B := by rw [setP, hb, hq2]; simp
    rw [e0, e1]
    cases hs : sameB b.1 n
    · simp only [Bool.false_eq_true, if_false]
      rw [givenP, hq2, hb, hs]
      simp
    · have hbn : b.1 = n := same_iff.1 hs
      simp only [if_true]
      cases B with
      | nil => rw [givenP, hq2]; simp
      | cons c B =>
       have hc : lessN n c.1 = true := hbn ▸ hb'.1 c (by simp)
       rw [givenP, hq2, lessN_asym hc, same_ne.2 (lessN_ne hc).symm]
       simp
theorem set_mem {n : ByteArray} {q : Rat} : ∀ {l : Parts} {p : ByteArray × Rat}, p ∈ setP l n q → p = (n, q) ∨ p ∈ l
 | [], p, h => by
  unfold setP at h
  split at h
  · simp at h
  · exact .inl (by simpa using h)
 | x :: l, p, h => by
  unfold setP at h
  split at h
  · rcases List.mem_cons.1 h with rfl | h
    · exact .inr (by simp)
    · rcases set_mem h with h | h
      · exact .inl h
      · exact .inr (by simp [h])
  · split at h
    · split at h
      · exact .inr (by simp [h])
      · rcases List.mem_cons.1 h with rfl | h
        · exact .inl rfl
        · exact .inr (by simp [h])
    · split at h
      · exact .inr h
      · rcases List.mem_cons.1 h with rfl | h
        · exact .inl rfl
        · exact .inr h
theorem set_asc {l : Parts} (h : AscP l) (n : ByteArray) (q : Rat) : AscP (setP l n q) := by
 obtain ⟨A, B, rfl, h1, h2⟩ := ex_split l h n
 rw [set_split h1]
 obtain ⟨hA, hB, hAB⟩ := List.pairwise_append.1 h
 have hgt : ∀ b ∈ B, sameB b.1 n = false → lessN n b.1 = true := fun b hb hs => by
  rcases lessN_tri b.1 n with h3 | h3 | h3
  · rw [h2 b hb] at h3; cases h3
  · exact absurd h3 (same_ne.1 hs)
  · exact h3
 cases B with
 | nil =>
  rw [setP]
  split
  · rw [List.append_nil]; exact hA
  · exact List.pairwise_append.2 ⟨hA, List.pairwise_singleton _ _, fun a ha b hb => by
      rw [List.mem_singleton.1 hb]; exact h1 a ha⟩
 | cons b B =>
  have hb' := List.pairwise_cons.1 hB
  rw [setP, h2 b (by simp), if_neg (by simp)]
  cases hs : sameB b.1 n
  · rw [if_neg (by simp)]
    split
    · exact h
    · refine List.pairwise_append.2 ⟨hA, List.pairwise_cons.2 ⟨fun x hx => ?_, hB⟩, fun a ha x hx => ?_⟩
      · rcases List.mem_cons.1 hx with rfl | hx
        · exact hgt _ (by simp) hs
        · exact lessN_trans (hgt b (by simp) hs) (hb'.1 x hx)
      · rcases List.mem_cons.1 hx with rfl | hx
        · exact h1 a ha
        · exact hAB a ha x hx
  · have hbn : b.1 = n := same_iff.1 hs
    rw [if_pos rfl]
    split
    · exact List.pairwise_append.2 ⟨hA, hb'.2, fun a ha x hx => hAB a ha x (by simp [hx])⟩
    · refine List.pairwise_append.2 ⟨hA, List.pairwise_cons.2 ⟨fun x hx => ?_, hb'.2⟩, fun a ha x hx => ?_⟩
      · exact hbn ▸ hb'.1 x hx
      · rcases List.mem_cons.1 hx with rfl | hx
        · exact h1 a ha
        · exact hAB a ha x (by simp [hx])
end Go.Proofs.YtkhkhnellekofaaGreatDoor
