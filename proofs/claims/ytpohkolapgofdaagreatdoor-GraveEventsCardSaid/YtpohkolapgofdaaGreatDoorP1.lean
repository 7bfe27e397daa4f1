/- Plain law: names, sites and yards are valid for the program just when they are for the reference. -/
import Derived.Test.YtpohkolapgofdaaGreatDoorS0
import Derived.Laws.Strings
namespace Go.Proofs.YtpohkolapgofdaaGreatDoor
open Go.RowKit

set_option maxRecDepth 100000 in
theorem nm_same : ∀ (l : List Int) (i : Nat), nmGo l (i + 1) = nmGoR l
  | [], _ => rfl
  | c :: l, i => by
    rw [nmGo, nmGoR, nm_same l (i + 1)]
    have h : (!(letterI c) && (i + 1 == 0 || (c != 45 && (decide (c < 48) || decide (57 < c))))) = (!letterI c && !digitI c && c != 45) := by
      cases letterI c
      · have h0 : (i + 1 == 0) = false := by simp
        rw [h0]
        by_cases h1 : c = 45
        · subst h1; rfl
        · have h2 : (c != 45) = true := by simpa using h1
          rw [h2, digitI]
          by_cases h3 : c < 48
          · have h4 : ¬ 48 ≤ c := by omega
            simp only [h3, h4, decide_true, decide_false, Bool.not_false, Bool.true_and, Bool.false_or, Bool.true_or, Bool.false_and]
          · have h4 : 48 ≤ c := by omega
            by_cases h5 : 57 < c
            · have h6 : ¬ c ≤ 57 := by omega
              simp only [h3, h4, h5, h6, decide_true, decide_false, Bool.not_false, Bool.true_and, Bool.false_or, Bool.true_or, Bool.false_and, Bool.or_true]
            · have h6 : c ≤ 57 := by omega
              simp only [h3, h4, h5, h6, decide_true, decide_false, Bool.not_false, Bool.true_and, Bool.false_or, Bool.true_or, Bool.false_and, Bool.or_true, Bool.or_false, Bool.not_true]
      · rfl
    rw [h]
theorem empty_size (s : ByteArray) : s.toList.isEmpty = decide ((s.size : Int) < 1) := by
  have e : s.toList.length = s.size := by rw [ByteArray.toList_eq, Array.length_toList]; rfl
  generalize s.size = n at *
  cases hl : s.toList with
  | nil =>
    rw [hl] at e
    subst e
    rfl
  | cons a l =>
    rw [hl, List.length_cons] at e
    have h : ¬ ((n : Int) < 1) := by omega
    rw [decide_eq_false h]
    rfl
theorem isName_same (s : ByteArray) : isNameP s = isNameR s := by
  unfold isNameP isNameR
  rw [empty_size]
  have hl := bytesI_len s
  cases hb : bytesI s with
  | nil =>
    rw [hb] at hl
    have h0 : (s.size : Int) < 1 := by simp at hl; omega
    simp [h0]
  | cons c l =>
    rw [hb] at hl
    have h0 : ¬ (s.size : Int) < 1 := by simp at hl; omega
    have h1 : nmGo (c :: l) 0 = if !letterI c then false else nmGoR l := by rw [nmGo, nm_same]; simp
    rw [h1]
    simp only [h0, decide_false, Bool.not_false, Bool.true_and, Bool.false_or, List.getD_cons_zero, List.drop_succ_cons, List.drop_zero]
    cases letterI c <;> by_cases h2 : (12 : Int) < s.size <;> simp [h2] <;> omega
theorem wrap_small {a : Int} (h1 : -1000000 ≤ a) (h2 : a ≤ 1000000) : wrap64 a = a := by
  unfold wrap64; omega
theorem checkSite_same (nm : ByteArray) (k so d st r : Int) : checkSiteP nm k so d st r = checkSiteR nm k so d st r := by
  unfold checkSiteP checkSiteR
  rw [isName_same]
  split
  · rfl
  split
  · rfl
  split
  · rfl
  rename_i hr
  by_cases hk : k = 0
  · subst hk
    have e : depthP 0 d st (wrap64 (r - 1)) = wrap64 (d - wrap64 (wrap64 (r - 1) * st)) := by
      unfold depthP
      rw [if_neg (by simp), Int.mul_comm]
    rw [e]
    simp
  · simp [hk]
    by_cases h3 : k = 3 <;> simp [h3]
    all_goals (repeat' split) <;> simp_all
theorem findSite_any (nm : ByteArray) : ∀ l : List Site, (findSite nm l).isSome = anySite nm l
  | [] => rfl
  | s :: l => by
    unfold findSite anySite
    split
    · rfl
    · exact findSite_any nm l
theorem sites_same (T : Int) : ∀ (l d : List Site), sitesP T d l = sitesR T d l
  | [], _ => rfl
  | s :: l, d => by
    unfold sitesP sitesR
    rw [checkSite_same, findSite_any, sites_same T l]
/-- The map holds true at just the kinds that have come. -/
def Seen (m : List ((Int × Int) × Bool)) (d : List Rest) : Prop := ∀ k, (mget eqK k m).getD false = anyRest k.1 k.2 d
theorem anyRest_snoc (so co : Int) (r : Rest) : ∀ d : List Rest, anyRest so co (d ++ [r]) = (anyRest so co d || (r.soil == so && r.container == co))
  | [] => by simp [anyRest]; rfl
  | x :: d => by
    simp only [List.cons_append, anyRest]
    split
    · simp
    · exact anyRest_snoc so co r d
theorem eqK_comm (a b : Int × Int) : eqK a b = (b.1 == a.1 && b.2 == a.2) := by
  unfold eqK
  rw [Bool.beq_comm (a := a.1), Bool.beq_comm (a := a.2)]
theorem eqK_refl (a : Int × Int) : eqK a a = true := by simp [eqK]
theorem eqK_eq {a b : Int × Int} (h : eqK a b = true) : a = b := by
  simp [eqK] at h
  exact Prod.ext h.1 h.2
theorem mget_mput (k k' : Int × Int) (v : Bool) : ∀ m : List ((Int × Int) × Bool), mget eqK k' (mput eqK k v m) = if eqK k' k then some v else mget eqK k' m
  | [] => by
    simp only [mput, mget]
  | p :: m => by
    unfold mput
    by_cases h : eqK k p.1 = true
    · have := eqK_eq h
      subst this
      rw [if_pos h]
      simp only [mget]
      split <;> rfl
    · rw [if_neg h]
      simp only [mget]
      rw [mget_mput k k' v m]
      by_cases h1 : eqK k' p.1 = true
      · have e := eqK_eq h1
        subst e
        by_cases h2 : eqK p.1 k = true
        · have e := eqK_eq h2
          rw [e] at h
          exact absurd (eqK_refl _) h
        · simp [h2, eqK_refl]
      · simp [h1]
theorem seen_step {m : List ((Int × Int) × Bool)} {d : List Rest} (h : Seen m d) (r : Rest) : Seen (mput eqK (r.soil, r.container) true m) (d ++ [r]) := fun k => by
  rw [mget_mput, anyRest_snoc, ← h k]
  have e : eqK k (r.soil, r.container) = (r.soil == k.1 && r.container == k.2) := eqK_comm _ _
  rw [← e]
  by_cases h1 : eqK k (r.soil, r.container) = true
  · simp [h1]
  · simp [h1]
theorem rests_same (T : Int) : ∀ (l d : List Rest) (m : List ((Int × Int) × Bool)), Seen m d → restsP T m l = restsR T d l
  | [], _, _, _ => rfl
  | r :: l, d, m, h => by
    unfold restsP restsR
    have e := h (r.soil, r.container)
    rw [e, rests_same T l _ _ (seen_step h r)]
theorem checkYard_same (ss : List Site) (rs : List Rest) (c0 c1 c2 : Int) : checkYardP ss rs c0 c1 c2 = checkYardR ss rs c0 c1 c2 := by
  unfold checkYardP checkYardR
  rw [sites_same, rests_same _ rs [] [] (fun _ => rfl)]
end Go.Proofs.YtpohkolapgofdaaGreatDoor
