/- Plain law: the program's book and the reference's lots behind many events. -/
import Derived.Test.YtpohkolapgofdaaGreatQ1
namespace Go.Proofs.YtpohkolapgofdaaGreat
open Go.RowKit

/-- The book behind the accepted beginning, its length, the next one's error. -/
def playP (ss : List Site) (rs : List Rest) : Bk → Nat → List Event → Bk × Nat × Int
  | k, i, [] => (k, i, 0)
  | k, i, e :: l => if (errorP k ss rs e).2 != 0 then (k, i, (errorP k ss rs e).2) else playP ss rs (addK k e (errorP k ss rs e).1) (i + 1) l
theorem adds_play (ss : List Site) (rs : List Rest) : ∀ (es : List Event) (k : Bk) (i : Nat), addsP ss rs k es = ((playP ss rs k i es).1, (playP ss rs k i es).2.2)
  | [], _, _ => rfl
  | e :: l, k, i => by
    unfold addsP playP
    split
    · rfl
    · exact adds_play ss rs l _ (i + 1)
theorem addK_yard (k : Bk) (e : Event) (l : Lot) : (addK k e l).c0 = k.c0 ∧ (addK k e l).c1 = k.c1 ∧ (addK k e l).c2 = k.c2 ∧ (addK k e l).day = e.day ∧ (addK k e l).yard = k.yard := ⟨rfl, rfl, rfl, rfl, rfl⟩

theorem play_same {ss : List Site} {rs : List Rest} {c0 c1 c2 : Int} (hroom : ∀ s ∈ ss, s.room ≤ 12) : ∀ (es : List Event) (k : Bk) (ls : List Lot) (i : Nat), Rel k ls ss → Inv k ss → k.c0 = c0 → k.c1 = c1 → k.c2 = c2 →
    Rel (playP ss rs k i es).1 (rGoP c0 c1 c2 ss rs ls k.day i es).1 ss ∧ Inv (playP ss rs k i es).1 ss ∧ (playP ss rs k i es).2 = (rGoP c0 c1 c2 ss rs ls k.day i es).2 ∧ (playP ss rs k i es).1.yard = k.yard
  | [], k, ls, i, hR, hI, _, _, _ => ⟨hR, hI, rfl, rfl⟩
  | e :: l, k, ls, i, hR, hI, h0, h1, h2 => by
    obtain ⟨g1, g2⟩ := hR.error hroom rs e
    unfold playP rGoP
    rw [h0, h1, h2] at g1
    rw [← g1]
    cases hq : ((errorP k ss rs e).2 != 0)
    · have hq0 : (errorP k ss rs e).2 = 0 := by simpa using hq
      have hx : (rNextP c0 c1 c2 ss rs ls k.day e).1 = rWithP (rLotP ss ls e) ls := by
        rw [hq0] at g1
        unfold rNextP at g1 ⊢
        split at g1
        · rename_i hc
          dsimp only at g1
          rw [← g1] at hc
          simp at hc
        split at g1
        · simp at g1
        split at g1
        · rename_i hc
          dsimp only at g1
          rw [← g1] at hc
          simp at hc
        · rename_i a b c
          rw [if_neg a, if_neg b, if_neg c]
      rw [if_neg (by simp), if_neg (by simp), hx]
      have := play_same (rs := rs) hroom l (addK k e (errorP k ss rs e).1) (rWithP (rLotP ss ls e) ls) (i + 1) (hR.add hI hroom hq0) (inv_add hI (Prod.ext rfl hq0)) h0 h1 h2
      exact this
    · rw [if_pos rfl, if_pos rfl]
      exact ⟨hR, hI, rfl, rfl⟩
theorem adds_day {ss : List Site} {rs : List Rest} : ∀ (es : List Event) (k : Bk), (addsP ss rs k es).2 = 0 → ∀ e ∈ es, k.day ≤ e.day
  | [], _, _, _, h => by cases h
  | x :: l, k, h, e, he => by
    unfold addsP at h
    split at h
    · rename_i hx
      dsimp only at h
      rw [h] at hx
      simp at hx
    rename_i hx
    have hx0 : (errorP k ss rs x).2 = 0 := by simpa using hx
    have hd : k.day ≤ x.day := by
      unfold errorP at hx0
      split at hx0
      · rename_i hc
        dsimp only at hx0
        rw [hx0] at hc
        simp at hc
      split at hx0
      · simp at hx0
      · rename_i hd
        simpa using hd
    rcases List.mem_cons.1 he with rfl | he
    · exact hd
    · have := adds_day l _ h e he
      have e2 : (addK k x (errorP k ss rs x).1).day = x.day := rfl
      omega
theorem upTo_none {ss : List Site} {rs : List Rest} {day : Int} : ∀ (es : List Event) (k : Bk), (∀ e ∈ es, day < e.day) → upToP ss rs day k es = k
  | [], _, _ => rfl
  | e :: l, k, h => by
    have h1 := h e (by simp)
    unfold upToP
    rw [if_neg (by simp; omega)]
    exact upTo_none l k fun x hx => h x (by simp [hx])
/-- The events up to a day, as the reference takes them. -/
def upToE (day : Int) (es : List Event) : List Event := es.takeWhile fun e => decide (e.day ≤ day)
theorem upTo_same {ss : List Site} {rs : List Rest} {day : Int} : ∀ (es : List Event) (k : Bk), (addsP ss rs k es).2 = 0 → upToP ss rs day k es = (addsP ss rs k (upToE day es)).1 ∧ (addsP ss rs k (upToE day es)).2 = 0
  | [], _, _ => ⟨rfl, rfl⟩
  | e :: l, k, h => by
    have hd := adds_day (e :: l) k h
    unfold addsP at h
    split at h
    · rename_i hx
      dsimp only at h
      rw [h] at hx
      simp at hx
    rename_i hx
    have hx0 : (errorP k ss rs e).2 = 0 := by simpa using hx
    unfold upToP upToE
    by_cases hday : e.day ≤ day
    · rw [if_pos (by simpa using hday), if_neg hx, List.takeWhile_cons_of_pos (by simpa using hday)]
      unfold addsP
      rw [if_neg hx]
      exact upTo_same l _ h
    · rw [if_neg (by simpa using hday), List.takeWhile_cons_of_neg (by simpa using hday)]
      have h2 := adds_day l _ h
      have e2 : (addK k e (errorP k ss rs e).1).day = e.day := rfl
      refine ⟨?_, rfl⟩
      rw [upTo_none l k fun x hx => by have := h2 x hx; omega]
      rfl
end Go.Proofs.YtpohkolapgofdaaGreat
