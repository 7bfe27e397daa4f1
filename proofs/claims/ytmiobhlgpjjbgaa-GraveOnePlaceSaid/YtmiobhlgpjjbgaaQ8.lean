/- Plain law of GraveOnePlace: each remain that was buried by a day has one lot, and no two lie at one level. -/
import Derived.Test.YtmiobhlgpjjbgaaQ3
namespace Go.Proofs.Ytmiobhlgpjjbgaa
open Go.RowKit

theorem next_ok {c0 c1 c2 : Int} {ss : List Site} {rs : List Rest} {ls : List Lot} {last : Int} {e : Event} (h : (rNextP c0 c1 c2 ss rs ls last e).2 = 0) :
    (rNextP c0 c1 c2 ss rs ls last e).1 = rWithP (rLotP ss ls e) ls ∧ rErrP c0 c1 c2 ss rs ls e = 0 ∧ checkEventP e = 0 ∧ last ≤ e.day := by
  unfold rNextP at h ⊢
  split at h
  · rename_i hx; dsimp only at h; rw [h] at hx; simp at hx
  rename_i g1
  split at h
  · simp at h
  rename_i g2
  split at h
  · rename_i hx; dsimp only at h; rw [h] at hx; simp at hx
  rename_i g3
  rw [if_neg g1, if_neg g2, if_neg g3]
  exact ⟨rfl, by simpa using g3, by simpa using g1, by simpa using g2⟩

/-- No two lots lie at one level. -/
def Apart (ls : List Lot) : Prop := ∀ a ∈ ls, ∀ b ∈ ls, a.state = 1 → b.state = 1 → a.site = b.site → a.level = b.level → a = b
theorem apart_with {l : Lot} {ls : List Lot} (h : Apart ls) (hl : l.state = 1 → ∀ t ∈ ls, t.state = 1 → t.site = l.site → t.level ≠ l.level) : Apart (rWithP l ls) := by
  intro a ha b hb h1 h2 h3 h4
  rcases mem_with ha with ea | ha'
  · rcases mem_with hb with eb | hb'
    · rw [ea, eb]
    · subst ea
      exact absurd h4.symm (hl h1 b hb' h2 h3.symm)
  · rcases mem_with hb with eb | hb'
    · subst eb
      exact absurd h4 (hl h2 a ha' h1 h3)
    · exact h a ha' b hb' h1 h2 h3 h4
theorem len_with (l : Lot) : ∀ ls : List Lot, (rWithP l ls).length ≤ ls.length + 1
  | [] => by simp [rWithP]
  | x :: r => by
    unfold rWithP
    have := len_with l r
    split
    · simp only [List.length_cons]; omega
    split
    · simp only [List.length_cons]; omega
    · simp only [List.length_cons]; omega

section
variable {c0 c1 c2 : Int} {ss : List Site} {rs : List Rest} {ls : List Lot} {e : Event}
theorem place_free {si : ByteArray} {lv co : Int} (h : rPlaceP c0 c1 c2 ss ls si lv co = 0) : rOccP si lv ls = false := by
  unfold rPlaceP at h
  split at h
  · simp at h
  · split at h
    · simp at h
    split at h
    · simp at h
    split at h
    · simp at h
    · rename_i s hs _ _ h3
      simpa using h3
theorem put_ok (h : rErrP c0 c1 c2 ss rs ls e = 0) (hk : e.kind = 0 ∨ e.kind = 2) : rPlaceP c0 c1 c2 ss ls e.site e.level e.container = 0 ∧ (e.kind = 0 → findLot e.remain ls = none) := by
  unfold rErrP at h
  rw [if_pos (by simpa using hk)] at h
  unfold rPutP at h
  split at h
  · simp at h
  rename_i g1
  split at h
  · simp at h
  split at h
  · simp at h
  refine ⟨h, fun h0 => ?_⟩
  cases hf : findLot e.remain ls with
  | none => rfl
  | some t => rw [h0, hf] at g1; simp at g1
theorem lot_apart (hlies : ∀ t ∈ ls, t.state = 1 → ∃ s, findSite t.site ss = some s ∧ 0 ≤ t.level ∧ t.level < s.room) (h : rErrP c0 c1 c2 ss rs ls e = 0) :
    (rLotP ss ls e).state = 1 → ∀ t ∈ ls, t.state = 1 → t.site = (rLotP ss ls e).site → t.level ≠ (rLotP ss ls e).level := by
  by_cases hk : e.kind = 0 ∨ e.kind = 2
  · have h1 := place_free (put_ok h hk).1
    unfold rLotP
    rw [if_pos (by simpa using hk)]
    dsimp only
    intro _ t ht hs1 hs2 hs3
    rw [Bool.eq_false_iff] at h1
    exact h1 (rOcc_iff.2 ⟨t, ht, hs1, hs2, hs3⟩)
  · unfold rErrP at h
    rw [if_neg (by simpa using hk)] at h
    unfold rLotP
    rw [if_neg (by simpa using hk)]
    by_cases hk3 : e.kind = 3
    · rw [if_pos (by simpa using hk3)]
      unfold rTakeP at h
      cases hf : findLot e.remain ls with
      | none => rw [hf] at h; simp at h
      | some t0 =>
        rw [hf] at h
        dsimp only at h
        split at h
        · simp at h
        rename_i hs1
        have hs1' : t0.state = 1 := by simpa using hs1
        obtain ⟨s, hs, _, _⟩ := hlies t0 (findLot_mem hf) hs1'
        rw [hs] at h
        dsimp only at h
        unfold rLiesP at h
        split at h
        · simp at h
        split at h
        · simp at h
        rename_i g2
        split at h
        · simp at h
        rename_i g3
        simp only [hk3, beq_self_eq_true, Bool.true_and, decide_eq_true_eq] at g2 g3
        simp only [Option.getD_some]
        intro _ t ht hs4 hs5 hs6
        refine g3 (busy_iff.2 ⟨t, ht, hs4, ?_, by omega, by omega⟩)
        rw [findSite_name hs]
        exact hs5
    · rw [if_neg (by simpa using hk3)]
      intro hst
      exfalso
      split at hst
      · simp at hst
      · simp at hst
end

/-- What holds of the lots behind accepted events. -/
structure One (es : List Event) (ls : List Lot) : Prop where
  apart : Apart ls
  len : ls.length ≤ es.length
  has : ∀ e ∈ es, (findLot e.remain ls).isSome = true
  of : ∀ nm, (findLot nm ls).isSome = true → ∃ e ∈ es, e.remain = nm
  fresh : es.Pairwise fun a b => b.kind = 0 → a.remain ≠ b.remain
theorem one0 : One [] [] := ⟨fun _ h => (by cases h), Nat.le_refl _, fun _ h => (by cases h), fun _ h => (by cases h), List.Pairwise.nil⟩
theorem one_add {c0 c1 c2 : Int} {ss : List Site} {rs : List Rest} {ls : List Lot} {es : List Event} {e : Event} (hO : One es ls) (ha : Asc ls)
    (hlies : ∀ t ∈ ls, t.state = 1 → ∃ s, findSite t.site ss = some s ∧ 0 ≤ t.level ∧ t.level < s.room) (h : rErrP c0 c1 c2 ss rs ls e = 0) : One (es ++ [e]) (rWithP (rLotP ss ls e) ls) where
  apart := apart_with hO.apart (lot_apart hlies h)
  len := by
    have h1 := len_with (rLotP ss ls e) ls
    have h2 := hO.len
    simp only [List.length_append, List.length_cons, List.length_nil]
    omega
  has := fun x hx => by
    rw [findLot_with ha, lotP_remain]
    split
    · rfl
    · rename_i hne
      rcases List.mem_append.1 hx with hx | hx
      · exact hO.has x hx
      · have : x = e := by simpa using hx
        subst this
        simp at hne
  of := fun nm hnm => by
    rw [findLot_with ha, lotP_remain] at hnm
    split at hnm
    · rename_i he
      exact ⟨e, by simp, bytes_ext (eq_of_beq he)⟩
    · obtain ⟨x, hx, h1⟩ := hO.of nm hnm
      exact ⟨x, by simp [hx], h1⟩
  fresh := List.pairwise_append.2 ⟨hO.fresh, List.pairwise_singleton _ _, fun a ha' b hb hk => by
    have : b = e := by simpa using hb
    subst this
    intro he
    have h1 := hO.has a ha'
    rw [he, (put_ok h (.inl hk)).2 hk] at h1
    cases h1⟩
theorem one_adds {ss : List Site} {rs : List Rest} (hroom : ∀ s ∈ ss, s.room ≤ 12) : ∀ (es es0 : List Event) (k : Bk) (ls : List Lot), Rel k ls ss → Inv k ss → One es0 ls → (addsP ss rs k es).2 = 0 → ∃ ls', Rel (addsP ss rs k es).1 ls' ss ∧ One (es0 ++ es) ls'
  | [], es0, k, ls, hR, _, hO, _ => ⟨ls, hR, by rw [List.append_nil]; exact hO⟩
  | e :: l, es0, k, ls, hR, hI, hO, h => by
    unfold addsP at h ⊢
    cases hq : ((errorP k ss rs e).2 != 0)
    · rw [hq, if_neg Bool.false_ne_true] at h
      rw [if_neg Bool.false_ne_true]
      have hq0 : (errorP k ss rs e).2 = 0 := by simpa using hq
      have g1 := (hR.error hroom rs e).1
      rw [hq0] at g1
      have h3 := (next_ok g1.symm).2.1
      obtain ⟨ls', r1, r2⟩ := one_adds hroom l (es0 ++ [e]) (addK k e (errorP k ss rs e).1) (rWithP (rLotP ss ls e) ls) (hR.add hI hroom hq0) (inv_add hI (Prod.ext rfl hq0)) (one_add hO hR.asc hR.lies h3) h
      exact ⟨ls', r1, by simpa using r2⟩
    · rw [hq, if_pos rfl] at h
      dsimp only at h
      simp [h] at hq
theorem upToE_sub {day : Int} : ∀ {es : List Event}, ∃ post, es = upToE day es ++ post
  | [] => ⟨[], rfl⟩
  | e :: l => by
    unfold upToE
    by_cases h : e.day ≤ day
    · obtain ⟨post, hp⟩ := upToE_sub (day := day) (es := l)
      refine ⟨post, ?_⟩
      rw [List.takeWhile_cons_of_pos (by simpa using h), List.cons_append]
      unfold upToE at hp
      rw [← hp]
    · rw [List.takeWhile_cons_of_neg (by simpa using h)]
      exact ⟨e :: l, rfl⟩
theorem one_place {ss : List Site} {rs : List Rest} {c0 c1 c2 : Int} {es : List Event} (A R : Option Addr) (n c rn rc : Nat) (h : rCheckP c0 c1 c2 ss rs es = 0) (day : Int) :
    ∃ ls, Rel (upToP ss rs day (bk0 A n c R rn rc c0 c1 c2) es) ls ss ∧ Apart ls ∧ ls.length ≤ es.length ∧
      ∀ e ∈ es, (e.day ≤ day → (findLot e.remain ls).isSome = true) ∧ (e.kind = 0 → day < e.day → findLot e.remain ls = none) := by
  obtain ⟨_, _, _, h4, h5, h6⟩ := (read_check ss rs A R n c rn rc c0 c1 c2 es).2 h
  have hroom := yard_rooms h5
  obtain ⟨g1, _, _, g4⟩ := upTo_check (A := A) (R := R) (n := n) (c := c) (rn := rn) (rc := rc) h day
  obtain ⟨ls, r1, r2⟩ := one_adds hroom (upToE day es) [] _ [] (rel0 A n c R rn rc c0 c1 c2 ss) (inv0 _ _ _ _ _ _ _ _ _ _) one0 g4
  obtain ⟨ls2, _, q2⟩ := one_adds hroom es [] _ [] (rel0 A n c R rn rc c0 c1 c2 ss) (inv0 _ _ _ _ _ _ _ _ _ _) one0 h4
  rw [List.nil_append] at r2 q2
  rw [← g1] at r1
  obtain ⟨post, p1, p2⟩ := drop_upToE (day := day) es _ h4
  refine ⟨ls, r1, r2.apart, ?_, fun e he => ⟨fun hd => ?_, fun hk hd => ?_⟩⟩
  · have := r2.len
    have h7 : es.length = (upToE day es).length + post.length := by
      conv => lhs; rw [p1]
      simp
    omega
  · rw [p1] at he
    rcases List.mem_append.1 he with he | he
    · exact r2.has e he
    · have := p2 e he
      omega
  · cases hf : findLot e.remain ls with
    | none => rfl
    | some t =>
      exfalso
      obtain ⟨x, hx, hxe⟩ := r2.of e.remain (by rw [hf]; rfl)
      have hf2 := q2.fresh
      rw [p1] at hf2 he
      rcases List.mem_append.1 he with he | he
      · have := mem_upToE e he
        omega
      · exact (List.pairwise_append.1 hf2).2.2 x hx e he hk hxe

/-- How many lots are of one remain. -/
theorem cnt_none {nm : ByteArray} : ∀ {ls : List Lot}, findLot nm ls = none → ls.countP (fun t => t.remain.toList == nm.toList) = 0
  | [], _ => rfl
  | x :: l, h => by
    unfold findLot at h
    split at h
    · cases h
    · rename_i hx
      rw [List.countP_cons_of_neg (p := fun t : Lot => t.remain.toList == nm.toList) hx]
      exact cnt_none h
theorem cnt_asc {nm : ByteArray} : ∀ {ls : List Lot}, Asc ls → (findLot nm ls).isSome = true → ls.countP (fun t => t.remain.toList == nm.toList) = 1
  | [], _, h => by cases h
  | x :: l, ha, h => by
    obtain ⟨h1, h2⟩ := List.pairwise_cons.1 ha
    unfold findLot at h
    split at h
    · rename_i hx
      rw [List.countP_cons_of_pos (p := fun t : Lot => t.remain.toList == nm.toList) hx]
      have e := bytes_ext (eq_of_beq hx)
      have h3 := findLot_less (nm := nm) fun t ht => by rw [← e]; exact h1 t ht
      rw [cnt_none h3]
    · rename_i hx
      rw [List.countP_cons_of_neg (p := fun t : Lot => t.remain.toList == nm.toList) hx]
      exact cnt_asc h2 h
end Go.Proofs.Ytmiobhlgpjjbgaa
