/- Plain law: a book and the reference's lots go on alike. -/
/- Plain law: the program's book and the reference's lots behind many events. -/
import Derived.Test.YtpohkolapgofdaaGreatDoorQ0
import Derived.Test.YtpohkolapgofdaaGreatDoorI1
namespace Go.Proofs.YtpohkolapgofdaaGreatDoor
open Go.RowKit

/-- The book k and the reference's lots ls say the same. -/
structure Rel (k : Bk) (ls : List Lot) (ss : List Site) : Prop where
  opened : ∀ nm i, mget eqS nm k.m = some i → ∃ (j : Nat) (s : Stay), i = (j : Int) ∧ k.st[j]? = some s ∧ s.till < 0 ∧ s.lot.remain = nm
  closed : ∀ (j : Nat) (s : Stay), k.st[j]? = some s → s.till < 0 → mget eqS s.lot.remain k.m = some (j : Int)
  asc : Asc ls
  same : ∀ nm, lotK k nm = findLot nm ls
  lies : ∀ t ∈ ls, t.state = 1 → ∃ s, findSite t.site ss = some s ∧ 0 ≤ t.level ∧ t.level < s.room

theorem rel0 (A : Option Addr) (n c : Nat) (R : Option Addr) (rn rc : Nat) (c0 c1 c2 : Int) (ss : List Site) : Rel (bk0 A n c R rn rc c0 c1 c2) [] ss where
  opened := fun _ _ h => by cases h
  closed := fun j s h => by simp [bk0] at h
  asc := List.Pairwise.nil
  same := fun _ => rfl
  lies := fun _ h => by cases h

section
variable {k : Bk} {ls : List Lot} {ss : List Site}
theorem Rel.mem (h : Rel k ls ss) {l : Lot} : l ∈ lotsNow k.st ↔ l ∈ ls := by
  constructor
  · intro hl
    obtain ⟨j, s, hj, ht, rfl⟩ := lotsNow_mem.1 hl
    have h1 := h.closed j s hj ht
    have h2 : lotK k s.lot.remain = some s.lot := by simp [lotK, h1, hj]
    rw [h.same] at h2
    exact findLot_mem h2
  · intro hl
    have h1 := findLot_of_mem h.asc hl
    rw [← h.same] at h1
    unfold lotK at h1
    cases hm : mget eqS l.remain k.m with
    | none => rw [hm] at h1; cases h1
    | some i =>
      obtain ⟨j, s, rfl, hj, ht, hr⟩ := h.opened _ _ hm
      rw [hm] at h1
      simp only [Option.bind_some, Int.toNat_natCast, hj, Option.map_some, Option.some.injEq] at h1
      exact lotsNow_mem.2 ⟨j, s, hj, ht, h1⟩
theorem Rel.occ (h : Rel k ls ss) (si : ByteArray) (lv : Int) : occP si lv lv (lotsNow k.st) = rOccP si lv ls := by
  rw [Bool.eq_iff_iff, occ_iff, rOcc_iff]
  constructor
  · rintro ⟨t, ht, h1, h2, h3, h4⟩
    exact ⟨t, h.mem.1 ht, h1, h2, by omega⟩
  · rintro ⟨t, ht, h1, h2, h3⟩
    exact ⟨t, h.mem.2 ht, h1, h2, by omega, by omega⟩
theorem Rel.busy (h : Rel k ls ss) (si : ByteArray) (lo hi : Int) (hlh : lo ≤ hi) : occP si lo (hi - 1) (lotsNow k.st) = rBusyGo si ls (hi - lo).toNat lo := by
  rw [Bool.eq_iff_iff, occ_iff, busy_iff]
  constructor
  · rintro ⟨t, ht, h1, h2, h3, h4⟩
    exact ⟨t, h.mem.1 ht, h1, h2, h3, by omega⟩
  · rintro ⟨t, ht, h1, h2, h3, h4⟩
    exact ⟨t, h.mem.2 ht, h1, h2, h3, by omega⟩
theorem Rel.cov (h : Rel k ls ss) {si : ByteArray} {s : Site} (hs : findSite si ss = some s) (hr : s.room ≤ 12) (lv : Int) : covP s.kind si lv (lotsNow k.st) = rCovP s.kind s.name s.room lv ls := by
  rw [rCovP, covGo_busy, covP, findSite_name hs]
  congr 1
  rw [Bool.eq_iff_iff, occ_iff, busy_iff]
  constructor
  · rintro ⟨t, ht, h1, h2, h3, h4⟩
    have hm := h.mem.1 ht
    obtain ⟨s', hs', h5, h6⟩ := h.lies t hm h1
    rw [h2, hs] at hs'
    cases hs'
    exact ⟨t, hm, h1, h2, h3, by omega⟩
  · rintro ⟨t, ht, h1, h2, h3, h4⟩
    exact ⟨t, h.mem.2 ht, h1, h2, h3, by omega⟩
theorem Rel.place (h : Rel k ls ss) (hroom : ∀ s ∈ ss, s.room ≤ 12) (si : ByteArray) (lv co : Int) : placeP k ss si lv co = rPlaceP k.c0 k.c1 k.c2 ss ls si lv co := by
  unfold placeP rPlaceP
  cases hs : findSite si ss with
  | none => rfl
  | some s =>
    dsimp only
    rw [h.occ, ← h.cov hs (hroom s (findSite_mem hs)), findSite_name hs]
theorem Rel.open (h : Rel k ls ss) {rs : List Rest} {t : Lot} {s : Site} (hs : findSite t.site ss = some s) (hr : s.room ≤ 12) (dy : Int) (o : Bool) :
    openP k rs s t dy o = if rCovP s.kind s.name s.room t.level ls then 18 else if !o && decide (dy < wrap64 (t.since + restP s.soil t.container rs)) then 17 else 0 := by
  unfold openP restOverP
  rw [findSite_name hs, h.cov hs hr, findSite_name hs, Bool.and_comm]
theorem siteKind_same (ss : List Site) (nm : ByteArray) : siteKind ss nm = siteKind' ss nm := rfl

theorem Rel.error (h : Rel k ls ss) (hroom : ∀ s ∈ ss, s.room ≤ 12) (rs : List Rest) (e : Event) :
    (errorP k ss rs e).2 = (rNextP k.c0 k.c1 k.c2 ss rs ls k.day e).2 ∧ ((errorP k ss rs e).2 = 0 → (errorP k ss rs e).1 = rLotP ss ls e) := by
  unfold errorP rNextP
  cases hc : (checkEventP e != 0)
  · simp only [Bool.false_eq_true, if_false]
    by_cases hd : e.day < k.day
    rotate_left
    · simp only [hd, decide_false, Bool.false_eq_true, if_false]
      have hk : 0 ≤ e.kind ∧ e.kind ≤ 4 := by
        have := checkEvent_ok (show checkEventP e = 0 by simpa using hc)
        exact ⟨this.1, this.2.1⟩
      have hfin : ∀ x : Int, (if (x != 0) = true then (([], x) : List Lot × Int) else (rWithP (rLotP ss ls e) ls, 0)).2 = x := fun x => by
        split
        · rfl
        · rename_i hx
          simp at hx
          exact hx.symm
      rw [hfin]
      unfold errorQ rErrP
      simp only [h.same]
      cases hp : (e.kind == 0 || e.kind == 2)
      · simp only [Bool.false_eq_true, if_false]
        unfold rTakeP
        cases hf : findLot e.remain ls with
        | none => simp
        | some t =>
          simp only [Option.isSome_some, Bool.not_true, Bool.false_eq_true, if_false, Option.getD_some]
          cases hst : (t.state != 1)
          · simp only [Bool.false_eq_true, if_false]
            obtain ⟨s, hs, h1, h2⟩ := h.lies t (findLot_mem hf) (by simpa using hst)
            have hsk : siteKind ss t.site = s.kind := by rw [siteKind, hs]
            have hl : liesP k rs ss t e.day e.order = openP k rs s t e.day e.order := by rw [liesP, hs]
            rw [hs, hsk, hl, h.open hs (hroom s (findSite_mem hs))]
            dsimp only
            unfold rLiesP rLotP
            rw [hp, hf]
            have hkk : e.kind = 1 ∨ e.kind = 4 ∨ e.kind = 3 := by simp at hp; omega
            rcases hkk with hk | hk | hk
            · simp [hk]
            · simp [hk]
            · simp only [hk]
              cases hk0 : (s.kind != 0)
              · cases hlv : decide (t.level ≤ e.level)
                · have hb := h.busy t.site e.level t.level (by simp at hlv; omega)
                  rw [hb, findSite_name hs]
                  cases rBusyGo t.site ls (t.level - e.level).toNat e.level <;> simp
                · simp
              · simp
          · simp
      · rw [if_pos rfl, if_pos rfl]
        unfold rPutP
        rw [h.place hroom]
        cases ha : (e.kind == 0 && (findLot e.remain ls).isSome)
        · cases hb : (e.kind == 2 && !(findLot e.remain ls).isSome)
          · cases hg : (e.kind == 2 && ((findLot e.remain ls).getD zeroLot).state != 0)
            · simp only [Bool.false_eq_true, if_false]
              cases hq : (rPlaceP k.c0 k.c1 k.c2 ss ls e.site e.level e.container != 0)
              · have hq0 : rPlaceP k.c0 k.c1 k.c2 ss ls e.site e.level e.container = 0 := by simpa using hq
                simp [hq0, rLotP, hp, siteKind_same]
              · simp only [if_true, true_and]
                intro h0
                rw [h0] at hq
                simp at hq
            · simp
          · simp
        · simp
    · simp only [hd, decide_true, if_true]
      simp
  · rw [if_pos rfl, if_pos rfl]
    refine ⟨rfl, fun h0 => ?_⟩
    dsimp only at h0
    rw [h0] at hc
    simp at hc

theorem put_lies {rs : List Rest} {e : Event} {l : Lot} (hr : Rel k ls ss) (h : errorP k ss rs e = (l, 0)) (hl : l.state = 1) : ∃ s, findSite l.site ss = some s ∧ 0 ≤ l.level ∧ l.level < s.room := by
  unfold errorP at h
  by_cases hc : checkEventP e = 0
  · obtain ⟨k1, k2, _, _, hput, hlow⟩ := checkEvent_ok hc
    rw [if_neg (by simp [hc])] at h
    by_cases hd : e.day < k.day
    · rw [if_pos (by simpa using hd)] at h
      simp at h
    rw [if_neg (by simpa using hd)] at h
    unfold errorQ at h
    by_cases hk : (e.kind == 0 || e.kind == 2) = true
    · obtain ⟨h1, h2, _⟩ := hput (by simpa using hk)
      rw [if_pos hk] at h
      split at h
      · simp at h
      split at h
      · simp at h
      split at h
      · simp at h
      split at h
      · rename_i hp
        simp only [Prod.mk.injEq] at h
        rw [h.2] at hp
        simp at hp
      · rename_i hp
        have hp0 : placeP k ss e.site e.level e.container = 0 := by simpa using hp
        obtain ⟨s, hs⟩ := placeP_site hp0
        unfold placeP at hp0
        rw [hs] at hp0
        dsimp only at hp0
        split at hp0
        · cases hp0
        rename_i hro
        simp only [Prod.mk.injEq] at h
        rw [← h.1]
        exact ⟨s, hs, h1, by simpa using hro⟩
    · rw [if_neg hk] at h
      split at h
      · simp at h
      rename_i hs
      have hs' : (lotK k e.remain).isSome = true := by
        rw [Option.isSome_iff_ne_none]
        simpa using hs
      obtain ⟨old, ho⟩ := Option.isSome_iff_exists.1 hs'
      rw [ho] at h
      simp only [Option.getD_some] at h
      split at h
      · simp at h
      rename_i hst
      rw [hr.same] at ho
      obtain ⟨s, h3, h4, h5⟩ := hr.lies _ (findLot_mem ho) (by simpa using hst)
      split at h
      · simp only [Prod.mk.injEq] at h
        rw [← h.1] at hl
        simp at hl
      split at h
      · simp only [Prod.mk.injEq] at h
        rw [← h.1] at hl
        simp at hl
      rename_i h6 h7
      split at h
      · simp at h
      split at h
      · simp at h
      rename_i h8
      split at h
      · simp at h
      have hk3 : e.kind = 3 := by simp at hk h6 h7; omega
      obtain ⟨h1, h2⟩ := hlow hk3
      simp only [Prod.mk.injEq] at h
      rw [← h.1]
      simp at h8
      exact ⟨s, h3, h1, by dsimp only; omega⟩
  · rw [if_pos (by simpa using hc)] at h
    simp only [Prod.mk.injEq] at h
    exact absurd h.2 hc

theorem lotP_remain (ss : List Site) (ls : List Lot) (e : Event) : (rLotP ss ls e).remain = e.remain := by
  unfold rLotP
  split
  · rfl
  split
  · rfl
  split <;> rfl
theorem Rel.add (h : Rel k ls ss) (hi : Inv k ss) (hroom : ∀ s ∈ ss, s.room ≤ 12) {rs : List Rest} {e : Event} (h0 : (errorP k ss rs e).2 = 0) :
    Rel (addK k e (errorP k ss rs e).1) (rWithP (rLotP ss ls e) ls) ss := by
  have hl := (h.error hroom rs e).2 h0
  have hrm := lotP_remain ss ls e
  have he : errorP k ss rs e = (rLotP ss ls e, 0) := Prod.ext hl h0
  have hput := fun hs => put_lies h he hs
  have hday : 0 ≤ e.day := by
    have hc : checkEventP e = 0 := by
      unfold errorP at h0
      split at h0
      · exact h0
      · rename_i hx; simpa using hx
    exact (checkEvent_ok hc).2.2.1
  rw [hl]
  generalize rLotP ss ls e = l at *
  have hst : ∀ (i : Option Int) (j : Nat) (s : Stay), (closeAt i e.day k.st)[j]? = some s → s.till < 0 → k.st[j]? = some s ∧ ∀ n : Nat, i = some (n : Int) → n ≠ j := by
    intro i j s hj ht
    cases i with
    | none => exact ⟨hj, fun n hn => by cases hn⟩
    | some i =>
      simp only [closeAt, List.getElem?_modify] at hj
      cases hk : k.st[j]? with
      | none => rw [hk] at hj; cases hj
      | some s0 =>
        rw [hk] at hj
        simp only [Option.map_eq_map, Option.map_some, Option.some.injEq] at hj
        split at hj
        · subst hj
          dsimp only at ht
          omega
        · rename_i hne
          subst hj
          refine ⟨rfl, fun n hn => ?_⟩
          simp only [Option.some.injEq] at hn
          subst hn
          simpa using hne
  have hst2 : ∀ (i : Option Int) (j : Nat) (s : Stay), k.st[j]? = some s → (∀ n : Nat, i = some (n : Int) → n ≠ j) → (∀ x, i = some x → ∃ n : Nat, x = (n : Int)) → (closeAt i e.day k.st)[j]? = some s := by
    intro i j s hj hn hx
    cases i with
    | none => exact hj
    | some i =>
      obtain ⟨n, rfl⟩ := hx i rfl
      have hnj := hn n rfl
      simp [closeAt, List.getElem?_modify, hj, hnj]
  constructor
  · intro nm i hm
    unfold addK at hm ⊢
    dsimp only at hm ⊢
    rw [mgetS_mput] at hm
    split at hm
    · rename_i hq
      simp only [Option.some.injEq] at hm
      refine ⟨k.st.length, ⟨l, -1⟩, hm.symm, ?_, (by show (-1 : Int) < 0; decide), ?_⟩
      · rw [List.getElem?_append_right (by rw [closeAt_len]; exact Nat.le_refl _), closeAt_len]
        simp
      · dsimp only; rw [hrm]; exact (eqS_eq hq).symm
    · rename_i hq
      obtain ⟨j, s, rfl, hj, ht, hr⟩ := h.opened nm i hm
      refine ⟨j, s, rfl, ?_, ht, hr⟩
      rw [List.getElem?_append_left (by rw [closeAt_len]; exact (List.getElem?_eq_some_iff.1 hj).1)]
      refine hst2 _ _ _ hj (fun n hn => ?_) (fun x hx => ?_)
      · rintro rfl
        obtain ⟨j', s', h1, h2, h3, h4⟩ := h.opened _ _ hn
        have e1 : j' = n := by omega
        subst e1
        rw [hj] at h2
        cases h2
        rw [← hr, h4, eqS_refl] at hq
        exact hq rfl
      · obtain ⟨j', s', h1, _⟩ := h.opened _ _ hx
        exact ⟨j', h1⟩
  · intro j s hj ht
    unfold addK at hj ⊢
    dsimp only at hj ⊢
    rw [mgetS_mput]
    by_cases hjl : j < k.st.length
    · rw [List.getElem?_append_left (by rw [closeAt_len]; exact hjl)] at hj
      obtain ⟨h1, h2⟩ := hst _ _ _ hj ht
      have h3 := h.closed j s h1 ht
      split
      · rename_i hq
        rw [← eqS_eq hq] at h2
        exact absurd rfl (h2 j h3)
      · exact h3
    · rw [List.getElem?_append_right (by rw [closeAt_len]; omega), closeAt_len] at hj
      have hj0 : j - k.st.length = 0 := by
        have := (List.getElem?_eq_some_iff.1 hj).1
        simpa using this
      rw [hj0] at hj
      simp only [List.getElem?_cons_zero, Option.some.injEq] at hj
      subst hj
      dsimp only
      rw [hrm, eqS_refl, if_pos rfl]
      congr 1
      omega
  · exact asc_with h.asc
  · intro nm
    rw [lotK_add hi, findLot_with h.asc, h.same, hrm]
    unfold eqS
    by_cases hq : nm.toList = e.remain.toList
    · simp [hq]
    · have hq' : ¬ e.remain.toList = nm.toList := fun e => hq e.symm
      simp [hq, hq']
  · intro t ht hs
    rcases mem_with ht with rfl | ht
    · exact hput hs
    · exact h.lies t ht hs
end
end Go.Proofs.YtpohkolapgofdaaGreatDoor
namespace Go.Proofs.YtpohkolapgofdaaGreatDoor
open Go.RowKit

/-- The book behind the accepted beginning, its length, the next one's error. -/
def playP (ss : List Site) (rs : List Rest) : Bk → Nat → List Event → Bk × Nat × Int
  | k, i, [] => (k, i, 0)
  | k, i, e :: l => if (errorP k ss rs e).2 != 0 then (k, i, (errorP k ss rs e).2) else playP ss rs (addK k e (errorP k ss rs e).1) (i + 1) l
theorem adds_play (ss : List Site) (rs : List Rest) : ∀ (es : List Event) (k : Bk) (i : Nat), addsP ss rs k es = ((playP ss rs k i es).1, (playP ss rs k i es).2.2)
  | [], _, _ => rfl
  | e :: l, k, i => by
    unfold addsP playP
    split
    · rfl
    · exact adds_play ss rs l _ (i + 1)
theorem addK_yard (k : Bk) (e : Event) (l : Lot) : (addK k e l).c0 = k.c0 ∧ (addK k e l).c1 = k.c1 ∧ (addK k e l).c2 = k.c2 ∧ (addK k e l).day = e.day ∧ (addK k e l).yard = k.yard := ⟨rfl, rfl, rfl, rfl, rfl⟩

theorem play_same {ss : List Site} {rs : List Rest} {c0 c1 c2 : Int} (hroom : ∀ s ∈ ss, s.room ≤ 12) : ∀ (es : List Event) (k : Bk) (ls : List Lot) (i : Nat), Rel k ls ss → Inv k ss → k.c0 = c0 → k.c1 = c1 → k.c2 = c2 →
    Rel (playP ss rs k i es).1 (rGoP c0 c1 c2 ss rs ls k.day i es).1 ss ∧ Inv (playP ss rs k i es).1 ss ∧ (playP ss rs k i es).2 = (rGoP c0 c1 c2 ss rs ls k.day i es).2 ∧ (playP ss rs k i es).1.yard = k.yard
  | [], k, ls, i, hR, hI, _, _, _ => ⟨hR, hI, rfl, rfl⟩
  | e :: l, k, ls, i, hR, hI, h0, h1, h2 => by
    obtain ⟨g1, g2⟩ := hR.error hroom rs e
    unfold playP rGoP
    rw [h0, h1, h2] at g1
    rw [← g1]
    cases hq : ((errorP k ss rs e).2 != 0)
    · have hq0 : (errorP k ss rs e).2 = 0 := by simpa using hq
      have hx : (rNextP c0 c1 c2 ss rs ls k.day e).1 = rWithP (rLotP ss ls e) ls := by
        rw [hq0] at g1
        unfold rNextP at g1 ⊢
        split at g1
        · rename_i hc
          dsimp only at g1
          rw [← g1] at hc
          simp at hc
        split at g1
        · simp at g1
        split at g1
        · rename_i hc
          dsimp only at g1
          rw [← g1] at hc
          simp at hc
        · rename_i a b c
          rw [if_neg a, if_neg b, if_neg c]
      rw [if_neg (by simp), if_neg (by simp), hx]
      have := play_same (rs := rs) hroom l (addK k e (errorP k ss rs e).1) (rWithP (rLotP ss ls e) ls) (i + 1) (hR.add hI hroom hq0) (inv_add hI (Prod.ext rfl hq0)) h0 h1 h2
      exact this
    · rw [if_pos rfl, if_pos rfl]
      exact ⟨hR, hI, rfl, rfl⟩
theorem adds_day {ss : List Site} {rs : List Rest} : ∀ (es : List Event) (k : Bk), (addsP ss rs k es).2 = 0 → ∀ e ∈ es, k.day ≤ e.day
  | [], _, _, _, h => by cases h
  | x :: l, k, h, e, he => by
    unfold addsP at h
    split at h
    · rename_i hx
      dsimp only at h
      rw [h] at hx
      simp at hx
    rename_i hx
    have hx0 : (errorP k ss rs x).2 = 0 := by simpa using hx
    have hd : k.day ≤ x.day := by
      unfold errorP at hx0
      split at hx0
      · rename_i hc
        dsimp only at hx0
        rw [hx0] at hc
        simp at hc
      split at hx0
      · simp at hx0
      · rename_i hd
        simpa using hd
    rcases List.mem_cons.1 he with rfl | he
    · exact hd
    · have := adds_day l _ h e he
      have e2 : (addK k x (errorP k ss rs x).1).day = x.day := rfl
      omega
theorem upTo_none {ss : List Site} {rs : List Rest} {day : Int} : ∀ (es : List Event) (k : Bk), (∀ e ∈ es, day < e.day) → upToP ss rs day k es = k
  | [], _, _ => rfl
  | e :: l, k, h => by
    have h1 := h e (by simp)
    unfold upToP
    rw [if_neg (by simp; omega)]
    exact upTo_none l k fun x hx => h x (by simp [hx])
/-- The events up to a day, as the reference takes them. -/
def upToE (day : Int) (es : List Event) : List Event := es.takeWhile fun e => decide (e.day ≤ day)
theorem upTo_same {ss : List Site} {rs : List Rest} {day : Int} : ∀ (es : List Event) (k : Bk), (addsP ss rs k es).2 = 0 → upToP ss rs day k es = (addsP ss rs k (upToE day es)).1 ∧ (addsP ss rs k (upToE day es)).2 = 0
  | [], _, _ => ⟨rfl, rfl⟩
  | e :: l, k, h => by
    have hd := adds_day (e :: l) k h
    unfold addsP at h
    split at h
    · rename_i hx
      dsimp only at h
      rw [h] at hx
      simp at hx
    rename_i hx
    have hx0 : (errorP k ss rs e).2 = 0 := by simpa using hx
    unfold upToP upToE
    by_cases hday : e.day ≤ day
    · rw [if_pos (by simpa using hday), if_neg hx, List.takeWhile_cons_of_pos (by simpa using hday)]
      unfold addsP
      rw [if_neg hx]
      exact upTo_same l _ h
    · rw [if_neg (by simpa using hday), List.takeWhile_cons_of_neg (by simpa using hday)]
      have h2 := adds_day l _ h
      have e2 : (addK k e (errorP k ss rs e).1).day = e.day := rfl
      refine ⟨?_, rfl⟩
      rw [upTo_none l k fun x hx => by have := h2 x hx; omega]
      rfl
end Go.Proofs.YtpohkolapgofdaaGreatDoor
