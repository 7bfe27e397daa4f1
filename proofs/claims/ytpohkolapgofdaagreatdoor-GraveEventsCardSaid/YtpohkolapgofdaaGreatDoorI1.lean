/- Plain: what an accepted event does to a book; the book behind a list of events. -/
import Derived.Test.YtpohkolapgofdaaGreatDoorB4
import Derived.Test.YtpohkolapgofdaaGreatDoorP1
namespace Go.Proofs.YtpohkolapgofdaaGreatDoor
open Go.RowKit

theorem eqS_eq {a b : ByteArray} (h : eqS a b = true) : a = b := by
  have h1 : a.toList = b.toList := eq_of_beq h
  rw [ByteArray.toList_eq, ByteArray.toList_eq] at h1
  exact ByteArray.ext (Array.ext' h1)
theorem eqS_refl (a : ByteArray) : eqS a a = true := by simp [eqS]
theorem mget_mput' {K V : Type} {eq : K → K → Bool} (h1 : ∀ {a b}, eq a b = true → a = b) (h2 : ∀ a, eq a a = true) (k k' : K) (v : V) : ∀ m : List (K × V), mget eq k' (mput eq k v m) = if eq k' k then some v else mget eq k' m
  | [] => by simp only [mput, mget]
  | p :: m => by
    unfold mput
    by_cases h : eq k p.1 = true
    · have := h1 h
      subst this
      rw [if_pos h]
      simp only [mget]
      split <;> rfl
    · rw [if_neg h]
      simp only [mget]
      rw [mget_mput' h1 h2 k k' v m]
      by_cases h3 : eq k' p.1 = true
      · have e := h1 h3
        subst e
        by_cases h4 : eq p.1 k = true
        · have e := h1 h4
          rw [e] at h
          exact absurd (h2 _) h
        · simp [h4, h2]
      · simp [h3]
theorem mgetS_mput (k k' : ByteArray) (v : Int) (m : List (ByteArray × Int)) : mget eqS k' (mput eqS k v m) = if eqS k' k then some v else mget eqS k' m := mget_mput' eqS_eq eqS_refl k k' v m

theorem closeAt_len (i : Option Int) (d : Int) (st : List Stay) : (closeAt i d st).length = st.length := by
  cases i <;> simp [closeAt]
theorem closeAt_lot (i : Option Int) (d : Int) (st : List Stay) (j : Nat) : ((closeAt i d st)[j]?).map (·.lot) = (st[j]?).map (·.lot) := by
  cases i with
  | none => rfl
  | some i =>
    simp only [closeAt, List.getElem?_modify]
    cases st[j]? with
    | none => rfl
    | some s => simp only [Option.map_some]; split <;> rfl

/-- What holds of a book behind accepted events. -/
structure Inv (k : Bk) (ss : List Site) : Prop where
  good : ∀ nm i, mget eqS nm k.m = some i → ∃ j : Nat, i = (j : Int) ∧ j < k.st.length
  lies : ∀ nm l, lotK k nm = some l → l.state = 1 → (∃ s, findSite l.site ss = some s) ∧ 0 ≤ l.level ∧ l.level ≤ 11

theorem lotK_add {k : Bk} {ss : List Site} (h : Inv k ss) (e : Event) (l : Lot) (nm : ByteArray) : lotK (addK k e l) nm = if eqS nm e.remain then some l else lotK k nm := by
  unfold lotK addK
  simp only [mgetS_mput]
  by_cases he : eqS nm e.remain = true
  · rw [if_pos he, if_pos he]
    simp [List.getElem?_append_right, closeAt_len]
  · rw [if_neg he, if_neg he]
    cases hm : mget eqS nm k.m with
    | none => rfl
    | some i =>
      obtain ⟨j, rfl, hj⟩ := h.good nm i hm
      simp only [Option.bind_some, Int.toNat_natCast]
      rw [List.getElem?_append_left (by rw [closeAt_len]; exact hj), closeAt_lot]

theorem errorP_ok {k : Bk} {ss : List Site} {rs : List Rest} {e : Event} {l : Lot} (hi : Inv k ss) (h : errorP k ss rs e = (l, 0)) (hl : l.state = 1) : (∃ s, findSite l.site ss = some s) ∧ 0 ≤ l.level ∧ l.level ≤ 11 := by
  unfold errorP at h
  by_cases hc : checkEventP e = 0
  · obtain ⟨k1, k2, _, _, hput, hlow⟩ := checkEvent_ok hc
    rw [if_neg (by simp [hc])] at h
    by_cases hd : e.day < k.day
    · rw [if_pos (by simpa using hd)] at h
      simp at h
    rw [if_neg (by simpa using hd)] at h
    unfold errorQ at h
    by_cases hk : (e.kind == 0 || e.kind == 2) = true
    · obtain ⟨h1, h2, _⟩ := hput (by simpa using hk)
      rw [if_pos hk] at h
      split at h
      · simp at h
      split at h
      · simp at h
      split at h
      · simp at h
      split at h
      · rename_i hp
        simp only [Prod.mk.injEq] at h
        rw [h.2] at hp
        simp at hp
      · rename_i hp
        obtain ⟨s, hs⟩ := placeP_site (by simpa using hp)
        simp only [Prod.mk.injEq] at h
        rw [← h.1]
        exact ⟨⟨s, hs⟩, h1, h2⟩
    · rw [if_neg hk] at h
      split at h
      · simp at h
      rename_i hs
      have hs' : (lotK k e.remain).isSome = true := by
        rw [Option.isSome_iff_ne_none]
        simpa using hs
      obtain ⟨old, ho⟩ := Option.isSome_iff_exists.1 hs'
      rw [ho] at h
      simp only [Option.getD_some] at h
      split at h
      · simp at h
      rename_i hst
      obtain ⟨h3, _, _⟩ := hi.lies _ _ ho (by simpa using hst)
      split at h
      · simp only [Prod.mk.injEq] at h
        rw [← h.1] at hl
        simp at hl
      split at h
      · simp only [Prod.mk.injEq] at h
        rw [← h.1] at hl
        simp at hl
      rename_i h5 h6
      split at h
      · simp at h
      split at h
      · simp at h
      split at h
      · simp at h
      have hk3 : e.kind = 3 := by simp at hk h5 h6; omega
      obtain ⟨h1, h2⟩ := hlow hk3
      simp only [Prod.mk.injEq] at h
      rw [← h.1]
      exact ⟨h3, h1, h2⟩
  · rw [if_pos (by simpa using hc)] at h
    simp only [Prod.mk.injEq] at h
    exact absurd h.2 hc

theorem inv_add {k : Bk} {ss : List Site} {rs : List Rest} {e : Event} {l : Lot} (hi : Inv k ss) (h : errorP k ss rs e = (l, 0)) : Inv (addK k e l) ss where
  good := fun nm i hm => by
    unfold addK at hm ⊢
    simp only [mgetS_mput] at hm
    simp only [List.length_append, closeAt_len]
    split at hm
    · simp only [Option.some.injEq] at hm
      exact ⟨k.st.length, hm.symm, by simp⟩
    · obtain ⟨j, hj, hlt⟩ := hi.good nm i hm
      exact ⟨j, hj, by simp; omega⟩
  lies := fun nm x hx hs => by
    rw [lotK_add hi] at hx
    split at hx
    · simp only [Option.some.injEq] at hx
      subst hx
      exact errorP_ok hi h hs
    · exact hi.lies nm x hx hs
theorem addK_len (k : Bk) (e : Event) (l : Lot) : (addK k e l).st.length = k.st.length + 1 := by simp [addK, closeAt_len]

/-- A book's yard. -/
def Bk.yard (k : Bk) : Option Addr × Nat × Nat × Option Addr × Nat × Nat × Int × Int × Int := (k.A, k.n, k.c, k.R, k.rn, k.rc, k.c0, k.c1, k.c2)
def bk0 (A : Option Addr) (n c : Nat) (R : Option Addr) (rn rc : Nat) (c0 c1 c2 : Int) : Bk := ⟨A, n, c, R, rn, rc, c0, c1, c2, [], [], 0⟩
theorem inv0 (A : Option Addr) (n c : Nat) (R : Option Addr) (rn rc : Nat) (c0 c1 c2 : Int) (ss : List Site) : Inv (bk0 A n c R rn rc c0 c1 c2) ss :=
  ⟨fun _ _ h => (by cases h), fun _ _ h => (by cases h)⟩

/-- The book behind events, and the error of the first that is refused. -/
def addsP (ss : List Site) (rs : List Rest) : Bk → List Event → Bk × Int
  | k, [] => (k, 0)
  | k, e :: l => if (errorP k ss rs e).2 != 0 then (k, (errorP k ss rs e).2) else addsP ss rs (addK k e (errorP k ss rs e).1) l
/-- The book behind the events up to a day; what is refused is left out. -/
def upToP (ss : List Site) (rs : List Rest) (day : Int) : Bk → List Event → Bk
  | k, [] => k
  | k, e :: l => if decide (e.day ≤ day) then (if (errorP k ss rs e).2 != 0 then upToP ss rs day k l else upToP ss rs day (addK k e (errorP k ss rs e).1) l) else upToP ss rs day k l
def readP (ss : List Site) (rs : List Rest) (k : Bk) (es : List Event) : Bk × Int :=
  if checkYardP ss rs k.c0 k.c1 k.c2 != 0 then (k, checkYardP ss rs k.c0 k.c1 k.c2) else
  if decide (300 < (es.length : Int)) then (k, 8) else addsP ss rs k es

/-- A yard that came in. -/
structure YardIn (w : World) (ss : List Site) (rs : List Rest) (A : Option Addr) (n c : Nat) (R : Option Addr) (rn rc : Nat) : Prop where
  hn : n = ss.length
  hrn : rn = rs.length
  sl : Sl w 6 Site.cells A ss
  sr : Sl w 3 Rest.cells R rs
  cap : ss.length ≤ c
  l1 : ss.length ≤ 100000
  l2 : rs.length ≤ 100000
  sh : ∀ s ∈ ss, s.name.size ≤ 100000
theorem YardIn.keep {w W : World} {ss : List Site} {rs : List Rest} {A R : Option Addr} {n c rn rc : Nat} (h : YardIn w ss rs A n c R rn rc) {m : Nat} (hb : Below m w W) (hm : w.heap.size ≤ m := by first | exact Nat.le_refl _ | omega) : YardIn W ss rs A n c R rn rc :=
  ⟨h.hn, h.hrn, h.sl.keep hb hm, h.sr.keep hb hm, h.cap, h.l1, h.l2, h.sh⟩
/-- Events that came in. -/
structure EventsIn (w : World) (es : List Event) (A : Option Addr) (n : Nat) : Prop where
  hn : n = es.length
  sl : Sl w 7 Event.cells A es
  l1 : es.length ≤ 100000
  sh : ∀ e ∈ es, e.site.size ≤ 100000 ∧ e.remain.size ≤ 100000
theorem EventsIn.keep {w W : World} {es : List Event} {A : Option Addr} {n : Nat} (h : EventsIn w es A n) {m : Nat} (hb : Below m w W) (hm : w.heap.size ≤ m := by first | exact Nat.le_refl _ | omega) : EventsIn W es A n :=
  ⟨h.hn, h.sl.keep hb hm, h.l1, h.sh⟩
theorem mkEnv {w : World} {base bb : Nat} {k : Bk} {ss : List Site} {rs : List Rest} {A R : Option Addr} {n c rn rc : Nat} {c0 c1 c2 : Int} (hb : BookAt w base bb k) (hy : k.yard = (A, n, c, R, rn, rc, c0, c1, c2)) (h : YardIn w ss rs A n c R rn rc)
    (h1 : ss.length ≤ 60) (h2 : rs.length ≤ 40) (hi : Inv k ss) (h3 : k.st.length ≤ 1000) : Env w base bb k ss rs := by
  simp only [Bk.yard, Prod.mk.injEq] at hy
  obtain ⟨rfl, rfl, rfl, rfl, rfl, rfl, rfl, rfl, rfl⟩ := hy
  exact ⟨hb, h.sl, h.sr, h.hn, h.hrn, h.cap, h1, h2, h3, hi.good, h.sh, hi.lies⟩
theorem Env.inv {w : World} {base bb : Nat} {k : Bk} {ss : List Site} {rs : List Rest} (h : Env w base bb k ss rs) : Inv k ss := ⟨h.good, h.lies⟩
theorem sitesP_zero {T : Int} : ∀ {l d : List Site}, sitesP T d l = 0 → T = 0
  | [], _, h => h
  | s :: l, d, h => by
    unfold sitesP at h
    split at h
    · rename_i hx
      rw [h] at hx
      simp at hx
    split at h
    · simp at h
    · exact sitesP_zero h
theorem checkYard_small {ss : List Site} {rs : List Rest} {c0 c1 c2 : Int} (h : checkYardP ss rs c0 c1 c2 = 0) : ss.length ≤ 60 ∧ rs.length ≤ 40 := by
  unfold checkYardP at h
  split at h
  · simp at h
  rename_i h1
  have h2 := sitesP_zero h
  split at h2
  · simp at h2
  rename_i h3
  simp at h1 h3
  omega
theorem readP_small {ss : List Site} {rs : List Rest} {k : Bk} {es : List Event} (h : (readP ss rs k es).2 = 0) : ss.length ≤ 60 ∧ rs.length ≤ 40 ∧ es.length ≤ 300 := by
  unfold readP at h
  split at h
  · rename_i hx
    dsimp only at h
    rw [h] at hx
    simp at hx
  rename_i hc
  obtain ⟨h1, h2⟩ := checkYard_small (by simpa using hc)
  split at h
  · simp at h
  · rename_i h3
    simp at h3
    exact ⟨h1, h2, by omega⟩
end Go.Proofs.YtpohkolapgofdaaGreatDoor
