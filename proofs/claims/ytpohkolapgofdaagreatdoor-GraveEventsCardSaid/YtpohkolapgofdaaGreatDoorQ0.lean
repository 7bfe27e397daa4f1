/- Plain: what the reference computes on plain data, from the error of a taking to the error of events. -/
import Derived.Test.YtpohkolapgofdaaGreatDoorL6
namespace Go.Proofs.YtpohkolapgofdaaGreatDoor
open Go.RowKit

def lessS (a b : ByteArray) : Bool := Op.bytesLess a.toList b.toList
theorem less_irr : ∀ l : List UInt8, Op.bytesLess l l = false
  | [] => rfl
  | a :: l => by rw [Op.bytesLess, less_irr l]; simp
theorem less_trans : ∀ {a b c : List UInt8}, Op.bytesLess a b = true → Op.bytesLess b c = true → Op.bytesLess a c = true
  | _, [], _, h, _ => by unfold Op.bytesLess at h; simp at h
  | _, _ :: _, [], _, h => by unfold Op.bytesLess at h; simp at h
  | [], _ :: _, _ :: _, _, _ => rfl
  | x :: a, y :: b, z :: c, h1, h2 => by
    simp only [Op.bytesLess, Bool.or_eq_true, decide_eq_true_eq, Bool.and_eq_true, beq_iff_eq, UInt8.lt_iff_toNat_lt] at h1 h2 ⊢
    rcases h1 with h1 | ⟨rfl, h1⟩ <;> rcases h2 with h2 | ⟨rfl, h2⟩
    · exact .inl (by omega)
    · exact .inl h1
    · exact .inl h2
    · exact .inr ⟨rfl, less_trans h1 h2⟩
theorem less_tri : ∀ a b : List UInt8, Op.bytesLess a b = true ∨ a = b ∨ Op.bytesLess b a = true
  | [], [] => .inr (.inl rfl)
  | [], _ :: _ => .inl rfl
  | _ :: _, [] => .inr (.inr rfl)
  | x :: a, y :: b => by
    simp only [Op.bytesLess, Bool.or_eq_true, decide_eq_true_eq, Bool.and_eq_true, beq_iff_eq, List.cons.injEq, UInt8.lt_iff_toNat_lt]
    by_cases h1 : x.toNat < y.toNat
    · exact .inl (.inl h1)
    by_cases h2 : y.toNat < x.toNat
    · exact .inr (.inr (.inl h2))
    have h3 : x = y := UInt8.toNat_inj.1 (by omega)
    subst h3
    rcases less_tri a b with h | h | h
    · exact .inl (.inr ⟨rfl, h⟩)
    · exact .inr (.inl ⟨rfl, h⟩)
    · exact .inr (.inr (.inr ⟨rfl, h⟩))
theorem bytes_ext {a b : ByteArray} (h : a.toList = b.toList) : a = b := by
  rw [ByteArray.toList_eq, ByteArray.toList_eq] at h
  exact ByteArray.ext (Array.ext' h)
theorem lessS_irr (a : ByteArray) : lessS a a = false := less_irr _
theorem lessS_trans {a b c : ByteArray} (h1 : lessS a b = true) (h2 : lessS b c = true) : lessS a c = true := less_trans h1 h2
theorem lessS_tri (a b : ByteArray) : lessS a b = true ∨ a = b ∨ lessS b a = true := by
  rcases less_tri a.toList b.toList with h | h | h
  · exact .inl h
  · exact .inr (.inl (bytes_ext h))
  · exact .inr (.inr h)

def rBusyGo (nm : ByteArray) (ls : List Lot) : Nat → Int → Bool
  | 0, _ => false
  | f + 1, n => if rOccP nm n ls then true else rBusyGo nm ls f (n + 1)
def rLiesP (rs : List Rest) (ls : List Lot) (s : Site) (t : Lot) (dy kd lv : Int) (o : Bool) : Int :=
  if kd == 3 && s.kind != 0 then 15 else
  if kd == 3 && decide (t.level ≤ lv) then 2 else
  if kd == 3 && rBusyGo s.name ls (t.level - lv).toNat lv then 16 else
  if rCovP s.kind s.name s.room t.level ls then 18 else
  if !o && decide (dy < wrap64 (t.since + restP s.soil t.container rs)) then 17 else 0
def rTakeP (ss : List Site) (rs : List Rest) (ls : List Lot) (dy kd lv : Int) (rm : ByteArray) (o : Bool) : Int :=
  match findLot rm ls with
  | none => 6
  | some t => if t.state != 1 then 28 else
    match findSite t.site ss with
    | none => 0
    | some s => rLiesP rs ls s t dy kd lv o
def siteKind' (ss : List Site) (nm : ByteArray) : Int := match findSite nm ss with | none => 0 | some s => s.kind
def rLotP (ss : List Site) (ls : List Lot) (e : Event) : Lot :=
  if e.kind == 0 || e.kind == 2 then ⟨e.remain, if siteKind' ss e.site == 3 then 3 else 1, e.site, e.level, e.container, e.day⟩ else
  if e.kind == 3 then ⟨e.remain, 1, ((findLot e.remain ls).getD zeroLot).site, e.level, ((findLot e.remain ls).getD zeroLot).container, e.day⟩ else
  if e.kind == 4 then ⟨e.remain, 2, ⟨#[]⟩, 0, 0, e.day⟩ else ⟨e.remain, 0, ⟨#[]⟩, 0, 0, e.day⟩
def rWithP (l : Lot) : List Lot → List Lot
  | [] => [l]
  | x :: r => if lessS x.remain l.remain then x :: rWithP l r else if x.remain.toList == l.remain.toList then l :: r else l :: x :: r
def checkEventR (e : Event) : Int :=
  if !inR e.day 0 200000 then 2 else
  if !inR e.kind 0 4 then 15 else
  if !isNameR e.remain || ((e.kind == 0 || e.kind == 2) && !isNameR e.site) then 4 else
  if ((e.kind == 0 || e.kind == 2 || e.kind == 3) && !inR e.level 0 11) || ((e.kind == 0 || e.kind == 2) && !inR e.container 0 2) then 2 else
  if (!(e.kind == 0 || e.kind == 2) && (!e.site.toList.isEmpty || e.container != 0)) || ((e.kind == 1 || e.kind == 4) && e.level != 0) || (e.kind != 1 && e.kind != 3 && e.order) then 3 else 0
def rErrP (c0 c1 c2 : Int) (ss : List Site) (rs : List Rest) (ls : List Lot) (e : Event) : Int :=
  if e.kind == 0 || e.kind == 2 then rPutP c0 c1 c2 ss ls e.kind e.site e.level e.remain e.container else rTakeP ss rs ls e.day e.kind e.level e.remain e.order
def rNextP (c0 c1 c2 : Int) (ss : List Site) (rs : List Rest) (ls : List Lot) (last : Int) (e : Event) : List Lot × Int :=
  if checkEventP e != 0 then ([], checkEventP e) else
  if decide (e.day < last) then ([], 9) else
  if rErrP c0 c1 c2 ss rs ls e != 0 then ([], rErrP c0 c1 c2 ss rs ls e) else (rWithP (rLotP ss ls e) ls, 0)
/-- The lots behind the accepted beginning, its length, the next one's error. -/
def rGoP (c0 c1 c2 : Int) (ss : List Site) (rs : List Rest) : List Lot → Int → Nat → List Event → List Lot × Nat × Int
  | ls, _, i, [] => (ls, i, 0)
  | ls, last, i, e :: l => if (rNextP c0 c1 c2 ss rs ls last e).2 != 0 then (ls, i, (rNextP c0 c1 c2 ss rs ls last e).2) else rGoP c0 c1 c2 ss rs (rNextP c0 c1 c2 ss rs ls last e).1 e.day (i + 1) l
def rReplayP (c0 c1 c2 : Int) (ss : List Site) (rs : List Rest) (es : List Event) : List Lot × Nat × Int :=
  if decide (300 < (es.length : Int)) then ([], 0, 8) else rGoP c0 c1 c2 ss rs [] 0 0 es
def rCheckP (c0 c1 c2 : Int) (ss : List Site) (rs : List Rest) (es : List Event) : Int :=
  if checkYardP ss rs c0 c1 c2 != 0 then checkYardP ss rs c0 c1 c2 else (rReplayP c0 c1 c2 ss rs es).2.2

theorem findLot_remain {nm : ByteArray} {s : Lot} : ∀ {l : List Lot}, findLot nm l = some s → s.remain = nm
  | [], h => by cases h
  | x :: l, h => by
    unfold findLot at h
    split at h
    · rename_i hx
      simp only [Option.some.injEq] at h
      subst h
      exact bytes_ext (eq_of_beq hx)
    · exact findLot_remain h
theorem findLot_mem {nm : ByteArray} {s : Lot} : ∀ {l : List Lot}, findLot nm l = some s → s ∈ l
  | [], h => by cases h
  | x :: l, h => by
    unfold findLot at h
    split at h
    · simp only [Option.some.injEq] at h
      subst h
      simp
    · exact List.mem_cons_of_mem _ (findLot_mem h)
theorem findSite_name {nm : ByteArray} {s : Site} : ∀ {l : List Site}, findSite nm l = some s → s.name = nm
  | [], h => by cases h
  | x :: l, h => by
    unfold findSite at h
    split at h
    · rename_i hx
      simp only [Option.some.injEq] at h
      subst h
      exact bytes_ext (eq_of_beq hx)
    · exact findSite_name h
/-- Strictly ascending by remain. -/
def Asc (ls : List Lot) : Prop := ls.Pairwise fun a b => lessS a.remain b.remain = true
theorem findLot_of_mem : ∀ {ls : List Lot} {t : Lot}, Asc ls → t ∈ ls → findLot t.remain ls = some t
  | [], _, _, h => by cases h
  | x :: l, t, ha, h => by
    unfold findLot
    rcases List.mem_cons.1 h with rfl | h
    · simp
    · have h1 := (List.pairwise_cons.1 ha).1 t h
      have h2 : (x.remain.toList == t.remain.toList) = false := by
        rw [beq_eq_false_iff_ne]
        intro e
        rw [bytes_ext e, lessS_irr] at h1
        cases h1
      rw [h2, if_neg (by simp)]
      exact findLot_of_mem (List.pairwise_cons.1 ha).2 h
theorem findLot_less : ∀ {ls : List Lot} {nm : ByteArray}, (∀ t ∈ ls, lessS nm t.remain = true) → findLot nm ls = none
  | [], _, _ => rfl
  | x :: l, nm, h => by
    unfold findLot
    have h1 := h x (by simp)
    have h2 : (x.remain.toList == nm.toList) = false := by
      rw [beq_eq_false_iff_ne]
      intro e
      rw [bytes_ext e, lessS_irr] at h1
      cases h1
    rw [h2, if_neg (by simp)]
    exact findLot_less fun t ht => h t (by simp [ht])
theorem mem_with {l t : Lot} : ∀ {ls : List Lot}, t ∈ rWithP l ls → t = l ∨ t ∈ ls
  | [], h => by simp [rWithP] at h; exact .inl h
  | x :: r, h => by
    unfold rWithP at h
    split at h
    · rcases List.mem_cons.1 h with rfl | h
      · exact .inr (by simp)
      · rcases mem_with h with h | h
        · exact .inl h
        · exact .inr (by simp [h])
    split at h
    · rcases List.mem_cons.1 h with h | h
      · exact .inl h
      · exact .inr (by simp [h])
    · rcases List.mem_cons.1 h with h | h
      · exact .inl h
      · exact .inr h
theorem asc_with {l : Lot} : ∀ {ls : List Lot}, Asc ls → Asc (rWithP l ls)
  | [], _ => by simp [rWithP, Asc]
  | x :: r, ha => by
    obtain ⟨h1, h2⟩ := List.pairwise_cons.1 ha
    unfold rWithP
    split
    · rename_i hx
      refine List.pairwise_cons.2 ⟨fun t ht => ?_, asc_with h2⟩
      rcases mem_with ht with rfl | ht
      · exact hx
      · exact h1 t ht
    rename_i hx
    split
    · rename_i he
      have he' := bytes_ext (eq_of_beq he)
      exact List.pairwise_cons.2 ⟨fun t ht => by rw [← he']; exact h1 t ht, h2⟩
    · rename_i he
      have hl : lessS l.remain x.remain = true := by
        rcases lessS_tri l.remain x.remain with h | h | h
        · exact h
        · rw [h] at he; simp at he
        · exact absurd h hx
      refine List.pairwise_cons.2 ⟨fun t ht => ?_, ha⟩
      rcases List.mem_cons.1 ht with rfl | ht
      · exact hl
      · exact lessS_trans hl (h1 t ht)
theorem findLot_with {l : Lot} {nm : ByteArray} : ∀ {ls : List Lot}, Asc ls → findLot nm (rWithP l ls) = if l.remain.toList == nm.toList then some l else findLot nm ls
  | [], _ => by simp [rWithP, findLot]
  | x :: r, ha => by
    obtain ⟨h1, h2⟩ := List.pairwise_cons.1 ha
    unfold rWithP
    split
    · rename_i hx
      unfold findLot
      rw [findLot_with h2]
      by_cases hn : (x.remain.toList == nm.toList) = true
      · rw [if_pos hn, if_pos hn]
        have e := bytes_ext (eq_of_beq hn)
        have hne : (l.remain.toList == nm.toList) = false := by
          rw [beq_eq_false_iff_ne]
          intro e2
          rw [e, ← bytes_ext e2, lessS_irr] at hx
          cases hx
        rw [hne, if_neg (by simp)]
      · rw [if_neg hn, if_neg hn]
    rename_i hx
    split
    · rename_i he
      have he' := eq_of_beq he
      rw [findLot]
      split
      · rfl
      · rename_i hn
        rw [findLot, he', if_neg hn]
    · rw [findLot]

theorem lotsNow_mem {l : Lot} {st : List Stay} : l ∈ lotsNow st ↔ ∃ (j : Nat) (s : Stay), st[j]? = some s ∧ s.till < 0 ∧ s.lot = l := by
  unfold lotsNow
  simp only [List.mem_map, List.mem_filter, decide_eq_true_eq]
  constructor
  · rintro ⟨s, ⟨hs, ht⟩, rfl⟩
    obtain ⟨j, hj⟩ := List.mem_iff_getElem?.1 hs
    exact ⟨j, s, hj, ht, rfl⟩
  · rintro ⟨j, s, hj, ht, rfl⟩
    exact ⟨s, ⟨List.mem_iff_getElem?.2 ⟨j, hj⟩, ht⟩, rfl⟩
theorem rOcc_any_eq (si : ByteArray) (lv : Int) : ∀ ls : List Lot, rOccP si lv ls = ls.any fun l => l.state == 1 && l.site.toList == si.toList && l.level == lv
  | [] => rfl
  | x :: r => by
    unfold rOccP
    rw [rOcc_any_eq si lv r, List.any_cons]
    split
    · rename_i h; rw [h]; rfl
    · rename_i h
      rw [Bool.not_eq_true] at h
      rw [h]; rfl
theorem rOcc_iff {si : ByteArray} {lv : Int} {ls : List Lot} : rOccP si lv ls = true ↔ ∃ t ∈ ls, t.state = 1 ∧ t.site = si ∧ t.level = lv := by
  rw [rOcc_any_eq, List.any_eq_true]
  constructor
  · rintro ⟨t, ht, h⟩
    simp only [Bool.and_eq_true, beq_iff_eq] at h
    exact ⟨t, ht, h.1.1, bytes_ext h.1.2, h.2⟩
  · rintro ⟨t, ht, h1, h2, h3⟩
    exact ⟨t, ht, by simp [h1, h2, h3]⟩
theorem occ_iff {si : ByteArray} {lo hi : Int} {ls : List Lot} : occP si lo hi ls = true ↔ ∃ t ∈ ls, t.state = 1 ∧ t.site = si ∧ lo ≤ t.level ∧ t.level ≤ hi := by
  unfold occP
  rw [List.any_eq_true]
  constructor
  · rintro ⟨t, ht, h⟩
    simp only [occL, inR, Bool.and_eq_true, beq_iff_eq, decide_eq_true_eq] at h
    exact ⟨t, ht, h.1.1, bytes_ext h.1.2, h.2.1, h.2.2⟩
  · rintro ⟨t, ht, h1, h2, h3, h4⟩
    exact ⟨t, ht, by simp [occL, inR, h1, h2, h3, h4]⟩
theorem busy_iff {nm : ByteArray} {ls : List Lot} : ∀ {f : Nat} {n : Int}, rBusyGo nm ls f n = true ↔ ∃ t ∈ ls, t.state = 1 ∧ t.site = nm ∧ n ≤ t.level ∧ t.level < n + f
  | 0, n => by
    simp only [rBusyGo, Bool.false_eq_true, false_iff]
    rintro ⟨t, _, _, _, h1, h2⟩
    omega
  | f + 1, n => by
    unfold rBusyGo
    by_cases h : rOccP nm n ls = true
    · rw [if_pos h]
      obtain ⟨t, ht, h1, h2, h3⟩ := rOcc_iff.1 h
      exact ⟨fun _ => ⟨t, ht, h1, h2, by omega, by omega⟩, fun _ => rfl⟩
    · rw [if_neg h, busy_iff]
      constructor
      · rintro ⟨t, ht, h1, h2, h3, h4⟩
        exact ⟨t, ht, h1, h2, by omega, by omega⟩
      · rintro ⟨t, ht, h1, h2, h3, h4⟩
        refine ⟨t, ht, h1, h2, ?_, by omega⟩
        by_cases e : t.level = n
        · exact absurd (rOcc_iff.2 ⟨t, ht, h1, h2, e⟩) h
        · omega
theorem covGo_busy (kd : Int) (nm : ByteArray) (ls : List Lot) : ∀ (f : Nat) (n : Int), rCovGo kd nm ls f n = (kd == 0 && rBusyGo nm ls f n)
  | 0, n => by simp [rCovGo, rBusyGo]
  | f + 1, n => by
    unfold rCovGo rBusyGo
    rw [covGo_busy kd nm ls f (n + 1)]
    cases kd == 0 <;> cases rOccP nm n ls <;> simp
end Go.Proofs.YtpohkolapgofdaaGreatDoor
