/- Plain law: the free levels, the first one of a site, and how many burials are left, are alike. -/
/- Plain law: what the program tells of free levels, by the reference's words. -/
import Derived.Test.YtmiobhlgpjjbgaaLH
import Derived.Test.YtmiobhlgpjjbgaaF8
namespace Go.Proofs.Ytmiobhlgpjjbgaa
open Go.RowKit

theorem adds_covers {ss : List Site} {rs : List Rest} : ∀ (es : List Event) (k : Bk), (addsP ss rs k es).1.c0 = k.c0 ∧ (addsP ss rs k es).1.c1 = k.c1 ∧ (addsP ss rs k es).1.c2 = k.c2
  | [], _ => ⟨rfl, rfl, rfl⟩
  | e :: l, k => by
    unfold addsP
    split
    · exact ⟨rfl, rfl, rfl⟩
    · exact adds_covers l _
theorem freeTo_by (k : Bk) (ss : List Site) (nm : ByteArray) (co : Int) (j : Nat) : freeTo k ss nm co j = freeBy (fun l => placeP k ss nm l co) j := rfl
/-- Sites of a valid yard have different names. -/
def Uniq (ss : List Site) : Prop := ss.Pairwise fun a b => a.name ≠ b.name
theorem findSite_none {nm : ByteArray} : ∀ {l : List Site}, findSite nm l = none → ∀ s ∈ l, s.name ≠ nm
  | [], _, _, h => by cases h
  | x :: l, h, s, hs => by
    unfold findSite at h
    split at h
    · cases h
    · rename_i hx
      rcases List.mem_cons.1 hs with rfl | hs
      · intro e
        exact hx (by simp [e])
      · exact findSite_none h s hs
theorem sitesP_uniq {T : Int} : ∀ {l d : List Site}, sitesP T d l = 0 → Uniq d → Uniq (d ++ l)
  | [], d, _, hd => by simpa using hd
  | s :: l, d, h, hd => by
    unfold sitesP at h
    split at h
    · rename_i hx
      rw [h] at hx
      simp at hx
    split at h
    · simp at h
    · rename_i hx
      have hn : findSite s.name d = none := by
        cases hf : findSite s.name d with
        | none => rfl
        | some y => rw [hf] at hx; simp at hx
      have h2 := sitesP_uniq (l := l) (d := d ++ [s]) h (List.pairwise_append.2 ⟨hd, List.pairwise_singleton _ _, fun a ha b hb => by
        have : b = s := by simpa using hb
        subst this
        exact findSite_none hn a ha⟩)
      rw [List.append_assoc] at h2
      exact h2
theorem yard_uniq {ss : List Site} {rs : List Rest} {c0 c1 c2 : Int} (h : checkYardP ss rs c0 c1 c2 = 0) : Uniq ss := by
  unfold checkYardP at h
  split at h
  · simp at h
  · have := sitesP_uniq h (List.Pairwise.nil)
    simpa using this
theorem flat_find {ss : List Site} {f : Site → List Int} {nm : ByteArray} {lv : Int} {s : Site} : ∀ {l : List Site}, Uniq l → s ∈ l → s.name = nm →
    ((l.flatMap fun s => (f s).map fun x => (⟨s.name, x⟩ : Berth)).find? fun b => b.site.toList == nm.toList && decide (lv ≤ b.level)) = ((f s).find? fun x => decide (lv ≤ x)).map fun x => ⟨nm, x⟩
  | [], _, h, _ => by cases h
  | x :: l, hu, h, hn => by
    obtain ⟨h1, h2⟩ := List.pairwise_cons.1 hu
    rw [List.flatMap_cons, List.find?_append]
    have hmap : ∀ y : Site, ((f y).map fun z => (⟨y.name, z⟩ : Berth)).find? (fun b => b.site.toList == nm.toList && decide (lv ≤ b.level)) = if y.name = nm then ((f y).find? fun z => decide (lv ≤ z)).map fun z => ⟨nm, z⟩ else none := fun y => by
      rw [List.find?_map]
      by_cases hy : y.name = nm
      · rw [if_pos hy]
        subst hy
        congr 1
        apply congrArg (fun p => List.find? p (f y))
        funext z
        simp [Function.comp]
      · rw [if_neg hy]
        have hb : (y.name.toList == nm.toList) = false := by
          rw [beq_eq_false_iff_ne]
          exact fun e => hy (bytes_ext e)
        have : ((f y).find? ((fun b : Berth => b.site.toList == nm.toList && decide (lv ≤ b.level)) ∘ fun z => (⟨y.name, z⟩ : Berth))) = none := by
          rw [List.find?_eq_none]
          intro z _
          simp [Function.comp, hb]
        rw [this]
        rfl
    rw [hmap]
    rcases List.mem_cons.1 h with rfl | h
    · rw [if_pos hn]
      have hrest : (l.flatMap fun s => (f s).map fun x => (⟨s.name, x⟩ : Berth)).find? (fun b => b.site.toList == nm.toList && decide (lv ≤ b.level)) = none := by
        rw [List.find?_eq_none]
        intro b hb
        obtain ⟨y, hy, hby⟩ := List.mem_flatMap.1 hb
        obtain ⟨z, _, rfl⟩ := List.mem_map.1 hby
        have := h1 y hy
        rw [hn] at this
        have hb2 : (y.name.toList == nm.toList) = false := by
          rw [beq_eq_false_iff_ne]
          exact fun e => this (bytes_ext e).symm
        simp [hb2]
      rw [hrest]
      simp
    · have hne : x.name ≠ nm := fun e => h1 s h (e.trans hn.symm)
      rw [if_neg hne, Option.none_or]
      exact flat_find (ss := ss) h2 h hn
theorem left_count {f : Int → Int} {g : Int → Bool} {n : Nat} (h : ∀ m : Nat, m < n → g (m : Int) = (f (m : Int) == 0)) (c0 c1 c2 : Int) (ls : List Lot) (s : Site) (co : Int) (hg : ∀ x, g x = rFreeAt c0 c1 c2 ls s co x) :
    ∀ (k m : Nat) (c : Int), m + k = n → rLeftGo c0 c1 c2 ls s co k (m : Int) c + ((freeBy f m).length : Int) = c + ((freeBy f n).length : Int)
  | 0, m, c, e => by
    have : m = n := by omega
    subst this
    rfl
  | k + 1, m, c, e => by
    unfold rLeftGo
    rw [← hg, h m (by omega)]
    have ih := left_count h c0 c1 c2 ls s co hg k (m + 1) (if (f (m : Int) == 0) = true then c + 1 else c) (by omega)
    rw [freeBy_succ] at ih
    cases hf : (f (m : Int) == 0)
    · rw [hf] at ih
      simp at ih ⊢
      omega
    · rw [hf] at ih
      simp at ih ⊢
      omega
theorem rPlace_free {c0 c1 c2 : Int} {ss : List Site} {ls : List Lot} {nm : ByteArray} {s : Site} {co n : Int} (hs : findSite nm ss = some s) (hn : n < s.room) : rFreeAt c0 c1 c2 ls s co n = (rPlaceP c0 c1 c2 ss ls nm n co == 0) := by
  unfold rPlaceP rFreeAt
  have hnm := findSite_name hs
  rw [hs]
  dsimp only
  have h1 : decide (s.room ≤ n) = false := by simpa using hn
  rw [h1, if_neg Bool.false_ne_true, hnm]
  cases takesP c0 c1 c2 s.kind s.depth s.step n co
  · rfl
  · cases rOccP nm n ls
    · cases rCovP s.kind nm s.room n ls <;> rfl
    · rfl

section
variable {ss : List Site} {rs : List Rest} {A R : Option Addr} {n c rn rc : Nat} {c0 c1 c2 : Int} {es : List Event}
theorem free_same (h : rCheckP c0 c1 c2 ss rs es = 0) (day co : Int) : ss.flatMap (freeL (upToP ss rs day (bk0 A n c R rn rc c0 c1 c2) es) ss co) = rFreeP c0 c1 c2 ss (rReplayP c0 c1 c2 ss rs (upToE day es)).1 co := by
  obtain ⟨_, _, _, _, h5, _⟩ := (read_check ss rs A R n c rn rc c0 c1 c2 es).2 h
  obtain ⟨g1, g2, g3, g4⟩ := upTo_check (A := A) (R := R) (n := n) (c := c) (rn := rn) (rc := rc) h day
  have hroom := yard_rooms h5
  obtain ⟨k0, k1, k2⟩ := adds_covers (ss := ss) (rs := rs) (upToE day es) (bk0 A n c R rn rc c0 c1 c2)
  rw [← g1] at k0 k1 k2
  unfold rFreeP
  congr 1
  funext s
  unfold freeL rFreeS
  rw [freeTo_by]
  congr 1
  apply congrArg (fun f => freeBy f s.room.toNat)
  funext l
  rw [g2.place hroom, k0, k1, k2]
  rfl
theorem first_same (h : rCheckP c0 c1 c2 ss rs es = 0) (day co lv : Int) {nm : ByteArray} {s : Site} (hs : findSite nm ss = some s) :
    firstL lv (freeTo (upToP ss rs day (bk0 A n c R rn rc c0 c1 c2) es) ss nm co s.room.toNat) =
      (if rFirstP (rFreeP c0 c1 c2 ss (rReplayP c0 c1 c2 ss rs (upToE day es)).1 co) nm lv < 0 then (0, 16) else (rFirstP (rFreeP c0 c1 c2 ss (rReplayP c0 c1 c2 ss rs (upToE day es)).1 co) nm lv, 0)) := by
  obtain ⟨_, _, _, _, h5, _⟩ := (read_check ss rs A R n c rn rc c0 c1 c2 es).2 h
  rw [← free_same (A := A) (R := R) (n := n) (c := c) (rn := rn) (rc := rc) h day co]
  unfold rFirstP
  have hf : ∀ s : Site, freeL (upToP ss rs day (bk0 A n c R rn rc c0 c1 c2) es) ss co s = (freeTo (upToP ss rs day (bk0 A n c R rn rc c0 c1 c2) es) ss s.name co s.room.toNat).map fun x => (⟨s.name, x⟩ : Berth) := fun _ => rfl
  have hff := flat_find (ss := ss) (f := fun s => freeTo (upToP ss rs day (bk0 A n c R rn rc c0 c1 c2) es) ss s.name co s.room.toNat) (nm := nm) (lv := lv) (yard_uniq h5) (findSite_mem hs) (findSite_name hs)
  have e : ss.flatMap (freeL (upToP ss rs day (bk0 A n c R rn rc c0 c1 c2) es) ss co) = ss.flatMap fun s => (freeTo (upToP ss rs day (bk0 A n c R rn rc c0 c1 c2) es) ss s.name co s.room.toNat).map fun x => (⟨s.name, x⟩ : Berth) := rfl
  rw [e, hff, findSite_name hs]
  unfold firstL
  cases hq : (freeTo (upToP ss rs day (bk0 A n c R rn rc c0 c1 c2) es) ss nm co s.room.toNat).find? fun x => decide (lv ≤ x) with
  | none => simp
  | some x =>
    simp only [Option.map_some]
    have hx : 0 ≤ x := by
      have := List.mem_of_find?_eq_some hq
      unfold freeTo at this
      obtain ⟨m, _, rfl⟩ := List.mem_map.1 this
      omega
    rw [if_neg (by omega)]
theorem left_same (h : rCheckP c0 c1 c2 ss rs es = 0) (co : Int) {nm : ByteArray} {s : Site} (hs : findSite nm ss = some s) :
    ((freeTo (readP ss rs (bk0 A n c R rn rc c0 c1 c2) es).1 ss nm co s.room.toNat).length : Int) = rLeftP c0 c1 c2 (rReplayP c0 c1 c2 ss rs es).1 s co := by
  obtain ⟨h1, _, h3, _, h5, _⟩ := (read_check ss rs A R n c rn rc c0 c1 c2 es).2 h
  have hroom := yard_rooms h5
  obtain ⟨k0, k1, k2⟩ := adds_covers (ss := ss) (rs := rs) es (bk0 A n c R rn rc c0 c1 c2)
  rw [← h3] at k0 k1 k2
  have e : freeTo (readP ss rs (bk0 A n c R rn rc c0 c1 c2) es).1 ss nm co s.room.toNat = freeBy (fun l => rPlaceP c0 c1 c2 ss (rReplayP c0 c1 c2 ss rs es).1 nm l co) s.room.toNat := by
    rw [freeTo_by]
    apply congrArg (fun f => freeBy f s.room.toNat)
    funext l
    rw [h1.place hroom, k0, k1, k2]
    rfl
  rw [e]
  have := left_count (f := fun l => rPlaceP c0 c1 c2 ss (rReplayP c0 c1 c2 ss rs es).1 nm l co) (g := rFreeAt c0 c1 c2 (rReplayP c0 c1 c2 ss rs es).1 s co) (n := s.room.toNat) (fun m hm => rPlace_free hs (by omega)) c0 c1 c2 (rReplayP c0 c1 c2 ss rs es).1 s co (fun _ => rfl) s.room.toNat 0 0 (by omega)
  unfold rLeftP
  simp [freeBy] at this ⊢
  omega
end
end Go.Proofs.Ytmiobhlgpjjbgaa
namespace Go.Proofs.Ytmiobhlgpjjbgaa
open Go.RowKit

def freeW (c0 c1 c2 : Int) (ss : List Site) (rs : List Rest) (es : List Event) (co day : Int) : List Berth × Int :=
  if rCheckP c0 c1 c2 ss rs es != 0 then ([], rCheckP c0 c1 c2 ss rs es) else if !inR co 0 2 || !inR day 0 200000 then ([], 2) else (rFreeP c0 c1 c2 ss (rReplayP c0 c1 c2 ss rs (upToE day es)).1 co, 0)
def firstW (c0 c1 c2 : Int) (ss : List Site) (rs : List Rest) (es : List Event) (nm : ByteArray) (lv co day : Int) : Int × Int :=
  if rCheckP c0 c1 c2 ss rs es != 0 then (0, rCheckP c0 c1 c2 ss rs es) else
  match findSite nm ss with
  | none => (0, 6)
  | some s => if !inR lv 0 (s.room - 1) || !inR co 0 2 || !inR day 0 200000 then (0, 2) else
    if rFirstP (rFreeP c0 c1 c2 ss (rReplayP c0 c1 c2 ss rs (upToE day es)).1 co) nm lv < 0 then (0, 16) else (rFirstP (rFreeP c0 c1 c2 ss (rReplayP c0 c1 c2 ss rs (upToE day es)).1 co) nm lv, 0)
def leftW (c0 c1 c2 : Int) (ss : List Site) (rs : List Rest) (es : List Event) (nm : ByteArray) (co : Int) : Int × Int :=
  if rCheckP c0 c1 c2 ss rs es != 0 then (0, rCheckP c0 c1 c2 ss rs es) else
  match findSite nm ss with
  | none => (0, 6)
  | some s => if !inR co 0 2 then (0, 2) else if s.kind == 3 then (0, 15) else (rLeftP c0 c1 c2 (rReplayP c0 c1 c2 ss rs es).1 s co, 0)
section
variable (ss : List Site) (rs : List Rest) (A R : Option Addr) (n c rn rc : Nat) (c0 c1 c2 : Int) (es : List Event)
theorem freeR_w (co day : Int) : freeR (upToP ss rs day (bk0 A n c R rn rc c0 c1 c2) es) ss (readP ss rs (bk0 A n c R rn rc c0 c1 c2) es) co day = freeW c0 c1 c2 ss rs es co day := by
  have h1 := (read_check ss rs A R n c rn rc c0 c1 c2 es).1
  unfold freeR freeW
  rw [h1]
  cases hc : (rCheckP c0 c1 c2 ss rs es != 0)
  · rw [free_same (by simpa using hc)]
  · rfl
theorem firstR_w (nm : ByteArray) (lv co day : Int) : firstFreeR (readP ss rs (bk0 A n c R rn rc c0 c1 c2) es) (upToP ss rs day (bk0 A n c R rn rc c0 c1 c2) es) ss nm lv co day = firstW c0 c1 c2 ss rs es nm lv co day := by
  have h1 := (read_check ss rs A R n c rn rc c0 c1 c2 es).1
  unfold firstFreeR firstW wsErr
  rw [h1]
  cases hc : (rCheckP c0 c1 c2 ss rs es != 0)
  · cases hf : findSite nm ss with
    | none => simp
    | some s =>
      simp only [Bool.false_eq_true, if_false, Option.isSome_some, if_true, bne_self_eq_false]
      rw [first_same (by simpa using hc) day co lv hf]
  · simp only [if_true, hc]
theorem leftR_w (nm : ByteArray) (co : Int) : leftR (readP ss rs (bk0 A n c R rn rc c0 c1 c2) es) ss nm co = leftW c0 c1 c2 ss rs es nm co := by
  have h1 := (read_check ss rs A R n c rn rc c0 c1 c2 es).1
  unfold leftR leftW wsErr
  rw [h1]
  cases hc : (rCheckP c0 c1 c2 ss rs es != 0)
  · cases hf : findSite nm ss with
    | none => simp
    | some s =>
      simp only [Bool.false_eq_true, if_false, Option.isSome_some, if_true, bne_self_eq_false]
      rw [left_same (by simpa using hc) co hf]
  · simp only [if_true, hc]
end
end Go.Proofs.Ytmiobhlgpjjbgaa
