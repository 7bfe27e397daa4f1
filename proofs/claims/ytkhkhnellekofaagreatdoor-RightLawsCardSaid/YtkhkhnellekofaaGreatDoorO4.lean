/- Walk of chapter 5's against. -/
import Derived.Test.YtkhkhnellekofaaGreatDoorO0
import Derived.Test.YtkhkhnellekofaaGreatDoorNE
import Derived.Test.YtkhkhnellekofaaGreatDoorJ5
import Derived.Test.YtkhkhnellekofaaGreatDoorJ6
import Derived.Test.YtkhkhnellekofaaGreatDoorN3
import Derived.Test.YtkhkhnellekofaaGreatDoorE4
set_option linter.unusedSimpArgs false
set_option linter.unusedVariables false
namespace Go.Proofs.YtkhkhnellekofaaGreatDoor
open Go.RowKit

def seenQ (q : Rat) : Rat := if bigQ q then 0 else q
theorem seen_big (q : Rat) : bigQ (seenQ q) = false := by
 unfold seenQ
 cases h : bigQ q
 · simpa using h
 · simp [bigQ]
theorem seen_nonneg {q : Rat} (h : 0 ≤ q) : 0 ≤ seenQ q := by
 unfold seenQ
 split
 · exact Rat.le_refl
 · exact h
theorem seen_le {q : Rat} (h : 0 ≤ q) : seenQ q ≤ q := by
 unfold seenQ
 split
 · exact h
 · exact Rat.le_refl
theorem seen_of {q : Rat} (h : bigQ q = false) : seenQ q = q := by simp [seenQ, h]
def gain1 (own : Rat) (p : ByteArray × Rat) (x : Parts × Bool) : Parts × Bool :=
 (setP x.1 p.1 (seenQ (shareP x.1 p.1 + seenQ (own * p.2))), x.2 || bigQ (own * p.2) || bigQ (shareP x.1 p.1 + seenQ (own * p.2)))
def gainF (own : Rat) : Parts → Parts × Bool → Parts × Bool
 | [], x => x
 | p :: l, x => gainF own l (gain1 own p x)
theorem gainF_append (own : Rat) : ∀ (a b : Parts) (x : Parts × Bool), gainF own (a ++ b) x = gainF own b (gainF own a x)
 | [], _, _ => rfl
 | p :: a, b, x => gainF_append own a b _
theorem gain_mark {own : Rat} : ∀ {l : Parts} {x : Parts × Bool}, x.2 = true → (gainF own l x).2 = true
 | [], _, h => h
 | p :: l, x, h => gain_mark (l := l) (by simp [gain1, h])
theorem set_good {l : Parts} (h : GoodParts l) {n : ByteArray} {q : Rat} (hq : 0 ≤ q) : GoodParts (setP l n q) := by
 by_cases h0 : q = 0
 · subst h0
   rw [set_zero h.asc]
   exact without_good h
 · refine ⟨set_asc h.asc n q, fun p hp => ?_⟩
   rcases set_mem hp with rfl | hp
   · show 0 < q
     grind
   · exact h.pos p hp
theorem sum_set {l : Parts} (h : GoodParts l) (n : ByteArray) (q : Rat) : sumQ (setP l n q) = sumQ l - shareP l n + q := by
 have hw := without_sum (n := n) h
 rw [set_keeps h.asc]
 by_cases hq : q == 0
 · rw [if_pos hq]
   have : q = 0 := by simpa using hq
   subst this
   grind
 · rw [if_neg hq, sum_given]
   grind
theorem small_set {l : Parts} {n : ByteArray} {q : Rat} (h : largeP l = false) (hq : bigQ q = false) : largeP (setP l n q) = false := by
 unfold largeP at *
 rw [List.any_eq_false] at *
 intro p hp
 rcases set_mem hp with rfl | hp
 · simpa using hq
 · exact h p hp
theorem len_set {n : ByteArray} {q : Rat} : ∀ {l : Parts}, (setP l n q).length ≤ l.length + 1
 | [] => by unfold setP; split <;> simp
 | x :: l => by
  unfold setP
  have := len_set (n := n) (q := q) (l := l)
  split
  · simpa using this
  · split
    · split <;> simp <;> omega
    · split <;> simp
theorem share_small {l : Parts} (n : ByteArray) (h : largeP l = false) : bigQ (shareP l n) = false := by
 unfold shareP
 cases hf : l.find? (fun p => sameB p.1 n) with
 | none => simp [bigQ]
 | some p =>
  unfold largeP at h
  rw [List.any_eq_false] at h
  simpa using h p (List.mem_of_find?_eq_some hf)
theorem share_le_sum {l : Parts} (h : GoodParts l) (n : ByteArray) : shareP l n ≤ sumQ l := by
 have h1 := without_sum (n := n) h
 have h2 := sum_nonneg (l := withoutP l n) fun p hp => by have := (without_good h (n := n)).pos p hp; grind
 grind
theorem small_q {q : Rat} (h0 : 0 ≤ q) (h1 : q ≤ 1) (hb : bigQ q = false) : small5 q := by
 unfold bigQ at hb
 have hd := q.den_pos
 have hb2 : (q.den : Int) ≤ 1000000000 := by simpa using hb
 rw [Rat.le_iff] at h0 h1
 have h2 : 0 ≤ q.num := by simpa using h0
 have h3 : q.num ≤ (q.den : Int) := by simpa using h1
 exact ⟨by omega, by omega⟩
structure Bd (out : Parts) (t : Rat) : Prop where
 good : GoodParts out
 small : largeP out = false
 le : sumQ out ≤ t
theorem Bd.share {out : Parts} {t : Rat} (h : Bd out t) (ht : t ≤ 1) (n : ByteArray) : small5 (shareP out n) :=
 small_q (share_nonneg h.good n) (by have := share_le_sum h.good n; have := h.le; grind) (share_small n h.small)
theorem Bd.set {out : Parts} {t g : Rat} (h : Bd out t) (n : ByteArray) (hg : 0 ≤ g) : Bd (setP out n (seenQ (shareP out n + g))) (t + g) := by
 have hs := share_nonneg h.good n
 have h1 : 0 ≤ shareP out n + g := by grind
 refine ⟨set_good h.good (seen_nonneg h1), small_set h.small (seen_big _), ?_⟩
 rw [sum_set h.good]
 have := seen_le h1
 have := h.le
 grind
theorem Bd.gain {own : Rat} {out : Parts} {t : Rat} {p : ByteArray × Rat} {f : Bool} (h : Bd out t) (ho : 0 ≤ own) (hp : 0 ≤ p.2) : Bd (gain1 own p (out, f)).1 (t + own * p.2) := by
 have hm : 0 ≤ own * p.2 := Rat.mul_nonneg ho hp
 have h1 := h.set p.1 (seen_nonneg hm)
 have h2 := seen_le hm
 exact ⟨h1.good, h1.small, by have := h1.le; grind [gain1]⟩
theorem set_seen {out : Parts} (h : GoodParts out) {n : ByteArray} {g : Rat} (hg : 0 ≤ g) (hb : bigQ (shareP out n + g) = false) : setP out n (seenQ (shareP out n + g)) = givenP out n g := by
 rw [seen_of hb, set_given h hg]
theorem given_has {n : ByteArray} {q : Rat} : ∀ {l : Parts}, GoodParts l → 0 < q → (n, shareP l n + q) ∈ givenP l n q
 | [], _, hq => by
  have : (q == 0) = false := by rw [beq_eq_false_iff_ne]; grind
  simp [givenP, this, shareP, Rat.zero_add]
 | x :: l, h, hq => by
  have hq0 : (q == 0) = false := by rw [beq_eq_false_iff_ne]; grind
  have ht : GoodParts l := ⟨(List.pairwise_cons.1 h.asc).2, fun p hp => h.pos p (by simp [hp])⟩
  rw [givenP, hq0]
  cases hl : lessN x.1 n
  · cases hs : sameB x.1 n
    · have hlt : lessN n x.1 = true := by
        rcases lessN_tri x.1 n with h1 | h1 | h1
        · rw [hl] at h1; cases h1
        · exact absurd h1 (same_ne.1 hs)
        · exact h1
      have h0 : shareP (x :: l) n = 0 := (share_none fun p hp => by
       rcases List.mem_cons.1 hp with rfl | hp
       · exact (lessN_ne hlt).symm
       · exact (lessN_ne (lessN_trans hlt ((List.pairwise_cons.1 h.asc).1 p hp))).symm).1
      simp [h0, Rat.zero_add]
    · rw [share_cons, hs]
      simp
  · rw [share_cons, less_same hl]
    simp only [Bool.false_eq_true, if_false, if_true]
    exact List.mem_cons_of_mem _ (given_has ht hq)
theorem given_big {out : Parts} (h : GoodParts out) (hs : largeP out = false) {n : ByteArray} {g : Rat} (hg : 0 ≤ g) : largeP (givenP out n g) = bigQ (shareP out n + g) := by
 by_cases h0 : g = 0
 · subst h0
   have : givenP out n 0 = out := by cases out <;> simp [givenP]
   rw [this, hs, Rat.add_zero, share_small n hs]
 · cases hb : bigQ (shareP out n + g)
   · rw [← set_given h hg]
     exact small_set hs hb
   · unfold largeP
     rw [List.any_eq_true]
     exact ⟨_, given_has h (by grind), hb⟩
theorem gain_same {own : Rat} (ho : 0 ≤ own) : ∀ {l out : Parts}, (∀ p ∈ l, 0 ≤ p.2) → GoodParts out → largeP out = false →
    (∀ o, gainGo own l out = some o → gainF own l (out, false) = (o, false)) ∧ (gainGo own l out = none → (gainF own l (out, false)).2 = true)
 | [], out, _, _, _ => by
  refine ⟨fun o h => ?_, fun h => ?_⟩
  · rw [gainGo] at h; cases h; rfl
  · rw [gainGo] at h; cases h
 | p :: l, out, hp, hg, hs => by
  have hm : 0 ≤ own * p.2 := Rat.mul_nonneg ho (hp p (by simp))
  rw [gainGo]
  show (∀ o, _ = _ → gainF own l (gain1 own p (out, false)) = _) ∧ (_ → (gainF own l (gain1 own p (out, false))).2 = true)
  cases h1 : bigQ (own * p.2)
  · have hsq : seenQ (own * p.2) = own * p.2 := seen_of h1
    have hgl := given_big hg hs (n := p.1) hm
    rw [if_neg (by simp)]
    cases h2 : bigQ (shareP out p.1 + own * p.2)
    · have e : gain1 own p (out, false) = (givenP out p.1 (own * p.2), false) := by
        unfold gain1
        simp only [hsq, h1, h2, Bool.or_self]
        rw [set_seen hg hm h2]
      rw [hgl, h2, if_neg (by simp), e]
      exact gain_same ho (fun q hq => hp q (by simp [hq])) (given_good hm hg) (by rw [hgl, h2])
    · rw [hgl, h2, if_pos rfl]
      refine ⟨fun o h => by (cases h), fun _ => gain_mark ?_⟩
      simp [gain1, hsq, h2]
  · rw [if_pos rfl]
    refine ⟨fun o h => by (cases h), fun _ => gain_mark ?_⟩
    simp [gain1, h1]
theorem gain_bd {own : Rat} (ho : 0 ≤ own) : ∀ {l out : Parts} {f : Bool} {t : Rat}, (∀ p ∈ l, 0 ≤ p.2) → Bd out t → Bd (gainF own l (out, f)).1 (t + own * sumQ l)
 | [], out, f, t, _, h => by
  show Bd out (t + own * 0)
  rw [Rat.mul_zero, Rat.add_zero]
  exact h
 | p :: l, out, f, t, hp, h => by
  have h1 := gain_bd ho (l := l) (f := (gain1 own p (out, f)).2) (fun q hq => hp q (by simp [hq])) (h.gain (f := f) ho (hp p (by simp)))
  have e : t + own * p.2 + own * sumQ l = t + own * sumQ (p :: l) := by rw [sumQ]; grind
  rw [e] at h1
  exact h1
def transferF (hs : Parts) (frm : ByteArray) (tl : Parts) : Parts × Bool :=
 gainF (shareP hs frm) tl (setP hs frm (seenQ (shareP hs frm * (1 - sumQ tl))), bigQ (shareP hs frm * (1 - sumQ tl)))
theorem transfer_same {hs tl : Parts} {frm : ByteArray} (hg : GoodParts hs) (hl : largeP hs = false) (hp : ∀ p ∈ tl, 0 ≤ p.2) (h1 : sumQ tl ≤ 1) :
    (if bigQ (shareP hs frm * (1 - sumQ tl)) then none else gainGo (shareP hs frm) tl (givenP (withoutP hs frm) frm (shareP hs frm * (1 - sumQ tl)))) = if (transferF hs frm tl).2 then none else some (transferF hs frm tl).1 := by
 have ho := share_nonneg hg frm
 have hk : 0 ≤ shareP hs frm * (1 - sumQ tl) := Rat.mul_nonneg ho (by grind)
 unfold transferF
 cases hb : bigQ (shareP hs frm * (1 - sumQ tl))
 · rw [seen_of hb, if_neg (by simp)]
   have e : setP hs frm (shareP hs frm * (1 - sumQ tl)) = givenP (withoutP hs frm) frm (shareP hs frm * (1 - sumQ tl)) := by
    rw [set_keeps hg.asc]
    split
    · rename_i h0
      have : shareP hs frm * (1 - sumQ tl) = 0 := by simpa using h0
      rw [this]
      cases withoutP hs frm <;> simp [givenP]
    · rfl
   have hgs := set_good hg (n := frm) hk
   have hss := small_set (n := frm) hl hb
   obtain ⟨g1, g2⟩ := gain_same ho hp hgs hss
   rw [e] at g1 g2 ⊢
   cases hx : gainGo (shareP hs frm) tl (givenP (withoutP hs frm) frm (shareP hs frm * (1 - sumQ tl))) with
   | none => rw [g2 hx, if_pos rfl]
   | some o => rw [g1 o hx, if_neg (by simp)]
 · rw [if_pos rfl, gain_mark rfl, if_pos rfl]
end Go.Proofs.YtkhkhnellekofaaGreatDoor
namespace Go.Proofs.YtkhkhnellekofaaGreatDoor
open Go.RowKit

def givesF (n : ByteArray) (f : Rat) (x : Parts × Bool) : Parts × Bool :=
 (setP x.1 n (seenQ (shareP x.1 n + f)), x.2 || bigQ (shareP x.1 n + f))
mutual
def linesF (part : Rat) : List Tree → Parts × Bool → Parts × Bool
 | [], x => x
 | t :: l, x => linesF part l (treeF part t x)
def treeF (part : Rat) : Tree → Parts × Bool → Parts × Bool
 | .leaf n, x => givesF n part x
 | .node l, x => linesF (seenQ (part * (1 / (l.length : Rat)))) l (x.1, x.2 || bigQ (part * (1 / (l.length : Rat))))
end
def divideF (l : List Tree) (f : Rat) (x : Parts × Bool) : Parts × Bool :=
 linesF (seenQ (f * (1 / (l.length : Rat)))) l (x.1, x.2 || bigQ (f * (1 / (l.length : Rat))))
theorem treeF_node (part : Rat) (l : List Tree) (x : Parts × Bool) : treeF part (.node l) x = divideF l part x := by rw [treeF, divideF]
theorem linesF_append (part : Rat) : ∀ (a b : List Tree) (x : Parts × Bool), linesF part (a ++ b) x = linesF part b (linesF part a x)
 | [], _, _ => by rw [List.nil_append, linesF]
 | t :: a, b, x => by rw [List.cons_append, linesF, linesF, linesF_append part a b]
def willF (s : St) (frm : ByteArray) : Parts → Parts × Bool → Rat → (Parts × Bool) × Rat
 | [], x, rest => (x, rest)
 | p :: l, x, rest => if ableP s p.1 frm then willF s frm l (givesF p.1 p.2 x) (rest - p.2) else willF s frm l x rest
def heirSpouse (s : St) (n : ByteArray) : ByteArray := if ableP s (spouseP s n) n then spouseP s n else ⟨#[]⟩
def estateF (s : St) (law : Law) (n : ByteArray) : Parts × Bool :=
 let y := willF s n (willOf s n) ([], false) 1
 let sp := heirSpouse s n
 let lines := treesP s law.stems n (generations s) n
 if lines.isEmpty then givesF sp y.2 y.1 else
 if noB sp then divideF lines y.2 y.1 else
 divideF lines (y.2 - y.2 * Rat.divInt law.num law.den) (givesF sp (y.2 * Rat.divInt law.num law.den) y.1)
mutual
theorem lines_mark {part : Rat} : ∀ {l : List Tree} {x : Parts × Bool}, x.2 = true → (linesF part l x).2 = true
 | [], x, h => by rw [linesF]; exact h
 | t :: l, x, h => by rw [linesF]; exact lines_mark (tree_mark h)
theorem tree_mark {part : Rat} : ∀ {t : Tree} {x : Parts × Bool}, x.2 = true → (treeF part t x).2 = true
 | .leaf n, x, h => by rw [treeF]; simp [givesF, h]
 | .node l, x, h => by rw [treeF]; exact lines_mark (by simp [h])
end
theorem gives_ok {out : Parts} (h : GoodParts out) {n : ByteArray} {f : Rat} (hf : 0 ≤ f) (hb : bigQ (shareP out n + f) = false) : givesF n f (out, false) = (givenP out n f, false) := by
 unfold givesF
 simp only [hb, Bool.or_self]
 rw [set_seen h hf hb]
theorem div_one (a : Rat) (n : Nat) : a * (1 / (n : Rat)) = a / (n : Rat) := by
 rw [Rat.div_def, Rat.div_def, Rat.one_mul]
theorem div_nonneg5 {a : Rat} (h : 0 ≤ a) (n : Nat) : 0 ≤ a * (1 / (n : Rat)) := by
 rw [div_one]
 exact rat_div_nonneg h Rat.natCast_nonneg
mutual
theorem lines_same {each : Rat} (he : 0 ≤ each) : ∀ {l : List Tree} {out : Parts}, GoodParts out → largeP out = false →
    (∀ o, spreadP each l out = some o → linesF each l (out, false) = (o, false)) ∧ (spreadP each l out = none → (linesF each l (out, false)).2 = true)
 | [], out, hg, hs => by
  rw [spreadP, linesF]
  exact ⟨fun o h => by cases h; rfl, fun h => by cases h⟩
 | t :: l, out, hg, hs => by
  obtain ⟨h1, h2⟩ := tree_same he (t := t) hg hs
  rw [spreadP, linesF]
  cases ht : treeP each t out with
  | none =>
   refine ⟨fun o h => by (cases h), fun _ => lines_mark (h2 ht)⟩
  | some o1 =>
   rw [h1 o1 ht]
   obtain ⟨g1, g2⟩ := tree_good he hg hs ht
   exact lines_same he g1 g2
theorem tree_same {each : Rat} (he : 0 ≤ each) : ∀ {t : Tree} {out : Parts}, GoodParts out → largeP out = false →
    (∀ o, treeP each t out = some o → treeF each t (out, false) = (o, false)) ∧ (treeP each t out = none → (treeF each t (out, false)).2 = true)
 | .leaf n, out, hg, hs => by
  rw [treeP, treeF, given_big hg hs he]
  cases hb : bigQ (shareP out n + each)
  · rw [if_neg (by simp), gives_ok hg he hb]
    exact ⟨fun o h => by cases h; rfl, fun h => by cases h⟩
  · rw [if_pos rfl]
    refine ⟨fun o h => by (cases h), fun _ => by simp [givesF, hb]⟩
 | .node l, out, hg, hs => by
  rw [treeP, treeF, div_one]
  cases hb : bigQ (each / (l.length : Rat))
  · rw [if_neg (by simp), seen_of hb]
    exact lines_same (rat_div_nonneg he Rat.natCast_nonneg) hg hs
  · rw [if_pos rfl]
    exact ⟨fun o h => by (cases h), fun _ => lines_mark (by simp)⟩
end
theorem given_zero (out : Parts) (n : ByteArray) : givenP out n 0 = out := by cases out <;> simp [givenP]
theorem gives_zero {out : Parts} (h : GoodParts out) (hs : largeP out = false) (n : ByteArray) : givesF n 0 (out, false) = (out, false) := by
 rw [gives_ok h Rat.le_refl (by rw [Rat.add_zero]; exact share_small n hs), given_zero]
theorem seen_zero (k : Nat) : seenQ (0 * (1 / (k : Rat))) = 0 ∧ bigQ (0 * (1 / (k : Rat))) = false := by
 rw [Rat.zero_mul]
 exact ⟨seen_of (by decide), by decide⟩
mutual
theorem lines_zero : ∀ {l : List Tree} {out : Parts}, GoodParts out → largeP out = false → linesF 0 l (out, false) = (out, false)
 | [], out, _, _ => by rw [linesF]
 | t :: l, out, hg, hs => by rw [linesF, tree_zero hg hs, lines_zero hg hs]
theorem tree_zero : ∀ {t : Tree} {out : Parts}, GoodParts out → largeP out = false → treeF 0 t (out, false) = (out, false)
 | .leaf n, out, hg, hs => by rw [treeF, gives_zero hg hs]
 | .node l, out, hg, hs => by
  rw [treeF, (seen_zero l.length).1, (seen_zero l.length).2]
  exact lines_zero hg hs
end
theorem divide_zero {l : List Tree} {out : Parts} (hg : GoodParts out) (hs : largeP out = false) : divideF l 0 (out, false) = (out, false) := by
 rw [divideF, (seen_zero l.length).1, (seen_zero l.length).2]
 exact lines_zero hg hs
theorem will_same {s : St} {frm : ByteArray} : ∀ {l out : Parts} {rest : Rat}, (∀ p ∈ l, 0 < p.2) → (∀ p ∈ l, IsN 720720 p.2) → GoodParts out → (∀ p ∈ out, IsN 720720 p.2) →
    willF s frm l (out, false) rest = (((willGo s frm l out rest).1, false), (willGo s frm l out rest).2)
 | [], out, rest, _, _, _, _ => rfl
 | p :: l, out, rest, hp, hN, hg, hn => by
  have hl := fun q (hq : q ∈ l) => hp q (by simp [hq])
  have hNl := fun q (hq : q ∈ l) => hN q (by simp [hq])
  rw [willF, willGo]
  split
  · have h0 : 0 ≤ p.2 := by have := hp p (by simp); grind
    have hgi := given_isN (nm := p.1) (hN p (by simp)) hn
    have hb : bigQ (shareP out p.1 + p.2) = false := by
     rw [← given_big hg (small_of (by decide) (by decide) hn) h0]
     exact small_of (by decide) (by decide) hgi
    rw [gives_ok hg h0 hb]
    exact will_same hl hNl (given_good h0 hg) hgi
  · exact will_same hl hNl hg hn
theorem isN_law {law : Law} (hl : isShareP 16 law.num law.den = true) : (∃ d : Nat, 0 < d ∧ d ≤ 16 ∧ IsN d (Rat.divInt law.num law.den)) ∧ 0 ≤ Rat.divInt law.num law.den ∧ Rat.divInt law.num law.den ≤ 1 := by
 refine ⟨?_, (share_rat hl).2.2⟩
 have hd := hl
 unfold isShareP at hd
 simp only [Bool.and_eq_true, decide_eq_true_eq] at hd
 refine ⟨law.den.toNat, by omega, by omega, law.num, ?_⟩
 have hz : (law.den : Rat) ≠ 0 := ratI (by omega)
 have e : ((law.den.toNat : Nat) : Rat) = (law.den : Rat) := by rw [← Rat.intCast_natCast, Int.toNat_of_nonneg (by omega)]
 rw [Rat.divInt_eq_div, e]
 grind
theorem isN_small {n : Nat} (h0 : 0 < n) (h1 : n ≤ 1000000000) {q : Rat} (h : IsN n q) : bigQ q = false := by
 have := isN_den h0 h
 unfold bigQ
 simp
 omega
theorem estate_same {s : St} {law : Law} {n : ByteArray} (hw : WillOk (willOf s n)) (hl : isShareP 16 law.num law.den = true) :
    (∀ o, estateP s law n = some o → (estateF s law n) = (o, false)) ∧ (estateP s law n = none → (estateF s law n).2 = true) := by
 have hws := will_same (s := s) (frm := n) (rest := 1) hw.pos hw.isN good_nil (by simp)
 have hg := will_go (s := s) (frm := n) (out := []) (rest := 1) hw.pos hw.isN hw.le good_nil (by simp) (isN_one _)
 unfold estateP estateF heirSpouse
 rw [hws]
 generalize willGo s n (willOf s n) [] 1 = q at *
 obtain ⟨out, rest⟩ := q
 dsimp only at *
 obtain ⟨g1, g2, g3, g4, g5⟩ := hg
 have gs : largeP out = false := small_of (by decide) (by decide) g2
 obtain ⟨⟨ld, ld0, ld1, l1⟩, l2, l3⟩ := isN_law hl
 generalize Rat.divInt law.num law.den = la at *
 generalize (if ableP s (spouseP s n) n = true then spouseP s n else ⟨#[]⟩) = sp at *
 generalize treesP s law.stems n (generations s) n = tr at *
 by_cases hr : rest = 0
 · subst hr
   have hz : (0 : Rat) - 0 = 0 := by grind
   simp only [Rat.zero_mul, hz, beq_self_eq_true, if_true]
   refine ⟨fun o h => ?_, fun h => by cases h⟩
   cases h
   split
   · exact gives_zero g1 gs sp
   · split
     · exact divide_zero g1 gs
     · rw [gives_zero g1 gs, divide_zero g1 gs]
 · have hr0 : (rest == 0) = false := by simpa using hr
   have hrp : 0 < rest := by grind
   simp only [hr0, Bool.false_eq_true, if_false]
   cases he : tr.isEmpty
   · simp only [Bool.false_eq_true, if_false]
     have hdiv : ∀ {x : Parts} {r : Rat}, GoodParts x → largeP x = false → 0 ≤ r →
         (∀ o, (if bigQ (r / (tr.length : Rat)) = true then none else spreadP (r / (tr.length : Rat)) tr x) = some o → divideF tr r (x, false) = (o, false)) ∧ ((if bigQ (r / (tr.length : Rat)) = true then none else spreadP (r / (tr.length : Rat)) tr x) = none → (divideF tr r (x, false)).2 = true) := fun {x r} hx hxs hr' => by
      rw [divideF, div_one]
      cases hb : bigQ (r / (tr.length : Rat))
      · rw [if_neg (by simp), seen_of hb]
        exact lines_same (rat_div_nonneg hr' Rat.natCast_nonneg) hx hxs
      · rw [if_pos rfl]
        exact ⟨fun o h => by (cases h), fun _ => lines_mark (by simp)⟩
     cases hn : noB sp
     · simp only [Bool.false_eq_true, if_false]
       have ho0 : 0 ≤ rest * la := Rat.mul_nonneg g4 l2
       have ho1 : rest * la ≤ rest := by
        have := Rat.mul_nonneg g4 (show 0 ≤ 1 - la by grind)
        grind
       have hb : bigQ (shareP out sp + rest * la) = false := by
        have h1 : IsN (720720 * ld) (shareP out sp + rest * la) := by
         refine isN_add (isN_up ?_) (isN_mul g3 l1)
         unfold shareP
         cases hf : out.find? (fun p => sameB p.1 sp) with
         | none => exact isN_zero _
         | some p => exact g2 p (List.mem_of_find?_eq_some hf)
        exact isN_small (by omega) (by omega) h1
       rw [gives_ok g1 ho0 hb]
       have hg2 := given_good (n := sp) ho0 g1
       have hs2 : largeP (givenP out sp (rest * la)) = false := by rw [given_big g1 gs ho0]; exact hb
       by_cases hz : rest - rest * la = 0
       · rw [hz]
         simp only [beq_self_eq_true, if_true]
         exact ⟨fun o h => by cases h; exact divide_zero hg2 hs2, fun h => by cases h⟩
       · have hz2 : (rest - rest * la == 0) = false := by simpa using hz
         simp only [hz2, Bool.false_eq_true, if_false]
         exact hdiv hg2 hs2 (by grind)
     · simp only [if_true]
       have hz : rest - 0 = rest := by grind
       simp only [hz, hr0, Bool.false_eq_true, if_false]
       exact hdiv g1 gs g4
   · simp only [if_true]
     have hb : bigQ (shareP out sp + rest) = false := by
      rw [← given_big g1 gs g4]
      exact small_of (by decide) (by decide) (given_isN g3 g2)
     rw [gives_ok g1 g4 hb]
     exact ⟨fun o h => by cases h; rfl, fun h => by cases h⟩
end Go.Proofs.YtkhkhnellekofaaGreatDoor
namespace Go.Proofs.YtkhkhnellekofaaGreatDoor
open Go.RowKit Go.Shelf
attribute [local go_sem] World.cell?_alloc_mark ext_size ext_cell ext_frozen lt_add_r lt_add_r2 lt_add_r3 lt_add_r4 lt_add_r5 lt_add_r6 lt_add_r7 lt_add_r8
attribute [local go_sem] ext_setCell alloc_setCell_lt

def Rec.v (r : Rec) : Value := .agg #[.int .i64 r.kind, .string r.name, .string r.other, .string r.place, .int .i64 r.day, .int .i64 r.til, .int .i64 r.num, .int .i64 r.den]
def recO (r : Rec) : Obj := .cells #[.int .i64 r.kind, .string r.name, .string r.other, .string r.place, .int .i64 r.day, .int .i64 r.til, .int .i64 r.num, .int .i64 r.den] 65
set_option maxRecDepth 100000 in
set_option maxHeartbeats 2000000 in
theorem against_any (x y : Rec) (w : World) (hx : 0 ≤ x.kind ∧ x.kind ≤ 4) (hy : 0 ≤ y.kind ∧ y.kind ≤ 4) : Calls Tryz.prog 69 #[x.v, y.v] w (Ret w (.bool (againstP x y))) := by
 obtain ⟨lo, hi, hlh⟩ : ∃ lo hi, (lo, hi) = if y.kind < x.kind then (y, x) else (x, y) := ⟨_, _, rfl⟩
 have hr : againstP x y = againstQ lo hi := by
  unfold againstP
  by_cases h : y.kind < x.kind
  · rw [if_pos h] at hlh; cases hlh; rw [if_pos (by simpa using h)]
  · rw [if_neg h] at hlh; cases hlh; rw [if_neg (by simpa using h)]
 have hkl : 0 ≤ lo.kind ∧ lo.kind ≤ 4 ∧ 0 ≤ hi.kind ∧ hi.kind ≤ 4 := by
  split at hlh <;> cases hlh <;> omega
 rw [hr]
 obtain ⟨R, hR⟩ : ∃ R, R = againstQ lo hi := ⟨_, rfl⟩
 rw [← hR]
 have HR := Lib.hid hR
 clear hR
 unfold Rec.v
 go_enter Tryz.func69, Tryz.ntmps69
 go_upto_if 10 with fail
 go_cut [11, 12] from 13 (fun _ _ W => W.heap[w.heap.size]? = some (recO lo) ∧ W.heap[w.heap.size + 1]? = some (recO hi) ∧ Below w.heap.size w W)
 case first =>
  by_cases h : y.kind < x.kind
  · rw [if_pos h] at hlh
    cases hlh
    go_wp2_with fail
    go_meet
    exact ⟨J_alloc (J_new _ _ _ rfl), J_new _ _ _ (by simp), Bw⟩
  · rw [if_neg h] at hlh
    cases hlh
    go_wp2_with fail
    go_meet
    exact ⟨J_alloc (J_new _ _ _ rfl), J_new _ _ _ (by simp), Bw⟩
 case rest =>
  obtain ⟨g0, g1, hB⟩ := hcut
  clear hlh hr hx hy
  obtain ⟨lk, ln, lo2, lp, ld, lt, lu, lv⟩ := lo
  obtain ⟨hk, hn, ho2, hp, hd, ht, hu, hv⟩ := hi
  simp only at hkl
  unfold recO at g0 g1
  have a0 : wc.cell? ⟨w.heap.size, 0, none⟩ = some (.int .i64 lk) := by simp only [World.cell?, g0]; rfl
  have a1 : wc.cell? ⟨w.heap.size, 1, none⟩ = some (.string ln) := by simp only [World.cell?, g0]; rfl
  have a3 : wc.cell? ⟨w.heap.size, 3, none⟩ = some (.string lp) := by simp only [World.cell?, g0]; rfl
  have a4 : wc.cell? ⟨w.heap.size, 4, none⟩ = some (.int .i64 ld) := by simp only [World.cell?, g0]; rfl
  have a5 : wc.cell? ⟨w.heap.size, 5, none⟩ = some (.int .i64 lt) := by simp only [World.cell?, g0]; rfl
  have a6 : wc.cell? ⟨w.heap.size, 6, none⟩ = some (.int .i64 lu) := by simp only [World.cell?, g0]; rfl
  have a7 : wc.cell? ⟨w.heap.size, 7, none⟩ = some (.int .i64 lv) := by simp only [World.cell?, g0]; rfl
  have b0 : wc.cell? ⟨w.heap.size + 1, 0, none⟩ = some (.int .i64 hk) := by simp only [World.cell?, g1]; rfl
  have b1 : wc.cell? ⟨w.heap.size + 1, 1, none⟩ = some (.string hn) := by simp only [World.cell?, g1]; rfl
  have b3 : wc.cell? ⟨w.heap.size + 1, 3, none⟩ = some (.string hp) := by simp only [World.cell?, g1]; rfl
  have b4 : wc.cell? ⟨w.heap.size + 1, 4, none⟩ = some (.int .i64 hd) := by simp only [World.cell?, g1]; rfl
  have b5 : wc.cell? ⟨w.heap.size + 1, 5, none⟩ = some (.int .i64 ht) := by simp only [World.cell?, g1]; rfl
  have b6 : wc.cell? ⟨w.heap.size + 1, 6, none⟩ = some (.int .i64 hu) := by simp only [World.cell?, g1]; rfl
  have b7 : wc.cell? ⟨w.heap.size + 1, 7, none⟩ = some (.int .i64 hv) := by simp only [World.cell?, g1]; rfl
  have HB := Lib.hid hB
  clear hB g0 g1
  have hR := HR.out
  unfold againstQ at hR
  simp only at hR
  clear HR
  have hl' : lk = 0 ∨ lk = 1 ∨ lk = 2 ∨ lk = 3 ∨ lk = 4 := by omega
  have hh' : hk = 0 ∨ hk = 1 ∨ hk = 2 ∨ hk = 3 ∨ hk = 4 := by omega
  clear hkl
  rcases hl' with rfl | rfl | rfl | rfl | rfl <;> rcases hh' with rfl | rfl | rfl | rfl | rfl
  · have HR : Hid (R = false) := by (show _ = _; rw [hR]; rfl)
    clear hR
    go_wp2_with fail
    go_ret
    rw [HR.out]
    exact Ret.of (bool_eq (by first | rfl | (simp [*]; done))) (HB.out.trans (Below.mono (B := wc.heap.size) Bw HB.out.size))
  · cases hs : (ln.toList == hn.toList)
    · have HR : Hid (R = false) := by (show _ = _; rw [hR]; simp [sameB, *])
      clear hR
      go_wp2_with fail
      go_ret
      rw [HR.out]
      exact Ret.of (bool_eq (by first | rfl | (simp [*]; done))) (HB.out.trans (Below.mono (B := wc.heap.size) Bw HB.out.size))
    · by_cases h : hd < ld
      · have HR : Hid (R = true) := by (show _ = _; rw [hR]; simp [sameB, *])
        clear hR
        go_wp2_with fail
        go_ret
        rw [HR.out]
        exact Ret.of (bool_eq (by first | rfl | (simp [*]; done))) (HB.out.trans (Below.mono (B := wc.heap.size) Bw HB.out.size))
      · have HR : Hid (R = false) := by (show _ = _; rw [hR]; simp [sameB, *])
        clear hR
        go_wp2_with fail
        go_ret
        rw [HR.out]
        exact Ret.of (bool_eq (by first | rfl | (simp [*]; done))) (HB.out.trans (Below.mono (B := wc.heap.size) Bw HB.out.size))
  · have HR : Hid (R = false) := by (show _ = _; rw [hR]; rfl)
    clear hR
    go_wp2_with fail
    go_ret
    rw [HR.out]
    exact Ret.of (bool_eq (by first | rfl | (simp [*]; done))) (HB.out.trans (Below.mono (B := wc.heap.size) Bw HB.out.size))
  · have HR : Hid (R = false) := by (show _ = _; rw [hR]; rfl)
    clear hR
    go_wp2_with fail
    go_ret
    rw [HR.out]
    exact Ret.of (bool_eq (by first | rfl | (simp [*]; done))) (HB.out.trans (Below.mono (B := wc.heap.size) Bw HB.out.size))
  · have HR : Hid (R = false) := by (show _ = _; rw [hR]; rfl)
    clear hR
    go_wp2_with fail
    go_ret
    rw [HR.out]
    exact Ret.of (bool_eq (by first | rfl | (simp [*]; done))) (HB.out.trans (Below.mono (B := wc.heap.size) Bw HB.out.size))
  · have HR : Hid (R = false) := by (show _ = _; rw [hR]; rfl)
    clear hR
    go_wp2_with fail
    go_ret
    rw [HR.out]
    exact Ret.of (bool_eq (by first | rfl | (simp [*]; done))) (HB.out.trans (Below.mono (B := wc.heap.size) Bw HB.out.size))
  · cases hs : (ln.toList == hn.toList)
    · have HR : Hid (R = false) := by (show _ = _; rw [hR]; simp [sameB, *])
      clear hR
      go_wp2_with fail
      go_ret
      rw [HR.out]
      exact Ret.of (bool_eq (by first | rfl | (simp [*]; done))) (HB.out.trans (Below.mono (B := wc.heap.size) Bw HB.out.size))
    · by_cases h : ld = hd
      · have HR : Hid (R = false) := by (show _ = _; rw [hR]; simp [sameB, *])
        clear hR
        go_wp2_with fail
        go_ret
        rw [HR.out]
        exact Ret.of (bool_eq (by first | rfl | (simp [*]; done))) (HB.out.trans (Below.mono (B := wc.heap.size) Bw HB.out.size))
      · have HR : Hid (R = true) := by (show _ = _; rw [hR]; simp [sameB, *])
        clear hR
        go_wp2_with fail
        go_ret
        rw [HR.out]
        exact Ret.of (bool_eq (by first | rfl | (simp [*]; done))) (HB.out.trans (Below.mono (B := wc.heap.size) Bw HB.out.size))
  · have HR : Hid (R = false) := by (show _ = _; rw [hR]; rfl)
    clear hR
    go_wp2_with fail
    go_ret
    rw [HR.out]
    exact Ret.of (bool_eq (by first | rfl | (simp [*]; done))) (HB.out.trans (Below.mono (B := wc.heap.size) Bw HB.out.size))
  · cases hs : (ln.toList == hn.toList)
    · have HR : Hid (R = false) := by (show _ = _; rw [hR]; simp [sameB, *])
      clear hR
      go_wp2_with fail
      go_ret
      rw [HR.out]
      exact Ret.of (bool_eq (by first | rfl | (simp [*]; done))) (HB.out.trans (Below.mono (B := wc.heap.size) Bw HB.out.size))
    · by_cases h : ld < hd
      · have HR : Hid (R = true) := by (show _ = _; rw [hR]; simp [sameB, *])
        clear hR
        go_wp2_with fail
        go_ret
        rw [HR.out]
        exact Ret.of (bool_eq (by first | rfl | (simp [*]; done))) (HB.out.trans (Below.mono (B := wc.heap.size) Bw HB.out.size))
      · have HR : Hid (R = false) := by (show _ = _; rw [hR]; simp [sameB, *])
        clear hR
        go_wp2_with fail
        go_ret
        rw [HR.out]
        exact Ret.of (bool_eq (by first | rfl | (simp [*]; done))) (HB.out.trans (Below.mono (B := wc.heap.size) Bw HB.out.size))
  · cases hs : (ln.toList == hn.toList)
    · have HR : Hid (R = false) := by (show _ = _; rw [hR]; simp [sameB, *])
      clear hR
      go_wp2_with fail
      go_ret
      rw [HR.out]
      exact Ret.of (bool_eq (by first | rfl | (simp [*]; done))) (HB.out.trans (Below.mono (B := wc.heap.size) Bw HB.out.size))
    · by_cases h : ld < hd
      · have HR : Hid (R = true) := by (show _ = _; rw [hR]; simp [sameB, *])
        clear hR
        go_wp2_with fail
        go_ret
        rw [HR.out]
        exact Ret.of (bool_eq (by first | rfl | (simp [*]; done))) (HB.out.trans (Below.mono (B := wc.heap.size) Bw HB.out.size))
      · have HR : Hid (R = false) := by (show _ = _; rw [hR]; simp [sameB, *])
        clear hR
        go_wp2_with fail
        go_ret
        rw [HR.out]
        exact Ret.of (bool_eq (by first | rfl | (simp [*]; done))) (HB.out.trans (Below.mono (B := wc.heap.size) Bw HB.out.size))
  · have HR : Hid (R = false) := by (show _ = _; rw [hR]; rfl)
    clear hR
    go_wp2_with fail
    go_ret
    rw [HR.out]
    exact Ret.of (bool_eq (by first | rfl | (simp [*]; done))) (HB.out.trans (Below.mono (B := wc.heap.size) Bw HB.out.size))
  · have HR : Hid (R = false) := by (show _ = _; rw [hR]; rfl)
    clear hR
    go_wp2_with fail
    go_ret
    rw [HR.out]
    exact Ret.of (bool_eq (by first | rfl | (simp [*]; done))) (HB.out.trans (Below.mono (B := wc.heap.size) Bw HB.out.size))
  · have HR : Hid (R = false) := by (show _ = _; rw [hR]; rfl)
    clear hR
    go_wp2_with fail
    go_ret
    rw [HR.out]
    exact Ret.of (bool_eq (by first | rfl | (simp [*]; done))) (HB.out.trans (Below.mono (B := wc.heap.size) Bw HB.out.size))
  · have HR : Hid (R = false) := by (show _ = _; rw [hR]; rfl)
    clear hR
    go_wp2_with fail
    go_ret
    rw [HR.out]
    exact Ret.of (bool_eq (by first | rfl | (simp [*]; done))) (HB.out.trans (Below.mono (B := wc.heap.size) Bw HB.out.size))
  · have HR : Hid (R = false) := by (show _ = _; rw [hR]; rfl)
    clear hR
    go_wp2_with fail
    go_ret
    rw [HR.out]
    exact Ret.of (bool_eq (by first | rfl | (simp [*]; done))) (HB.out.trans (Below.mono (B := wc.heap.size) Bw HB.out.size))
  · have HR : Hid (R = false) := by (show _ = _; rw [hR]; rfl)
    clear hR
    go_wp2_with fail
    go_ret
    rw [HR.out]
    exact Ret.of (bool_eq (by first | rfl | (simp [*]; done))) (HB.out.trans (Below.mono (B := wc.heap.size) Bw HB.out.size))
  · have HR : Hid (R = false) := by (show _ = _; rw [hR]; rfl)
    clear hR
    go_wp2_with fail
    go_ret
    rw [HR.out]
    exact Ret.of (bool_eq (by first | rfl | (simp [*]; done))) (HB.out.trans (Below.mono (B := wc.heap.size) Bw HB.out.size))
  · have HR : Hid (R = false) := by (show _ = _; rw [hR]; rfl)
    clear hR
    go_wp2_with fail
    go_ret
    rw [HR.out]
    exact Ret.of (bool_eq (by first | rfl | (simp [*]; done))) (HB.out.trans (Below.mono (B := wc.heap.size) Bw HB.out.size))
  · cases hs : (ln.toList == hn.toList)
    · have HR : Hid (R = false) := by (show _ = _; rw [hR]; simp [sameB, *])
      clear hR
      go_wp2_with fail
      go_ret
      rw [HR.out]
      exact Ret.of (bool_eq (by first | rfl | (simp [*]; done))) (HB.out.trans (Below.mono (B := wc.heap.size) Bw HB.out.size))
    · cases hq : (lp.toList == hp.toList)
      · have HR : Hid (R = false) := by (show _ = _; rw [hR]; simp [sameB, *])
        clear hR
        go_wp2_with fail
        go_ret
        rw [HR.out]
        exact Ret.of (bool_eq (by first | rfl | (simp [*]; done))) (HB.out.trans (Below.mono (B := wc.heap.size) Bw HB.out.size))
      · by_cases h : ld = hd
        · by_cases h2 : lu = hu
          · by_cases h3 : lv = hv
            · have HR : Hid (R = false) := by (show _ = _; rw [hR]; simp [sameB, *])
              clear hR
              go_wp2_with fail
              go_ret
              rw [HR.out]
              exact Ret.of (bool_eq (by first | rfl | (simp [*]; done))) (HB.out.trans (Below.mono (B := wc.heap.size) Bw HB.out.size))
            · have HR : Hid (R = true) := by (show _ = _; rw [hR]; simp [sameB, *])
              clear hR
              go_wp2_with fail
              go_ret
              rw [HR.out]
              exact Ret.of (bool_eq (by first | rfl | (simp [*]; done))) (HB.out.trans (Below.mono (B := wc.heap.size) Bw HB.out.size))
          · have HR : Hid (R = true) := by (show _ = _; rw [hR]; simp [sameB, *])
            clear hR
            go_wp2_with fail
            go_ret
            rw [HR.out]
            exact Ret.of (bool_eq (by first | rfl | (simp [*]; done))) (HB.out.trans (Below.mono (B := wc.heap.size) Bw HB.out.size))
        · have HR : Hid (R = false) := by (show _ = _; rw [hR]; simp [sameB, *])
          clear hR
          go_wp2_with fail
          go_ret
          rw [HR.out]
          exact Ret.of (bool_eq (by first | rfl | (simp [*]; done))) (HB.out.trans (Below.mono (B := wc.heap.size) Bw HB.out.size))
  · have HR : Hid (R = false) := by (show _ = _; rw [hR]; rfl)
    clear hR
    go_wp2_with fail
    go_ret
    rw [HR.out]
    exact Ret.of (bool_eq (by first | rfl | (simp [*]; done))) (HB.out.trans (Below.mono (B := wc.heap.size) Bw HB.out.size))
  · have HR : Hid (R = false) := by (show _ = _; rw [hR]; rfl)
    clear hR
    go_wp2_with fail
    go_ret
    rw [HR.out]
    exact Ret.of (bool_eq (by first | rfl | (simp [*]; done))) (HB.out.trans (Below.mono (B := wc.heap.size) Bw HB.out.size))
  · have HR : Hid (R = false) := by (show _ = _; rw [hR]; rfl)
    clear hR
    go_wp2_with fail
    go_ret
    rw [HR.out]
    exact Ret.of (bool_eq (by first | rfl | (simp [*]; done))) (HB.out.trans (Below.mono (B := wc.heap.size) Bw HB.out.size))
  · have HR : Hid (R = false) := by (show _ = _; rw [hR]; rfl)
    clear hR
    go_wp2_with fail
    go_ret
    rw [HR.out]
    exact Ret.of (bool_eq (by first | rfl | (simp [*]; done))) (HB.out.trans (Below.mono (B := wc.heap.size) Bw HB.out.size))
  · have HR : Hid (R = false) := by (show _ = _; rw [hR]; rfl)
    clear hR
    go_wp2_with fail
    go_ret
    rw [HR.out]
    exact Ret.of (bool_eq (by first | rfl | (simp [*]; done))) (HB.out.trans (Below.mono (B := wc.heap.size) Bw HB.out.size))
  · cases hs : (ln.toList == hn.toList)
    · cases hq : (lp.toList == hp.toList)
      · have HR : Hid (R = false) := by (show _ = _; rw [hR]; simp [sameB, *])
        clear hR
        go_wp2_with fail
        go_ret
        rw [HR.out]
        exact Ret.of (bool_eq (by first | rfl | (simp [*]; done))) (HB.out.trans (Below.mono (B := wc.heap.size) Bw HB.out.size))
      · by_cases h : max ld hd < min lt ht
        · have HR : Hid (R = true) := by (show _ = _; rw [hR]; simp [sameB, *])
          clear hR
          go_wp2_with fail
          go_ret
          rw [HR.out]
          exact Ret.of (bool_eq (by first | rfl | (simp [*]; done))) (HB.out.trans (Below.mono (B := wc.heap.size) Bw HB.out.size))
        · have HR : Hid (R = false) := by (show _ = _; rw [hR]; simp [sameB, *])
          clear hR
          go_wp2_with fail
          go_ret
          rw [HR.out]
          exact Ret.of (bool_eq (by first | rfl | (simp [*]; done))) (HB.out.trans (Below.mono (B := wc.heap.size) Bw HB.out.size))
    · have HR : Hid (R = false) := by (show _ = _; rw [hR]; simp [sameB, *])
      clear hR
      go_wp2_with fail
      go_ret
      rw [HR.out]
      exact Ret.of (bool_eq (by first | rfl | (simp [*]; done))) (HB.out.trans (Below.mono (B := wc.heap.size) Bw HB.out.size))
end Go.Proofs.YtkhkhnellekofaaGreatDoor
