/- Plain law of the texts of events: what is written is read back, by the program's road and by the reference's. -/
/- Plain law of the texts of events: the program's road and the reference's read the same events. -/
import Derived.Test.YtpohkolapgofdaaGreatDoorS0
import Derived.Lib.AtoiTie
import Derived.Lib.ItoaLen
import Derived.Lib.Join
import Derived.Lib.SplitLaws
namespace Go.Proofs.YtpohkolapgofdaaGreatDoor
open Go.RowKit

abbrev Bs := List UInt8
/-- A text cut at its blanks. -/
def cutB : Bs → List Bs
  | [] => [[]]
  | b :: l => if b == 32 then [] :: cutB l else match cutB l with
    | [] => [[b]]
    | x :: r => (b :: x) :: r
theorem cut_ne (s : Bs) : cutB s ≠ [] := by
  cases s with
  | nil => simp [cutB]
  | cons b l =>
    unfold cutB
    split
    · simp
    · split <;> simp
theorem cut_one : ∀ x : Bs, (∀ b ∈ x, b ≠ 32) → cutB x = [x]
  | [], _ => rfl
  | b :: x, h => by
    have ih := cut_one x fun c hc => h c (by simp [hc])
    unfold cutB
    rw [if_neg (by simpa using h b (by simp)), ih]
theorem cut_app (l : Bs) : ∀ x : Bs, (∀ b ∈ x, b ≠ 32) → cutB (x ++ 32 :: l) = x :: cutB l
  | [], _ => by
    rw [List.nil_append]
    conv => lhs; unfold cutB
    simp
  | b :: x, h => by
    have ih := cut_app l x fun c hc => h c (by simp [hc])
    rw [List.cons_append]
    conv => lhs; unfold cutB
    rw [if_neg (by simpa using h b (by simp)), ih]
theorem cut_tail : ∀ (r : List Bs) (x : Bs), (∀ y ∈ x :: r, ∀ b ∈ y, b ≠ 32) → cutB (x ++ Lib.joinTail [32] r) = x :: r
  | [], x, h => by
    have : Lib.joinTail [32] [] = [] := rfl
    rw [this, List.append_nil]
    exact cut_one x (h x (by simp))
  | y :: r, x, h => by
    have : Lib.joinTail [32] (y :: r) = 32 :: (y ++ Lib.joinTail [32] r) := rfl
    rw [this, cut_app _ x (h x (by simp)), cut_tail r y fun z hz => h z (by simp [List.mem_cons.1 hz])]
theorem cut_join {ws : List Bs} (hn : ws ≠ []) (h : ∀ y ∈ ws, ∀ b ∈ y, b ≠ 32) : cutB (Lib.join ws [32]) = ws := by
  cases ws with
  | nil => exact absurd rfl hn
  | cons x r => rw [Lib.join_cons]; exact cut_tail r x h

def buryB : Bs := [98, 117, 114, 121]
def exhumeB : Bs := [101, 120, 104, 117, 109, 101]
def reburyB : Bs := [114, 101, 98, 117, 114, 121]
def lowerB : Bs := [108, 111, 119, 101, 114]
def gatherB : Bs := [103, 97, 116, 104, 101, 114]
def orderB : Bs := [111, 114, 100, 101, 114]
def kindsB : List Bs := [buryB, exhumeB, reburyB, lowerB, gatherB]
def bs (s : ByteArray) : Bs := s.data.toList
/-- The words of an event. -/
def midW (e : Event) : List Bs :=
  if e.kind == 0 || e.kind == 2 then [bs e.site, Lib.itoa e.level, bs e.remain, Lib.itoa e.container] else if e.kind == 3 then [Lib.itoa e.level, bs e.remain] else [bs e.remain]
def lineW (e : Event) : List Bs := [kindsB.getD e.kind.toNat [], Lib.itoa e.day] ++ midW e ++ (if e.order then [orderB] else [])
def fmtB (e : Event) : Bs := Lib.join (lineW e) [32]

/-- The number that Atoi hands back, whatever the error. -/
def numP (s : Bs) : Int := match Lib.atoiAll s with | .ok v => v | .range => Lib.atoiSat s | _ => 0
def fieldsP (kd : Int) (w : List Bs) : Event :=
  if kd == 0 || kd == 2 then ⟨numP (w.getD 1 []), kd, ⟨(w.getD 2 []).toArray⟩, numP (w.getD 3 []), ⟨(w.getD 4 []).toArray⟩, numP (w.getD 5 []), false⟩ else
  if kd == 3 then ⟨numP (w.getD 1 []), kd, ⟨#[]⟩, numP (w.getD 2 []), ⟨(w.getD 3 []).toArray⟩, 0, w.getD 4 [] == orderB⟩ else
  ⟨numP (w.getD 1 []), kd, ⟨#[]⟩, 0, ⟨(w.getD 2 []).toArray⟩, 0, w.getD 3 [] == orderB⟩
def kindGo (x : Bs) : List Bs → Int → Int
  | [], _ => -1
  | y :: r, i => if y == x then i else kindGo x r (i + 1)
def kindOf (x : Bs) : Int := kindGo x kindsB 0
def goodB (s : Bs) (e : Event) : Bool := checkEventP e == 0 && fmtB e == s
def parseP (s : Bs) : Option Event :=
  if kindOf ((cutB s).getD 0 []) < 0 then none else if goodB s (fieldsP (kindOf ((cutB s).getD 0 [])) (cutB s)) then some (fieldsP (kindOf ((cutB s).getD 0 [])) (cutB s)) else none

/-- The number that the reference reads, whether it is written so or not. -/
def restB (s : Bs) : Bs := if s.head? == some 45 then s.drop 1 else s
def numR (s : Bs) : Int :=
  if (restB s).length < 1 || 7 < (restB s).length then 0 else match Lib.decFrom 0 (restB s) with
  | none => 0
  | some n => if s.head? == some 45 then -(n : Int) else (n : Int)
def lastW (w : List Bs) : Bs := w.getD (w.length - 1) []
def ordR (w : List Bs) : Bool := decide (2 < w.length) && lastW w == orderB && ((w.getD 0 [] == exhumeB && w.length == 4) || (w.getD 0 [] == lowerB && w.length == 5))
def eventR (w : List Bs) (o : Bool) : Option Event :=
  if (w.getD 0 [] == buryB || w.getD 0 [] == reburyB) && w.length == 6 then some ⟨numR (w.getD 1 []), if w.getD 0 [] == reburyB then 2 else 0, ⟨(w.getD 2 []).toArray⟩, numR (w.getD 3 []), ⟨(w.getD 4 []).toArray⟩, numR (w.getD 5 []), o⟩ else
  if w.getD 0 [] == exhumeB && w.length == 3 then some ⟨numR (w.getD 1 []), 1, ⟨#[]⟩, 0, ⟨(w.getD 2 []).toArray⟩, 0, o⟩ else
  if w.getD 0 [] == lowerB && w.length == 4 then some ⟨numR (w.getD 1 []), 3, ⟨#[]⟩, numR (w.getD 2 []), ⟨(w.getD 3 []).toArray⟩, 0, o⟩ else
  if w.getD 0 [] == gatherB && w.length == 3 then some ⟨numR (w.getD 1 []), 4, ⟨#[]⟩, 0, ⟨(w.getD 2 []).toArray⟩, 0, o⟩ else none
def readR (s : Bs) : Option Event := if ordR (cutB s) then eventR ((cutB s).take ((cutB s).length - 1)) true else eventR (cutB s) false
def parseR (s : Bs) : Option Event := match readR s with | none => none | some e => if goodB s e then some e else none

theorem digit_ne {i : Nat} (h : i < 10) : UInt8.ofNat (48 + i) ≠ 32 ∧ UInt8.ofNat (48 + i) ≠ 45 ∧ UInt8.ofNat (48 + i) ≠ 43 ∧ Lib.digitVal (UInt8.ofNat (48 + i)) = some i ∧ (UInt8.ofNat (48 + i)).toNat = 48 + i := by
  have key : ∀ j : Fin 10, UInt8.ofNat (48 + j.val) ≠ 32 ∧ UInt8.ofNat (48 + j.val) ≠ 45 ∧ UInt8.ofNat (48 + j.val) ≠ 43 ∧ Lib.digitVal (UInt8.ofNat (48 + j.val)) = some j.val ∧ (UInt8.ofNat (48 + j.val)).toNat = 48 + j.val := by decide +kernel
  exact key ⟨i, h⟩
theorem decFrom_snoc (b : UInt8) (d : Nat) (hd : Lib.digitVal b = some d) : ∀ (l : Bs) (acc n : Nat), Lib.decFrom acc l = some n → Lib.decFrom acc (l ++ [b]) = some (n * 10 + d)
  | [], acc, n, h => by
    simp only [Lib.decFrom, Option.some.injEq] at h
    subst h
    simp [Lib.decFrom, hd]
  | c :: l, acc, n, h => by
    rw [List.cons_append]
    unfold Lib.decFrom at h ⊢
    cases hc : Lib.digitVal c with
    | none => rw [hc] at h; cases h
    | some x =>
      rw [hc] at h
      exact decFrom_snoc b d hd l _ n h
theorem dec_digits (u : Nat) : Lib.decFrom 0 (Lib.decDigits u) = some u ∧ (∀ b ∈ Lib.decDigits u, b ≠ 32) ∧ (Lib.decDigits u).head? ≠ some 45 ∧ (Lib.decDigits u).head? ≠ some 43 ∧ Lib.decDigits u ≠ [] := by
  induction u using Nat.strongRecOn with
  | _ u ih =>
    rw [Lib.decDigits]
    by_cases h : u < 10
    · rw [dif_pos h]
      obtain ⟨h1, h2, h3, h4, _⟩ := digit_ne h
      refine ⟨by unfold Lib.decFrom; rw [h4]; simp [Lib.decFrom], ?_, by simpa using h2, by simpa using h3, by simp⟩
      intro b hb
      rw [List.mem_singleton.1 hb]
      exact h1
    · rw [dif_neg h]
      obtain ⟨g1, g2, g3, g4, g5⟩ := ih (u / 10) (by omega)
      obtain ⟨h1, _, _, h4, _⟩ := digit_ne (i := u % 10) (by omega)
      refine ⟨?_, ?_, ?_, ?_, by simp⟩
      · rw [decFrom_snoc _ _ h4 _ _ _ g1]
        congr 1
        omega
      · intro b hb
        rcases List.mem_append.1 hb with hb | hb
        · exact g2 b hb
        · rw [List.mem_singleton.1 hb]
          exact h1
      · rw [List.head?_append, Option.or_of_isSome (by simpa using g5)]; exact g3
      · rw [List.head?_append, Option.or_of_isSome (by simpa using g5)]; exact g4
theorem itoa_pos {n : Int} (h : 0 ≤ n) : Lib.itoa n = Lib.decDigits n.toNat := by
  unfold Lib.itoa
  rw [if_neg (by omega)]
theorem digits_len {u : Nat} (h : u < 10 ^ 7) : 1 ≤ (Lib.decDigits u).length ∧ (Lib.decDigits u).length ≤ 7 := by
  rw [Lib.decDigits_length]
  refine ⟨Lib.nDigits_pos u, ?_⟩
  rcases Nat.lt_or_ge 7 (Lib.nDigits u) with h1 | h1
  · exfalso
    obtain ⟨k, hk⟩ : ∃ k, Lib.nDigits u = k + 8 := ⟨Lib.nDigits u - 8, by omega⟩
    have key : ∀ v : Nat, v < 10 ^ 7 → Lib.nDigits v ≤ 7 := by
      intro v hv
      by_cases c1 : v < 10
      · rw [Lib.nDigits_small c1]; omega
      by_cases c2 : v / 10 < 10
      · rw [Lib.nDigits_big c1, Lib.nDigits_small c2]; omega
      by_cases c3 : v / 10 / 10 < 10
      · rw [Lib.nDigits_big c1, Lib.nDigits_big c2, Lib.nDigits_small c3]; omega
      by_cases c4 : v / 10 / 10 / 10 < 10
      · rw [Lib.nDigits_big c1, Lib.nDigits_big c2, Lib.nDigits_big c3, Lib.nDigits_small c4]; omega
      by_cases c5 : v / 10 / 10 / 10 / 10 < 10
      · rw [Lib.nDigits_big c1, Lib.nDigits_big c2, Lib.nDigits_big c3, Lib.nDigits_big c4, Lib.nDigits_small c5]; omega
      by_cases c6 : v / 10 / 10 / 10 / 10 / 10 < 10
      · rw [Lib.nDigits_big c1, Lib.nDigits_big c2, Lib.nDigits_big c3, Lib.nDigits_big c4, Lib.nDigits_big c5, Lib.nDigits_small c6]; omega
      have c7 : v / 10 / 10 / 10 / 10 / 10 / 10 < 10 := by omega
      rw [Lib.nDigits_big c1, Lib.nDigits_big c2, Lib.nDigits_big c3, Lib.nDigits_big c4, Lib.nDigits_big c5, Lib.nDigits_big c6, Lib.nDigits_small c7]
      omega
    have := key u h
    omega
  · exact h1
theorem numP_itoa {n : Int} (h0 : 0 ≤ n) (h : n < 10 ^ 7) : numP (Lib.itoa n) = n := by
  rw [itoa_pos h0]
  obtain ⟨g1, g2, g3, g4, g5⟩ := dec_digits n.toNat
  obtain ⟨_, l2⟩ := digits_len (u := n.toNat) (by omega)
  unfold numP
  rw [Lib.atoiAll_short _ (by omega)]
  have : Lib.atoi (Lib.decDigits n.toNat) = some n := by
    generalize hl : Lib.decDigits n.toNat = l at *
    cases l with
    | nil => exact absurd rfl g5
    | cons b r =>
      simp only [List.head?_cons, ne_eq, Option.some.injEq] at g3 g4
      show (if b == 45 then _ else if b == 43 then _ else _) = _
      rw [if_neg (by simpa using g3), if_neg (by simpa using g4)]
      unfold Lib.decNat
      rw [if_neg (by simp), g1]
      simp
      omega
  rw [this]
  rfl
theorem numR_itoa {n : Int} (h0 : 0 ≤ n) (h : n < 10 ^ 7) : numR (Lib.itoa n) = n := by
  rw [itoa_pos h0]
  obtain ⟨g1, g2, g3, g4, g5⟩ := dec_digits n.toNat
  obtain ⟨l1, l2⟩ := digits_len (u := n.toNat) (by omega)
  have hr : restB (Lib.decDigits n.toNat) = Lib.decDigits n.toNat := by
    unfold restB
    rw [if_neg (by simpa using g3)]
  unfold numR
  rw [hr, if_neg (by simp only [Bool.or_eq_true, decide_eq_true_eq]; omega), g1]
  dsimp only
  rw [if_neg (by simpa using g3)]
  omega
theorem itoa_blank {n : Int} (h0 : 0 ≤ n) : ∀ b ∈ Lib.itoa n, b ≠ 32 := by
  rw [itoa_pos h0]
  exact (dec_digits _).2.1
theorem nm_blank : ∀ (l : Bs) (i : Nat), nmGo (l.map fun b => (b.toNat : Int)) i = true → ∀ b ∈ l, b ≠ 32
  | [], _, _, _, h => by cases h
  | c :: l, i, h, b, hb => by
    rw [List.map_cons, nmGo] at h
    split at h
    · cases h
    · rename_i hc
      rcases List.mem_cons.1 hb with rfl | hb
      · rintro rfl
        apply hc
        have : letterI ((32 : UInt8).toNat : Int) = false := by decide
        rw [this]
        simp
      · exact nm_blank l _ h b hb
theorem name_blank {s : ByteArray} (h : isNameP s = true) : ∀ b ∈ bs s, b ≠ 32 := by
  unfold isNameP at h
  simp only [Bool.and_eq_true] at h
  exact nm_blank _ _ h.1
theorem name_some {s : ByteArray} (h : isNameP s = true) : bs s ≠ [] := by
  unfold isNameP at h
  simp only [Bool.and_eq_true] at h
  intro e
  have h1 := h.2.1
  rw [ByteArray.toList_eq, show s.data.toList = [] from e] at h1
  simp at h1
theorem bs_back (s : ByteArray) : (⟨(bs s).toArray⟩ : ByteArray) = s := by
  unfold bs
  simp
end Go.Proofs.YtpohkolapgofdaaGreatDoor
namespace Go.Proofs.YtpohkolapgofdaaGreatDoor
open Go.RowKit

theorem inR_iff {n lo hi : Int} : inR n lo hi = true ↔ lo ≤ n ∧ n ≤ hi := by unfold inR; simp
/-- What a right event has. -/
structure OkE (e : Event) : Prop where
  day : 0 ≤ e.day ∧ e.day ≤ 200000
  kind : 0 ≤ e.kind ∧ e.kind ≤ 4
  remain : isNameP e.remain = true
  site : e.kind = 0 ∨ e.kind = 2 → isNameP e.site = true
  level : e.kind = 0 ∨ e.kind = 2 ∨ e.kind = 3 → 0 ≤ e.level ∧ e.level ≤ 11
  container : e.kind = 0 ∨ e.kind = 2 → 0 ≤ e.container ∧ e.container ≤ 2
  none : ¬ (e.kind = 0 ∨ e.kind = 2) → e.site = ⟨#[]⟩ ∧ e.container = 0
  flat : ¬ (e.kind = 0 ∨ e.kind = 2 ∨ e.kind = 3) → e.level = 0
  order : e.order = true → e.kind = 1 ∨ e.kind = 3
theorem ok_of {e : Event} (h : checkEventP e = 0) : OkE e := by
  unfold checkEventP at h
  dsimp only at h
  split at h
  · simp at h
  rename_i h1
  split at h
  · simp at h
  rename_i h2
  split at h
  · simp at h
  rename_i h3
  split at h
  · simp at h
  rename_i h4
  split at h
  · simp at h
  rename_i h5
  simp only [Bool.not_eq_true', Bool.not_eq_false, inR_iff] at h1 h2
  simp only [Bool.or_eq_true, Bool.and_eq_true, Bool.not_eq_true', not_or, not_and, Bool.not_eq_false, beq_iff_eq, bne_iff_ne, ne_eq, Decidable.not_not, Bool.or_eq_false_iff, beq_eq_false_iff_ne, inR_iff] at h3 h4 h5
  refine ⟨h1, h2, h3.1, h3.2, fun hk => h4.1 ?_, h4.2, fun hk => ?_, fun hk => ?_, fun ho => ?_⟩
  · rcases hk with hk | hk | hk
    · exact .inl (.inl hk)
    · exact .inl (.inr hk)
    · exact .inr hk
  · have h6 := h5.1.1 ⟨fun e => hk (.inl e), fun e => hk (.inr e)⟩
    refine ⟨?_, h6.2⟩
    have h7 := h6.1
    rw [ByteArray.toList_eq, List.isEmpty_iff] at h7
    exact ByteArray.ext (Array.ext' (by simpa using h7))
  · exact h5.1.2 ⟨⟨fun e => hk (.inl e), fun e => hk (.inr (.inl e))⟩, fun e => hk (.inr (.inr e))⟩
  · by_cases k1 : e.kind = 1
    · exact .inl k1
    · exact .inr (h5.2 ⟨ho, k1⟩)
theorem kinds_blank : ∀ y ∈ kindsB, ∀ b ∈ y, b ≠ 32 := by decide +kernel
theorem order_blank : ∀ b ∈ orderB, b ≠ 32 := by decide +kernel
theorem line_blank {e : Event} (h : OkE e) : ∀ y ∈ lineW e, ∀ b ∈ y, b ≠ 32 := by
  intro y hy
  unfold lineW at hy
  rcases List.mem_append.1 hy with hy | hy
  · rcases List.mem_append.1 hy with hy | hy
    · rcases List.mem_cons.1 hy with rfl | hy
      · have hk := h.kind
        refine kinds_blank _ ?_
        rw [List.getD_eq_getElem?_getD, List.getElem?_eq_getElem (show e.kind.toNat < kindsB.length by show _ < 5; omega)]
        exact List.getElem_mem _
      · rw [List.mem_singleton.1 hy]
        exact itoa_blank h.day.1
    · unfold midW at hy
      split at hy
      · rename_i hk
        simp only [Bool.or_eq_true, beq_iff_eq] at hk
        simp only [List.mem_cons, List.not_mem_nil, or_false] at hy
        rcases hy with rfl | rfl | rfl | rfl
        · exact name_blank (h.site hk)
        · exact itoa_blank (h.level (hk.elim .inl fun k => .inr (.inl k))).1
        · exact name_blank h.remain
        · exact itoa_blank (h.container hk).1
      · split at hy
        · rename_i hk
          simp only [beq_iff_eq] at hk
          simp only [List.mem_cons, List.not_mem_nil, or_false] at hy
          rcases hy with rfl | rfl
          · exact itoa_blank (h.level (.inr (.inr hk))).1
          · exact name_blank h.remain
        · rw [List.mem_singleton.1 hy]
          exact name_blank h.remain
  · split at hy
    · rw [List.mem_singleton.1 hy]
      exact order_blank
    · cases hy
theorem cut_fmt {e : Event} (h : OkE e) : cutB (fmtB e) = lineW e := by
  unfold fmtB
  exact cut_join (by unfold lineW; simp) (line_blank h)
theorem toB_nil : (⟨([] : Bs).toArray⟩ : ByteArray) = ⟨#[]⟩ := rfl
theorem parseP_fmt {e : Event} (h0 : checkEventP e = 0) : parseP (fmtB e) = some e := by
  have h := ok_of h0
  have hc := cut_fmt h
  have hg : goodB (fmtB e) e = true := by unfold goodB; rw [h0]; simp
  have hlast : kindOf ((lineW e).getD 0 []) = e.kind ∧ fieldsP e.kind (lineW e) = e := by
    obtain ⟨dy, kd, si, lv, rm, co, od⟩ := e
    obtain ⟨hd, hk, hr, hs, hlv, hco, hn, hf, ho⟩ := h
    dsimp only at hd hk hr hs hlv hco hn hf ho
    have n1 := numP_itoa hd.1 (by omega)
    have hkk : kd = 0 ∨ kd = 1 ∨ kd = 2 ∨ kd = 3 ∨ kd = 4 := by omega
    rcases hkk with rfl | rfl | rfl | rfl | rfl
    · have n2 := numP_itoa (hlv (by simp)).1 (by have := hlv (by simp); omega)
      have n3 := numP_itoa (hco (by simp)).1 (by have := hco (by simp); omega)
      cases od
      · exact ⟨rfl, by simp [fieldsP, lineW, midW, n1, n2, n3, bs_back]⟩
      · exact absurd (ho rfl) (by simp)
    · obtain ⟨rfl, rfl⟩ := hn (by simp)
      obtain rfl := hf (by simp)
      cases od
      · exact ⟨rfl, by simp [fieldsP, lineW, midW, n1, bs_back, orderB]⟩
      · exact ⟨rfl, by simp [fieldsP, lineW, midW, n1, bs_back]⟩
    · have n2 := numP_itoa (hlv (by simp)).1 (by have := hlv (by simp); omega)
      have n3 := numP_itoa (hco (by simp)).1 (by have := hco (by simp); omega)
      cases od
      · exact ⟨rfl, by simp [fieldsP, lineW, midW, n1, n2, n3, bs_back]⟩
      · exact absurd (ho rfl) (by simp)
    · obtain ⟨rfl, rfl⟩ := hn (by simp)
      have n2 := numP_itoa (hlv (by simp)).1 (by have := hlv (by simp); omega)
      cases od
      · exact ⟨rfl, by simp [fieldsP, lineW, midW, n1, n2, bs_back, orderB]⟩
      · exact ⟨rfl, by simp [fieldsP, lineW, midW, n1, n2, bs_back]⟩
    · obtain ⟨rfl, rfl⟩ := hn (by simp)
      obtain rfl := hf (by simp)
      cases od
      · exact ⟨rfl, by simp [fieldsP, lineW, midW, n1, bs_back, orderB]⟩
      · exact absurd (ho rfl) (by simp)
  unfold parseP
  rw [hc, hlast.1, hlast.2, if_neg (by have := h.kind; omega), hg]
  rfl
theorem parseR_fmt {e : Event} (h0 : checkEventP e = 0) : parseR (fmtB e) = some e := by
  have h := ok_of h0
  have hc := cut_fmt h
  have hg : goodB (fmtB e) e = true := by unfold goodB; rw [h0]; simp
  have hread : readR (fmtB e) = some e := by
    unfold readR
    rw [hc]
    clear hg hc h0
    obtain ⟨dy, kd, si, lv, rm, co, od⟩ := e
    obtain ⟨hd, hk, hr, hs, hlv, hco, hn, hf, ho⟩ := h
    dsimp only at hd hk hr hs hlv hco hn hf ho
    have n1 := numR_itoa hd.1 (by omega)
    have hkk : kd = 0 ∨ kd = 1 ∨ kd = 2 ∨ kd = 3 ∨ kd = 4 := by omega
    rcases hkk with rfl | rfl | rfl | rfl | rfl
    · have n2 := numR_itoa (hlv (by simp)).1 (by have := hlv (by simp); omega)
      have n3 := numR_itoa (hco (by simp)).1 (by have := hco (by simp); omega)
      cases od
      · simp [ordR, eventR, lineW, midW, n1, n2, n3, bs_back, kindsB, buryB, reburyB, exhumeB, lowerB]
      · exact absurd (ho rfl) (by simp)
    · obtain ⟨rfl, rfl⟩ := hn (by simp)
      obtain rfl := hf (by simp)
      cases od
      · simp [ordR, eventR, lineW, midW, n1, bs_back, kindsB, buryB, reburyB, exhumeB, lowerB]
      · simp [ordR, eventR, lineW, midW, n1, bs_back, kindsB, buryB, reburyB, exhumeB, lowerB, lastW]
    · have n2 := numR_itoa (hlv (by simp)).1 (by have := hlv (by simp); omega)
      have n3 := numR_itoa (hco (by simp)).1 (by have := hco (by simp); omega)
      cases od
      · simp [ordR, eventR, lineW, midW, n1, n2, n3, bs_back, kindsB, buryB, reburyB, exhumeB, lowerB]
      · exact absurd (ho rfl) (by simp)
    · obtain ⟨rfl, rfl⟩ := hn (by simp)
      have n2 := numR_itoa (hlv (by simp)).1 (by have := hlv (by simp); omega)
      cases od
      · simp [ordR, eventR, lineW, midW, n1, n2, bs_back, kindsB, buryB, reburyB, exhumeB, lowerB]
      · simp [ordR, eventR, lineW, midW, n1, n2, bs_back, kindsB, buryB, reburyB, exhumeB, lowerB, lastW]
    · obtain ⟨rfl, rfl⟩ := hn (by simp)
      obtain rfl := hf (by simp)
      cases od
      · simp [ordR, eventR, lineW, midW, n1, bs_back, kindsB, buryB, reburyB, exhumeB, lowerB, gatherB]
      · exact absurd (ho rfl) (by simp)
  unfold parseR
  rw [hread]
  dsimp only
  rw [hg]
  rfl
theorem parseP_good {s : Bs} {e : Event} (h : parseP s = some e) : checkEventP e = 0 ∧ fmtB e = s := by
  unfold parseP at h
  split at h
  · cases h
  split at h
  · rename_i hg
    simp only [Option.some.injEq] at h
    rw [h] at hg
    unfold goodB at hg
    simpa using hg
  · cases h
theorem parseR_good {s : Bs} {e : Event} (h : parseR s = some e) : checkEventP e = 0 ∧ fmtB e = s := by
  unfold parseR at h
  split at h
  · cases h
  split at h
  · rename_i hg
    simp only [Option.some.injEq] at h
    rw [h] at hg
    unfold goodB at hg
    simpa using hg
  · cases h
/-- The program and the reference read the same event, or none. -/
theorem parse_same (s : Bs) : parseP s = parseR s := by
  cases hp : parseP s with
  | some e =>
    obtain ⟨h1, h2⟩ := parseP_good hp
    rw [← h2, parseR_fmt h1]
  | none =>
    cases hr : parseR s with
    | none => rfl
    | some e =>
      obtain ⟨h1, h2⟩ := parseR_good hr
      rw [← h2, parseP_fmt h1] at hp
      cases hp
end Go.Proofs.YtpohkolapgofdaaGreatDoor
