/- Arguments that come in as data: yards, events, their slices: what the walk is told of them. -/
/- Arguments that come in as data: events, moments, questions. -/
import Derived.Test.YtpohkolapgofdaaGreatDoorW2
import Derived.ProofKit
import Derived.OpenShut
import Derived.ShutString
import Derived.ChangeOld
import Derived.Deep.Slices
import Derived.Deep.Fields
import Derived.Test.YtpohkolapgofdaaGreatDoorLD
namespace Go.Proofs.YtpohkolapgofdaaGreatDoor
open Go.ChangeShapes Go.WideShapes Go.ChangeAt Go.RowKit Go.Deep

theorem list_of {α : Type} {Q : Nat → α → Prop} : ∀ n : Nat, (∀ i, i < n → ∃ x, Q i x) → ∃ l : List α, l.length = n ∧ ∀ (i : Nat) (x : α), l[i]? = some x → Q i x
  | 0, _ => ⟨[], rfl, fun i x h => by simp at h⟩
  | n + 1, h => by
    obtain ⟨l, hl, hq⟩ := list_of n (fun i hi => h i (by omega))
    obtain ⟨x, hx⟩ := h n (by omega)
    refine ⟨l ++ [x], by simp [hl], fun i y hy => ?_⟩
    by_cases hi : i < n
    · rw [List.getElem?_append_left (by omega)] at hy
      exact hq i y hy
    · by_cases he : i = n
      · subst he
        rw [List.getElem?_append_right (by omega), hl] at hy
        simp at hy
        subst hy
        exact hx
      · rw [List.getElem?_append_right (by omega)] at hy
        have : i - l.length ≠ 0 := by omega
        obtain ⟨m, hm⟩ := Nat.exists_eq_succ_of_ne_zero this
        rw [hm] at hy
        simp at hy
section
variable {H : Type} {enc : TypeId × Value → H} {P : Program} {w : World} {base : Nat} {spare : Nat → Bool} {held : Bool}
/-- A slice of records, read as data, is a list of records. -/
theorem sl_of_trod {α : Type} {f : α → List Value} {size : Nat} (hsz : 0 < size) (hlen : ∀ x, (f x).length = size) {t e : TypeId} {fuel : Nat} {cs : List Value} {x : DataW H × List MemPlace} (ht : P.underlying t = some (.slice e)) (hC : P.cellsOf e = size)
    (helem : ∀ (n : Nat) (cs : List Value) (y : DataW H × List MemPlace), DataW.trod enc P w base spare held n e cs = some y → ∃ s : α, cs = f s) (h : DataW.trod enc P w base spare held fuel t cs = some x) :
    ∃ (A : Option Addr) (n c : Nat) (xs : List α), cs = [.slice A n c] ∧ n = xs.length ∧ Sl w size f A xs ∧ xs.length ≤ c ∧ c ≤ maxLen := by
  rcases open_slice ht h with ⟨rfl, _⟩ | ⟨a, len, cap, m, n, D, Pl, rfl, _, hl, hm, hmm, _, hi⟩
  · exact ⟨none, 0, 0, [], rfl, rfl, Sl.nil, Nat.le_refl _, Nat.zero_le _⟩
  · have hle : len ≤ m := by rw [hmm]; split <;> omega
    obtain ⟨l, hll, hq⟩ := list_of (Q := fun i (s : α) => ∀ j, j < size → w.cell? ((a.add (i * size)).add j) = (f s)[j]?) len (fun i hil => by
      obtain ⟨cs', hc, hr⟩ := hi i (by omega)
      obtain ⟨s, rfl⟩ := helem _ _ _ hr
      rw [hC] at hc
      exact ⟨s, (World.cells?_some hc).2.2⟩)
    refine ⟨some a, len, cap, l, rfl, hll.symm, fun hp => ?_, by omega, hm⟩
    have h0 : 0 < l.length := hp
    have hx := hq 0 l[0] (List.getElem?_eq_getElem h0) 0 hsz
    have hv : ∃ v, (f l[0])[0]? = some v := ⟨_, List.getElem?_eq_getElem (by rw [hlen]; exact hsz)⟩
    obtain ⟨v, hv⟩ := hv
    rw [hv] at hx
    have hsp := World.cell?_spot hx
    have hbl := World.block_lt_of_cell? _ _ hx
    obtain ⟨b, off, spot⟩ := a
    have hsp' : spot = none := by simpa [Addr.add] using hsp
    subst hsp'
    refine ⟨b, off, rfl, by simpa [Addr.add] using hbl, fun k y hy j u hu => ?_⟩
    have hj : j < size := by have := (List.getElem?_eq_some_iff.1 hu).1; rw [hlen] at this; exact this
    have := hq k y hy j hj
    rw [hu] at this
    rw [← this]
    congr 1
    unfold Addr.add
    split <;> split <;> simp_all <;> omega
end

section
variable {H : Type} {enc : TypeId × Value → H} {w : World} {base : Nat} {spare : Nat → Bool} {held : Bool}
theorem k_str : Tryz.prog.cellsOf 9 = 1 := by kernel_rfl
theorem k_int : Tryz.prog.cellsOf 3 = 1 := by kernel_rfl
theorem k_site : Tryz.prog.cellsOf 81 = 6 := by kernel_rfl
theorem k_rest : Tryz.prog.cellsOf 94 = 3 := by kernel_rfl
theorem k_yard : Tryz.prog.cellsOf 40 = 5 := by kernel_rfl
theorem k_sites : Tryz.prog.cellsOf 36 = 1 := by kernel_rfl
theorem k_rests : Tryz.prog.cellsOf 37 = 1 := by kernel_rfl
theorem k_covers : Tryz.prog.cellsOf 38 = 3 := by kernel_rfl
set_option maxRecDepth 100000 in
theorem open_site (n : Nat) (cs : List Value) (x : DataW H × List MemPlace) (h : DataW.trod enc Tryz.prog w base spare held n 81 cs = some x) : ∃ s : Site, cs = s.cells := by
  obtain ⟨xs, m, _, _, hlen, hxl, hf⟩ := DataW.trod_struct Tryz.underlying81 h
  rw [k_site] at hlen
  match cs, hlen with
  | [v0, v1, v2, v3, v4, v5], _ =>
    have g : ∀ i, i < 6 → ∃ y, xs[i]? = some y := fun i hi => ⟨_, List.getElem?_eq_getElem (by rw [hxl]; exact hi)⟩
    obtain ⟨y0, e0⟩ := g 0 (by decide)
    have h0 : DataW.trod enc Tryz.prog w base spare held m 9 (List.take (Tryz.prog.cellsOf 9) (List.drop 0 [v0, v1, v2, v3, v4, v5])) = some y0 := (hf 0 _ rfl).trans e0
    rw [k_str] at h0
    obtain ⟨q0, c0, _, _⟩ := DataW.trod_string Tryz.underlying9 h0
    simp only [List.drop_succ_cons, List.drop_zero, List.take_succ_cons, List.take_zero, List.cons.injEq, and_true] at c0
    obtain ⟨y1, e1⟩ := g 1 (by decide)
    have h1 : DataW.trod enc Tryz.prog w base spare held m 3 (List.take (Tryz.prog.cellsOf 3) (List.drop 1 [v0, v1, v2, v3, v4, v5])) = some y1 := (hf 1 _ rfl).trans e1
    rw [k_int] at h1
    obtain ⟨q1, c1, _, _⟩ := DataW.trod_int Tryz.underlying3 h1
    simp only [List.drop_succ_cons, List.drop_zero, List.take_succ_cons, List.take_zero, List.cons.injEq, and_true] at c1
    obtain ⟨y2, e2⟩ := g 2 (by decide)
    have h2 : DataW.trod enc Tryz.prog w base spare held m 3 (List.take (Tryz.prog.cellsOf 3) (List.drop 2 [v0, v1, v2, v3, v4, v5])) = some y2 := (hf 2 _ rfl).trans e2
    rw [k_int] at h2
    obtain ⟨q2, c2, _, _⟩ := DataW.trod_int Tryz.underlying3 h2
    simp only [List.drop_succ_cons, List.drop_zero, List.take_succ_cons, List.take_zero, List.cons.injEq, and_true] at c2
    obtain ⟨y3, e3⟩ := g 3 (by decide)
    have h3 : DataW.trod enc Tryz.prog w base spare held m 3 (List.take (Tryz.prog.cellsOf 3) (List.drop 3 [v0, v1, v2, v3, v4, v5])) = some y3 := (hf 3 _ rfl).trans e3
    rw [k_int] at h3
    obtain ⟨q3, c3, _, _⟩ := DataW.trod_int Tryz.underlying3 h3
    simp only [List.drop_succ_cons, List.drop_zero, List.take_succ_cons, List.take_zero, List.cons.injEq, and_true] at c3
    obtain ⟨y4, e4⟩ := g 4 (by decide)
    have h4 : DataW.trod enc Tryz.prog w base spare held m 3 (List.take (Tryz.prog.cellsOf 3) (List.drop 4 [v0, v1, v2, v3, v4, v5])) = some y4 := (hf 4 _ rfl).trans e4
    rw [k_int] at h4
    obtain ⟨q4, c4, _, _⟩ := DataW.trod_int Tryz.underlying3 h4
    simp only [List.drop_succ_cons, List.drop_zero, List.take_succ_cons, List.take_zero, List.cons.injEq, and_true] at c4
    obtain ⟨y5, e5⟩ := g 5 (by decide)
    have h5 : DataW.trod enc Tryz.prog w base spare held m 3 (List.take (Tryz.prog.cellsOf 3) (List.drop 5 [v0, v1, v2, v3, v4, v5])) = some y5 := (hf 5 _ rfl).trans e5
    rw [k_int] at h5
    obtain ⟨q5, c5, _, _⟩ := DataW.trod_int Tryz.underlying3 h5
    simp only [List.drop_succ_cons, List.drop_zero, List.take_succ_cons, List.take_zero, List.cons.injEq, and_true] at c5
    subst c0 c1 c2 c3 c4 c5
    exact ⟨⟨q0, q1, q2, q3, q4, q5⟩, rfl⟩
set_option maxRecDepth 100000 in
theorem open_rest (n : Nat) (cs : List Value) (x : DataW H × List MemPlace) (h : DataW.trod enc Tryz.prog w base spare held n 94 cs = some x) : ∃ s : Rest, cs = s.cells := by
  obtain ⟨xs, m, _, _, hlen, hxl, hf⟩ := DataW.trod_struct Tryz.underlying94 h
  rw [k_rest] at hlen
  match cs, hlen with
  | [v0, v1, v2], _ =>
    have g : ∀ i, i < 3 → ∃ y, xs[i]? = some y := fun i hi => ⟨_, List.getElem?_eq_getElem (by rw [hxl]; exact hi)⟩
    obtain ⟨y0, e0⟩ := g 0 (by decide)
    have h0 : DataW.trod enc Tryz.prog w base spare held m 3 (List.take (Tryz.prog.cellsOf 3) (List.drop 0 [v0, v1, v2])) = some y0 := (hf 0 _ rfl).trans e0
    rw [k_int] at h0
    obtain ⟨q0, c0, _, _⟩ := DataW.trod_int Tryz.underlying3 h0
    simp only [List.drop_succ_cons, List.drop_zero, List.take_succ_cons, List.take_zero, List.cons.injEq, and_true] at c0
    obtain ⟨y1, e1⟩ := g 1 (by decide)
    have h1 : DataW.trod enc Tryz.prog w base spare held m 3 (List.take (Tryz.prog.cellsOf 3) (List.drop 1 [v0, v1, v2])) = some y1 := (hf 1 _ rfl).trans e1
    rw [k_int] at h1
    obtain ⟨q1, c1, _, _⟩ := DataW.trod_int Tryz.underlying3 h1
    simp only [List.drop_succ_cons, List.drop_zero, List.take_succ_cons, List.take_zero, List.cons.injEq, and_true] at c1
    obtain ⟨y2, e2⟩ := g 2 (by decide)
    have h2 : DataW.trod enc Tryz.prog w base spare held m 3 (List.take (Tryz.prog.cellsOf 3) (List.drop 2 [v0, v1, v2])) = some y2 := (hf 2 _ rfl).trans e2
    rw [k_int] at h2
    obtain ⟨q2, c2, _, _⟩ := DataW.trod_int Tryz.underlying3 h2
    simp only [List.drop_succ_cons, List.drop_zero, List.take_succ_cons, List.take_zero, List.cons.injEq, and_true] at c2
    subst c0 c1 c2
    exact ⟨⟨q0, q1, q2⟩, rfl⟩
set_option maxRecDepth 100000 in
theorem open_yard {v : Value} {d : DataW H} {p : List MemPlace} {r : Reach} {b0 : Nat} (hv : Value.okWide Tryz.prog w r b0 40 v) (h : DataW.Trod enc Tryz.prog w base spare held 40 v d p) :
    ∃ (ss : List Site) (rs : List Rest) (A : Option Addr) (n c : Nat) (R : Option Addr) (rn rc : Nat) (c0 c1 c2 : Int), v = .agg #[.slice A n c, .slice R rn rc, .int .i64 c0, .int .i64 c1, .int .i64 c2] ∧ YardRaw w ss rs A n c R rn rc := by
  obtain ⟨cs, rfl, hsz⟩ := okWide_struct Tryz.underlying40 hv
  obtain ⟨l⟩ := cs
  rw [k_yard] at hsz
  match l, hsz with
  | [v0, v1, v2, v3, v4], _ =>
    obtain ⟨fuel, hf0⟩ := h
    obtain ⟨xs, m, _, _, _, hxl, hf⟩ := DataW.trod_struct Tryz.underlying40 hf0
    have g : ∀ i, i < 3 → ∃ y, xs[i]? = some y := fun i hi => ⟨_, List.getElem?_eq_getElem (by rw [hxl]; exact hi)⟩
    obtain ⟨y0, e0⟩ := g 0 (by decide)
    obtain ⟨y1, e1⟩ := g 1 (by decide)
    obtain ⟨y2, e2⟩ := g 2 (by decide)
    have h0 : DataW.trod enc Tryz.prog w base spare held m 36 (List.take (Tryz.prog.cellsOf 36) (List.drop 0 [v0, v1, v2, v3, v4])) = some y0 := (hf 0 _ rfl).trans e0
    have h1 : DataW.trod enc Tryz.prog w base spare held m 37 (List.take (Tryz.prog.cellsOf 37) (List.drop 1 [v0, v1, v2, v3, v4])) = some y1 := (hf 1 _ rfl).trans e1
    have h2 : DataW.trod enc Tryz.prog w base spare held m 38 (List.take (Tryz.prog.cellsOf 38) (List.drop 2 [v0, v1, v2, v3, v4])) = some y2 := (hf 2 _ rfl).trans e2
    rw [k_sites] at h0
    rw [k_rests] at h1
    rw [k_covers] at h2
    obtain ⟨A, n, c, ss, ea, hn, hS, hc, _⟩ := sl_of_trod (by decide) site_len Tryz.underlying36 k_site open_site h0
    obtain ⟨R, rn, rc, rs, er, hrn, hR, _, _⟩ := sl_of_trod (by decide) rest_len Tryz.underlying37 k_rest open_rest h1
    obtain ⟨zs, q, _, _, _, hzl, hz⟩ := DataW.trod_array Tryz.underlying38 h2
    rw [k_int] at hz
    have gz : ∀ i, i < 3 → ∃ y, zs[i]? = some y := fun i hi => ⟨_, List.getElem?_eq_getElem (by rw [hzl]; exact hi)⟩
    obtain ⟨u0, f0⟩ := gz 0 (by decide)
    obtain ⟨u1, f1⟩ := gz 1 (by decide)
    obtain ⟨u2, f2⟩ := gz 2 (by decide)
    obtain ⟨c0, g0, _, _⟩ := DataW.trod_int Tryz.underlying3 ((hz 0 (by decide)).trans f0)
    obtain ⟨c1, g1, _, _⟩ := DataW.trod_int Tryz.underlying3 ((hz 1 (by decide)).trans f1)
    obtain ⟨c2, g2, _, _⟩ := DataW.trod_int Tryz.underlying3 ((hz 2 (by decide)).trans f2)
    simp at ea er g0 g1 g2
    subst ea er g0 g1 g2
    exact ⟨ss, rs, A, n, c, R, rn, rc, c0, c1, c2, rfl, hn, hrn, hS, hR, hc⟩
end
end Go.Proofs.YtpohkolapgofdaaGreatDoor
namespace Go.Proofs.YtpohkolapgofdaaGreatDoor
open Go.ChangeShapes Go.WideShapes Go.ChangeAt Go.RowKit Go.Deep

theorem own_knob : ownKnob Tryz.prog.godebug = none := by kernel_rfl
theorem laid_out : laidOutB Tryz.prog = true := by kernel_rfl
section
variable {H : Type} {enc : TypeId × Value → H} {w : World} {base : Nat} {spare : Nat → Bool} {held : Bool}
theorem k_bool : Tryz.prog.cellsOf 4 = 1 := by kernel_rfl
theorem k_events : Tryz.prog.cellsOf 41 = 1 := by kernel_rfl
theorem k_event : Tryz.prog.cellsOf 23 = 7 := by kernel_rfl
theorem k_berth : Tryz.prog.cellsOf 115 = 2 := by kernel_rfl
set_option maxRecDepth 100000 in
theorem open_event (n : Nat) (cs : List Value) (x : DataW H × List MemPlace) (h : DataW.trod enc Tryz.prog w base spare held n 23 cs = some x) : ∃ s : Event, cs = s.cells := by
  obtain ⟨xs, m, _, _, hlen, hxl, hf⟩ := DataW.trod_struct Tryz.underlying23 h
  rw [show Tryz.prog.cellsOf 23 = 7 by kernel_rfl] at hlen
  match cs, hlen with
  | [v0, v1, v2, v3, v4, v5, v6], _ =>
    have g : ∀ i, i < 7 → ∃ y, xs[i]? = some y := fun i hi => ⟨_, List.getElem?_eq_getElem (by rw [hxl]; exact hi)⟩
    obtain ⟨y0, e0⟩ := g 0 (by decide)
    have h0 : DataW.trod enc Tryz.prog w base spare held m 3 (List.take (Tryz.prog.cellsOf 3) (List.drop 0 [v0, v1, v2, v3, v4, v5, v6])) = some y0 := (hf 0 _ rfl).trans e0
    rw [k_int] at h0
    obtain ⟨q0, c0, _, _⟩ := DataW.trod_int Tryz.underlying3 h0
    simp only [List.drop_succ_cons, List.drop_zero, List.take_succ_cons, List.take_zero, List.cons.injEq, and_true] at c0
    obtain ⟨y1, e1⟩ := g 1 (by decide)
    have h1 : DataW.trod enc Tryz.prog w base spare held m 3 (List.take (Tryz.prog.cellsOf 3) (List.drop 1 [v0, v1, v2, v3, v4, v5, v6])) = some y1 := (hf 1 _ rfl).trans e1
    rw [k_int] at h1
    obtain ⟨q1, c1, _, _⟩ := DataW.trod_int Tryz.underlying3 h1
    simp only [List.drop_succ_cons, List.drop_zero, List.take_succ_cons, List.take_zero, List.cons.injEq, and_true] at c1
    obtain ⟨y2, e2⟩ := g 2 (by decide)
    have h2 : DataW.trod enc Tryz.prog w base spare held m 9 (List.take (Tryz.prog.cellsOf 9) (List.drop 2 [v0, v1, v2, v3, v4, v5, v6])) = some y2 := (hf 2 _ rfl).trans e2
    rw [k_str] at h2
    obtain ⟨q2, c2, _, _⟩ := DataW.trod_string Tryz.underlying9 h2
    simp only [List.drop_succ_cons, List.drop_zero, List.take_succ_cons, List.take_zero, List.cons.injEq, and_true] at c2
    obtain ⟨y3, e3⟩ := g 3 (by decide)
    have h3 : DataW.trod enc Tryz.prog w base spare held m 3 (List.take (Tryz.prog.cellsOf 3) (List.drop 3 [v0, v1, v2, v3, v4, v5, v6])) = some y3 := (hf 3 _ rfl).trans e3
    rw [k_int] at h3
    obtain ⟨q3, c3, _, _⟩ := DataW.trod_int Tryz.underlying3 h3
    simp only [List.drop_succ_cons, List.drop_zero, List.take_succ_cons, List.take_zero, List.cons.injEq, and_true] at c3
    obtain ⟨y4, e4⟩ := g 4 (by decide)
    have h4 : DataW.trod enc Tryz.prog w base spare held m 9 (List.take (Tryz.prog.cellsOf 9) (List.drop 4 [v0, v1, v2, v3, v4, v5, v6])) = some y4 := (hf 4 _ rfl).trans e4
    rw [k_str] at h4
    obtain ⟨q4, c4, _, _⟩ := DataW.trod_string Tryz.underlying9 h4
    simp only [List.drop_succ_cons, List.drop_zero, List.take_succ_cons, List.take_zero, List.cons.injEq, and_true] at c4
    obtain ⟨y5, e5⟩ := g 5 (by decide)
    have h5 : DataW.trod enc Tryz.prog w base spare held m 3 (List.take (Tryz.prog.cellsOf 3) (List.drop 5 [v0, v1, v2, v3, v4, v5, v6])) = some y5 := (hf 5 _ rfl).trans e5
    rw [k_int] at h5
    obtain ⟨q5, c5, _, _⟩ := DataW.trod_int Tryz.underlying3 h5
    simp only [List.drop_succ_cons, List.drop_zero, List.take_succ_cons, List.take_zero, List.cons.injEq, and_true] at c5
    obtain ⟨y6, e6⟩ := g 6 (by decide)
    have h6 : DataW.trod enc Tryz.prog w base spare held m 4 (List.take (Tryz.prog.cellsOf 4) (List.drop 6 [v0, v1, v2, v3, v4, v5, v6])) = some y6 := (hf 6 _ rfl).trans e6
    rw [k_bool] at h6
    obtain ⟨q6, c6, _⟩ := DataW.trod_bool Tryz.underlying4 h6
    simp only [List.drop_succ_cons, List.drop_zero, List.take_succ_cons, List.take_zero, List.cons.injEq, and_true] at c6
    subst c0 c1 c2 c3 c4 c5 c6
    exact ⟨⟨q0, q1, q2, q3, q4, q5, q6⟩, rfl⟩
set_option maxRecDepth 100000 in
theorem open_berth (n : Nat) (cs : List Value) (x : DataW H × List MemPlace) (h : DataW.trod enc Tryz.prog w base spare held n 115 cs = some x) : ∃ s : Berth, cs = s.cells := by
  obtain ⟨xs, m, _, _, hlen, hxl, hf⟩ := DataW.trod_struct Tryz.underlying115 h
  rw [show Tryz.prog.cellsOf 115 = 2 by kernel_rfl] at hlen
  match cs, hlen with
  | [v0, v1], _ =>
    have g : ∀ i, i < 2 → ∃ y, xs[i]? = some y := fun i hi => ⟨_, List.getElem?_eq_getElem (by rw [hxl]; exact hi)⟩
    obtain ⟨y0, e0⟩ := g 0 (by decide)
    have h0 : DataW.trod enc Tryz.prog w base spare held m 9 (List.take (Tryz.prog.cellsOf 9) (List.drop 0 [v0, v1])) = some y0 := (hf 0 _ rfl).trans e0
    rw [k_str] at h0
    obtain ⟨q0, c0, _, _⟩ := DataW.trod_string Tryz.underlying9 h0
    simp only [List.drop_succ_cons, List.drop_zero, List.take_succ_cons, List.take_zero, List.cons.injEq, and_true] at c0
    obtain ⟨y1, e1⟩ := g 1 (by decide)
    have h1 : DataW.trod enc Tryz.prog w base spare held m 3 (List.take (Tryz.prog.cellsOf 3) (List.drop 1 [v0, v1])) = some y1 := (hf 1 _ rfl).trans e1
    rw [k_int] at h1
    obtain ⟨q1, c1, _, _⟩ := DataW.trod_int Tryz.underlying3 h1
    simp only [List.drop_succ_cons, List.drop_zero, List.take_succ_cons, List.take_zero, List.cons.injEq, and_true] at c1
    subst c0 c1
    exact ⟨⟨q0, q1⟩, rfl⟩
set_option maxRecDepth 100000 in
theorem open_events {v : Value} {d : DataW H} {p : List MemPlace} {r : Reach} {b0 : Nat} (hv : Value.okWide Tryz.prog w r b0 41 v) (h : DataW.Trod enc Tryz.prog w base spare held 41 v d p) :
    ∃ (es : List Event) (E : Option Addr) (en ec : Nat), v = .slice E en ec ∧ EventsRaw w es E en ∧ es.length ≤ ec := by
  obtain ⟨a, len, cap, rfl⟩ := okWide_slice Tryz.underlying41 hv
  obtain ⟨fuel, hf⟩ := h
  obtain ⟨E, n, c, es, ea, hn, hS, hc, _⟩ := sl_of_trod (by decide) event_len Tryz.underlying41 k_event open_event hf
  simp [Value.cells] at ea
  obtain ⟨rfl, rfl, rfl⟩ := ea
  exact ⟨es, _, _, _, rfl, ⟨hn, hS⟩, hc⟩
set_option maxRecDepth 100000 in
theorem open_eventV {v : Value} {d : DataW H} {p : List MemPlace} {r : Reach} {b0 : Nat} (hv : Value.okWide Tryz.prog w r b0 23 v) (h : DataW.Trod enc Tryz.prog w base spare held 23 v d p) :
    ∃ e : Event, v = .agg #[.int .i64 e.day, .int .i64 e.kind, .string e.site, .int .i64 e.level, .string e.remain, .int .i64 e.container, .bool e.order] := by
  obtain ⟨cs, rfl, hsz⟩ := okWide_struct Tryz.underlying23 hv
  obtain ⟨l⟩ := cs
  obtain ⟨fuel, hf⟩ := h
  obtain ⟨e, he⟩ := open_event _ _ _ hf
  have he' : l = e.cells := by simpa [Value.cells] using he
  subst he'
  exact ⟨e, rfl⟩
end
end Go.Proofs.YtpohkolapgofdaaGreatDoor
