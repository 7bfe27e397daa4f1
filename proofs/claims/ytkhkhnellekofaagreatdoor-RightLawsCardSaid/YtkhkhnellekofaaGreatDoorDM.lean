/- Chapter 5: arguments that come in as data: laws, records; what the laid variables hold. -/
import Derived.Test.YtkhkhnellekofaaGreatDoorRows
import Derived.Test.YtkhkhnellekofaaGreatDoorTie
import Derived.Test.YtkhkhnellekofaaGreatDoorAX
import Derived.Test.YtkhkhnellekofaaGreatDoorJT
import Derived.Test.YtkhkhnellekofaaGreatDoorN3
set_option linter.unusedSimpArgs false
set_option linter.unusedVariables false
namespace Go.Proofs.YtkhkhnellekofaaGreatDoor
open Go.ChangeShapes Go.WideShapes Go.ChangeAt Go.RowKit Go.Deep Go.Shelf

section
variable {H : Type} {enc : TypeId × Value → H} {w : World} {base : Nat} {spare : Nat → Bool} {held : Bool}
theorem k5_int : Tryz.prog.cellsOf 3 = 1 := by kernel_rfl
theorem k5_str : Tryz.prog.cellsOf 9 = 1 := by kernel_rfl
theorem k5_bool : Tryz.prog.cellsOf 4 = 1 := by kernel_rfl
theorem k5_frac : Tryz.prog.cellsOf 39 = 2 := by kernel_rfl
set_option maxRecDepth 100000 in
theorem open_frac (n : Nat) (cs : List Value) (x : DataW H × List MemPlace) (h : DataW.trod enc Tryz.prog w base spare held n 39 cs = some x) : ∃ a b : Int, cs = [.int .i64 a, .int .i64 b] := by
 obtain ⟨xs, m, _, ex, hlen, hxl, hf⟩ := DataW.trod_struct Tryz.underlying39 h
 rw [show Tryz.prog.cellsOf 39 = 2 by kernel_rfl] at hlen
 match cs, hlen with
 | [v0, v1], _ =>
  have g : ∀ i, i < 2 → ∃ y, xs[i]? = some y := fun i hi => ⟨_, List.getElem?_eq_getElem (by rw [hxl]; exact hi)⟩
  obtain ⟨y0, e0⟩ := g 0 (by decide)
  have h0 : DataW.trod enc Tryz.prog w base spare held m 3 (List.take (Tryz.prog.cellsOf 3) (List.drop 0 [v0, v1])) = some y0 := (hf 0 _ rfl).trans e0
  rw [k5_int] at h0
  obtain ⟨q0, c0, d0, _⟩ := DataW.trod_int Tryz.underlying3 h0
  simp only [List.drop_succ_cons, List.drop_zero, List.take_succ_cons, List.take_zero, List.cons.injEq, and_true] at c0
  obtain ⟨y1, e1⟩ := g 1 (by decide)
  have h1 : DataW.trod enc Tryz.prog w base spare held m 3 (List.take (Tryz.prog.cellsOf 3) (List.drop 1 [v0, v1])) = some y1 := (hf 1 _ rfl).trans e1
  rw [k5_int] at h1
  obtain ⟨q1, c1, d1, _⟩ := DataW.trod_int Tryz.underlying3 h1
  simp only [List.drop_succ_cons, List.drop_zero, List.take_succ_cons, List.take_zero, List.cons.injEq, and_true] at c1
  subst c0 c1
  exact ⟨q0, q1, rfl⟩
set_option maxRecDepth 100000 in
theorem open_law (n : Nat) (cs : List Value) (x : DataW H × List MemPlace) (h : DataW.trod enc Tryz.prog w base spare held n 41 cs = some x) : ∃ s : Law, cs = s.cells := by
 obtain ⟨xs, m, _, ex, hlen, hxl, hf⟩ := DataW.trod_struct Tryz.underlying41 h
 rw [show Tryz.prog.cellsOf 41 = 4 by kernel_rfl] at hlen
 match cs, hlen with
 | [v0, v1, v2, v3], _ =>
  have g : ∀ i, i < 3 → ∃ y, xs[i]? = some y := fun i hi => ⟨_, List.getElem?_eq_getElem (by rw [hxl]; exact hi)⟩
  obtain ⟨y0, e0⟩ := g 0 (by decide)
  have h0 : DataW.trod enc Tryz.prog w base spare held m 3 (List.take (Tryz.prog.cellsOf 3) (List.drop 0 [v0, v1, v2, v3])) = some y0 := (hf 0 _ rfl).trans e0
  rw [k5_int] at h0
  obtain ⟨q0, c0, d0, _⟩ := DataW.trod_int Tryz.underlying3 h0
  simp only [List.drop_succ_cons, List.drop_zero, List.take_succ_cons, List.take_zero, List.cons.injEq, and_true] at c0
  obtain ⟨y1, e1⟩ := g 1 (by decide)
  have h1 : DataW.trod enc Tryz.prog w base spare held m 4 (List.take (Tryz.prog.cellsOf 4) (List.drop 1 [v0, v1, v2, v3])) = some y1 := (hf 1 _ rfl).trans e1
  rw [k5_bool] at h1
  obtain ⟨q1, c1, d1⟩ := DataW.trod_bool Tryz.underlying4 h1
  simp only [List.drop_succ_cons, List.drop_zero, List.take_succ_cons, List.take_zero, List.cons.injEq, and_true] at c1
  obtain ⟨y2, e2⟩ := g 2 (by decide)
  have h2 : DataW.trod enc Tryz.prog w base spare held m 39 (List.take (Tryz.prog.cellsOf 39) (List.drop 2 [v0, v1, v2, v3])) = some y2 := (hf 2 _ rfl).trans e2
  rw [k5_frac] at h2
  obtain ⟨q2, r2, c2⟩ := open_frac _ _ _ h2
  simp only [List.drop_succ_cons, List.drop_zero, List.take_succ_cons, List.take_zero, List.cons.injEq, and_true] at c2
  subst c0
  subst c1
  obtain ⟨cx2, cy2⟩ := c2
  subst cx2 cy2
  exact ⟨⟨q0, q1, q2, r2⟩, rfl⟩
set_option maxRecDepth 100000 in
theorem open_form (n : Nat) (cs : List Value) (x : DataW H × List MemPlace) (h : DataW.trod enc Tryz.prog w base spare held n 152 cs = some x) : ∃ s : Form, cs = s.cells ∧ x.1 = .agg [.lit (.string s.word.data.toList), .lit (.bool s.place), .lit (.bool s.frm), .lit (.bool s.cls), .lit (.bool s.years), .lit (.bool s.all), .lit (.bool s.parts), .lit (.bool s.shares)] := by
 obtain ⟨xs, m, _, ex, hlen, hxl, hf⟩ := DataW.trod_struct Tryz.underlying152 h
 rw [show Tryz.prog.cellsOf 152 = 8 by kernel_rfl] at hlen
 match cs, hlen with
 | [v0, v1, v2, v3, v4, v5, v6, v7], _ =>
  have g : ∀ i, i < 8 → ∃ y, xs[i]? = some y := fun i hi => ⟨_, List.getElem?_eq_getElem (by rw [hxl]; exact hi)⟩
  obtain ⟨y0, e0⟩ := g 0 (by decide)
  have h0 : DataW.trod enc Tryz.prog w base spare held m 9 (List.take (Tryz.prog.cellsOf 9) (List.drop 0 [v0, v1, v2, v3, v4, v5, v6, v7])) = some y0 := (hf 0 _ rfl).trans e0
  rw [k5_str] at h0
  obtain ⟨q0, c0, d0, _⟩ := DataW.trod_string Tryz.underlying9 h0
  simp only [List.drop_succ_cons, List.drop_zero, List.take_succ_cons, List.take_zero, List.cons.injEq, and_true] at c0
  obtain ⟨y1, e1⟩ := g 1 (by decide)
  have h1 : DataW.trod enc Tryz.prog w base spare held m 4 (List.take (Tryz.prog.cellsOf 4) (List.drop 1 [v0, v1, v2, v3, v4, v5, v6, v7])) = some y1 := (hf 1 _ rfl).trans e1
  rw [k5_bool] at h1
  obtain ⟨q1, c1, d1⟩ := DataW.trod_bool Tryz.underlying4 h1
  simp only [List.drop_succ_cons, List.drop_zero, List.take_succ_cons, List.take_zero, List.cons.injEq, and_true] at c1
  obtain ⟨y2, e2⟩ := g 2 (by decide)
  have h2 : DataW.trod enc Tryz.prog w base spare held m 4 (List.take (Tryz.prog.cellsOf 4) (List.drop 2 [v0, v1, v2, v3, v4, v5, v6, v7])) = some y2 := (hf 2 _ rfl).trans e2
  rw [k5_bool] at h2
  obtain ⟨q2, c2, d2⟩ := DataW.trod_bool Tryz.underlying4 h2
  simp only [List.drop_succ_cons, List.drop_zero, List.take_succ_cons, List.take_zero, List.cons.injEq, and_true] at c2
  obtain ⟨y3, e3⟩ := g 3 (by decide)
  have h3 : DataW.trod enc Tryz.prog w base spare held m 4 (List.take (Tryz.prog.cellsOf 4) (List.drop 3 [v0, v1, v2, v3, v4, v5, v6, v7])) = some y3 := (hf 3 _ rfl).trans e3
  rw [k5_bool] at h3
  obtain ⟨q3, c3, d3⟩ := DataW.trod_bool Tryz.underlying4 h3
  simp only [List.drop_succ_cons, List.drop_zero, List.take_succ_cons, List.take_zero, List.cons.injEq, and_true] at c3
  obtain ⟨y4, e4⟩ := g 4 (by decide)
  have h4 : DataW.trod enc Tryz.prog w base spare held m 4 (List.take (Tryz.prog.cellsOf 4) (List.drop 4 [v0, v1, v2, v3, v4, v5, v6, v7])) = some y4 := (hf 4 _ rfl).trans e4
  rw [k5_bool] at h4
  obtain ⟨q4, c4, d4⟩ := DataW.trod_bool Tryz.underlying4 h4
  simp only [List.drop_succ_cons, List.drop_zero, List.take_succ_cons, List.take_zero, List.cons.injEq, and_true] at c4
  obtain ⟨y5, e5⟩ := g 5 (by decide)
  have h5 : DataW.trod enc Tryz.prog w base spare held m 4 (List.take (Tryz.prog.cellsOf 4) (List.drop 5 [v0, v1, v2, v3, v4, v5, v6, v7])) = some y5 := (hf 5 _ rfl).trans e5
  rw [k5_bool] at h5
  obtain ⟨q5, c5, d5⟩ := DataW.trod_bool Tryz.underlying4 h5
  simp only [List.drop_succ_cons, List.drop_zero, List.take_succ_cons, List.take_zero, List.cons.injEq, and_true] at c5
  obtain ⟨y6, e6⟩ := g 6 (by decide)
  have h6 : DataW.trod enc Tryz.prog w base spare held m 4 (List.take (Tryz.prog.cellsOf 4) (List.drop 6 [v0, v1, v2, v3, v4, v5, v6, v7])) = some y6 := (hf 6 _ rfl).trans e6
  rw [k5_bool] at h6
  obtain ⟨q6, c6, d6⟩ := DataW.trod_bool Tryz.underlying4 h6
  simp only [List.drop_succ_cons, List.drop_zero, List.take_succ_cons, List.take_zero, List.cons.injEq, and_true] at c6
  obtain ⟨y7, e7⟩ := g 7 (by decide)
  have h7 : DataW.trod enc Tryz.prog w base spare held m 4 (List.take (Tryz.prog.cellsOf 4) (List.drop 7 [v0, v1, v2, v3, v4, v5, v6, v7])) = some y7 := (hf 7 _ rfl).trans e7
  rw [k5_bool] at h7
  obtain ⟨q7, c7, d7⟩ := DataW.trod_bool Tryz.underlying4 h7
  simp only [List.drop_succ_cons, List.drop_zero, List.take_succ_cons, List.take_zero, List.cons.injEq, and_true] at c7
  subst c0
  subst c1
  subst c2
  subst c3
  subst c4
  subst c5
  subst c6
  subst c7
  refine ⟨⟨q0, q1, q2, q3, q4, q5, q6, q7⟩, rfl, ?_⟩
  rw [ex]
  have hx : xs = [y0, y1, y2, y3, y4, y5, y6, y7] := by
   apply List.ext_getElem?
   intro i
   match i with
   | 0 => exact e0
   | 1 => exact e1
   | 2 => exact e2
   | 3 => exact e3
   | 4 => exact e4
   | 5 => exact e5
   | 6 => exact e6
   | 7 => exact e7
   | i + 8 => rw [List.getElem?_eq_none (by rw [hxl]; show 8 ≤ _; omega)]; rfl
  rw [hx, d0, d1, d2, d3, d4, d5, d6, d7]
  rfl
theorem k5_laws : Tryz.prog.cellsOf 41 = 4 := by kernel_rfl
theorem k5_form : Tryz.prog.cellsOf 152 = 8 := by kernel_rfl
set_option maxRecDepth 100000 in
theorem open_laws {v : Value} {d : DataW H} {p : List MemPlace} {r : Reach} {b0 : Nat} (hv : Value.okWide Tryz.prog w r b0 37 v) (h : DataW.Trod enc Tryz.prog w base spare held 37 v d p) :
    ∃ (es : List Law) (E : Option Addr) (ec : Nat), v = .slice E es.length ec ∧ Sl w 4 Law.cells E es ∧ es.length ≤ ec := by
 obtain ⟨a, len, cap, rfl⟩ := okWide_slice Tryz.underlying37 hv
 obtain ⟨fuel, hf⟩ := h
 obtain ⟨E, n, c, es, ea, hn, hS, hc, _⟩ := sl_of_trod (f := Law.cells) (size := 4) (by decide) (fun _ => rfl) Tryz.underlying37 k5_laws open_law hf
 simp [Value.cells] at ea
 obtain ⟨rfl, rfl, rfl⟩ := ea
 subst hn
 exact ⟨es, _, _, rfl, hS, hc⟩
end
theorem ints_laid {n : String} {tab : List Int} {kd : IntKind} {arr el : TypeId} {N : Nat} {r : List (String × DataW Unit)} {W : World} {g : Nat} (h : laidMet Tryz.prog ((n, .agg (tab.map fun z => .lit (.int kd z))) :: r) W)
    (hg0 : Tryz.prog.globalNamed n = some g) (ht0 : (Tryz.prog.globals[g]?).map (·.type) = some arr) (ha : Tryz.prog.underlying arr = some (.array N el)) (he : Tryz.prog.underlying el = some (.int kd)) (hc1 : Tryz.prog.cellsOf el = 1) (hcN : Tryz.prog.cellsOf arr = N) (hN : tab.length = N) :
    ∀ (k : Nat) z, tab[k]? = some z → W.cell? ⟨g, k, none⟩ = some (.int kd z) := by
 obtain ⟨ps, ⟨g', t, cs, fuel, p, q, hg, ht, hv, hd, _, _⟩, _, _⟩ := h
 obtain rfl := Option.some.inj (hg0.symm.trans hg)
 obtain rfl := Option.some.inj (ht0.symm.trans ht)
 obtain ⟨xs, m, _, ex, hcl, hl, hel⟩ := DataW.trod_array ha hd
 rw [hcN] at hcl
 intro k z hk
 have hkl : k < N := by rw [← hN]; exact (List.getElem?_eq_some_iff.1 hk).1
 have hE := hel k hkl
 rw [hc1, Nat.mul_one, List.getElem?_eq_getElem (by omega)] at hE
 obtain ⟨y, e1, e2, _⟩ := DataW.trod_int he hE
 have e3 : (xs.map (·.1)) = tab.map fun z => .lit (.int kd z) := (DataW.agg.inj (Prod.mk.inj ex).1).symm
 have e4 := congrArg (fun l => l[k]?) e3
 simp only [List.getElem?_map, hk, List.getElem?_eq_getElem (show k < xs.length by omega), e2, Option.map_some, Option.some.injEq, DataW.lit.injEq, Lit.int.injEq, true_and] at e4
 have h0 : ((cs.toList.drop k).take 1)[0]? = some (.int kd y) := by rw [e1]; rfl
 have h1 : cs.toList[k]? = some (.int kd y) := by simpa using h0
 rw [World.var?_cell hg hv k, ← Array.getElem?_toList, h1, e4]
theorem tz_laid {r : List (String × DataW Unit)} {W : World} (h : laidMet Tryz.prog (("math/bits.deBruijn64tab", Rows.laid_math_bits_deBruijn64tab) :: r) W) : TzTab W := by
 have h1 := ints_laid (tab := Lib.deBruijn64tab.map fun (z : Nat) => (z : Int)) (kd := .u8) (arr := 148) (el := 5) (N := 64) (g := 2) (by
  have e : (Rows.laid_math_bits_deBruijn64tab : DataW Unit) = .agg ((Lib.deBruijn64tab.map fun (z : Nat) => (z : Int)).map fun z => .lit (.int .u8 z)) := by kernel_rfl
  rw [← e]; exact h) (by kernel_rfl) (by kernel_rfl) Tryz.underlying148 Tryz.underlying5 (by kernel_rfl) (by kernel_rfl) (by kernel_rfl)
 have h2 : TabAt 2 Lib.deBruijn64tab W := fun j hj => h1 j (Lib.deBruijn64tab.getD j 0 : Nat) (by
  rw [List.getElem?_map, List.getD_eq_getElem?_getD, List.getElem?_eq_getElem hj]
  rfl)
 exact ⟨h2, blk_cell (h2 0 (by decide +kernel))⟩
theorem lens_laid {r : List (String × DataW Unit)} {W : World} (h : laidMet Tryz.prog (("mortsafe/rule.lengths", Rows.laid_mortsafe_rule_lengths) :: r) W) : LensIn W := by
 have h1 := ints_laid (tab := lens12) (kd := .i64) (arr := 146) (el := 3) (N := 12) (g := 0) (by
  have e : (Rows.laid_mortsafe_rule_lengths : DataW Unit) = .agg (lens12.map fun z => .lit (.int .i64 z)) := by kernel_rfl
  rw [← e]; exact h) (by kernel_rfl) (by kernel_rfl) Tryz.underlying146 Tryz.underlying3 (by kernel_rfl) (by kernel_rfl) (by kernel_rfl)
 exact ⟨blk_cell (h1 0 31 rfl), h1⟩
def formD (s : Form) : DataW Unit := .agg [.lit (.string s.word.data.toList), .lit (.bool s.place), .lit (.bool s.frm), .lit (.bool s.cls), .lit (.bool s.years), .lit (.bool s.all), .lit (.bool s.parts), .lit (.bool s.shares)]
theorem formD_inj {a b : Form} (h : formD a = formD b) : a = b := by
 obtain ⟨⟨⟨x⟩⟩, p1, p2, p3, p4, p5, p6, p7⟩ := a
 obtain ⟨⟨⟨y⟩⟩, q1, q2, q3, q4, q5, q6, q7⟩ := b
 simp [formD] at h
 obtain ⟨rfl, rfl, rfl, rfl, rfl, rfl, rfl, rfl⟩ := h
 rfl
theorem forms_laid {r : List (String × DataW Unit)} {W : World} (h : laidMet Tryz.prog (("mortsafe/right.forms", Rows.laid_mortsafe_right_forms) :: r) W) : FormsIn W := by
 have e0 : (Rows.laid_mortsafe_right_forms : DataW Unit) = .agg (formsL.map formD) := by kernel_rfl
 rw [e0] at h
 obtain ⟨ps, ⟨g', t, cs, fuel, p, q, hg, ht, hv, hd, _, _⟩, _, _⟩ := h
 obtain rfl := Option.some.inj ((show Tryz.prog.globalNamed "mortsafe/right.forms" = some 3 by kernel_rfl).symm.trans hg)
 obtain rfl := Option.some.inj ((show (Tryz.prog.globals[3]?).map (·.type) = some 153 by kernel_rfl).symm.trans ht)
 obtain ⟨xs, m, _, ex, hcl, hl, hel⟩ := DataW.trod_array Tryz.underlying153 hd
 have key : ∀ k (f : Form), formsL[k]? = some f → ∀ j u, f.cells[j]? = some u → W.cell? ⟨3, k * 8 + j, none⟩ = some u := fun k f hk j u hu => by
  have hkl : k < 9 := (List.getElem?_eq_some_iff.1 hk).1
  have hE := hel k hkl
  rw [k5_form, List.getElem?_eq_getElem (by omega)] at hE
  obtain ⟨s, e1, e2⟩ := open_form _ _ _ hE
  have e3 : (xs.map (·.1)) = formsL.map formD := (DataW.agg.inj (Prod.mk.inj ex).1).symm
  have e4 := congrArg (fun l => l[k]?) e3
  simp only [List.getElem?_map, hk, List.getElem?_eq_getElem (show k < xs.length by omega), e2, Option.map_some, Option.some.injEq] at e4
  have e5 : s = f := formD_inj e4
  subst e5
  have hj : j < 8 := (List.getElem?_eq_some_iff.1 hu).1
  have h1 : ((cs.toList.drop (k * 8)).take 8)[j]? = some u := by rw [e1]; exact hu
  rw [List.getElem?_take_of_lt hj, List.getElem?_drop] at h1
  rw [World.var?_cell hg hv (k * 8 + j), ← Array.getElem?_toList, h1]
 exact ⟨blk_cell (key 0 _ rfl 0 _ rfl), key⟩
end Go.Proofs.YtkhkhnellekofaaGreatDoor
