/- GraveLevels: for every yard, place and container the law returns true, and the input reads as it did. No conditions. -/
import Derived.Test.YtmiobhlgpjjbgaaRows
import Derived.Test.YtmiobhlgpjjbgaaD0
import Derived.Test.YtmiobhlgpjjbgaaL3
namespace Go.Proofs.Ytmiobhlgpjjbgaa
open Go.ChangeShapes Go.WideShapes Go.ChangeAt Go.RowKit

theorem own_knob : ownKnob Try.prog.godebug = none := by kernel_rfl
theorem laid_out : laidOutB Try.prog = true := by kernel_rfl
section
variable {H : Type} {enc : TypeId × Value → H} {w : World} {base : Nat} {spare : Nat → Bool} {held : Bool}
theorem k_berth : Try.prog.cellsOf 54 = 2 := by kernel_rfl
set_option maxRecDepth 100000 in
theorem open_berth {v : Value} {d : DataW H} {p : List MemPlace} {r : Reach} {b0 : Nat} (hv : Value.okWide Try.prog w r b0 54 v) (h : DataW.Trod enc Try.prog w base spare held 54 v d p) :
    ∃ (nm : ByteArray) (lv : Int), v = .agg #[.string nm, .int .i64 lv] := by
  obtain ⟨cs, rfl, hsz⟩ := okWide_struct Try.underlying54 hv
  obtain ⟨l⟩ := cs
  rw [k_berth] at hsz
  match l, hsz with
  | [v0, v1], _ =>
    obtain ⟨fuel, hf0⟩ := h
    obtain ⟨xs, m, _, _, _, hxl, hf⟩ := DataW.trod_struct Try.underlying54 hf0
    have g : ∀ i, i < 2 → ∃ y, xs[i]? = some y := fun i hi => ⟨_, List.getElem?_eq_getElem (by rw [hxl]; exact hi)⟩
    obtain ⟨y0, e0⟩ := g 0 (by decide)
    obtain ⟨y1, e1⟩ := g 1 (by decide)
    have h0 : DataW.trod enc Try.prog w base spare held m 9 (List.take (Try.prog.cellsOf 9) (List.drop 0 [v0, v1])) = some y0 := (hf 0 _ rfl).trans e0
    have h1 : DataW.trod enc Try.prog w base spare held m 3 (List.take (Try.prog.cellsOf 3) (List.drop 1 [v0, v1])) = some y1 := (hf 1 _ rfl).trans e1
    rw [k_str] at h0
    rw [k_int] at h1
    obtain ⟨q0, c0, _, _⟩ := DataW.trod_string Try.underlying9 h0
    obtain ⟨q1, c1, _, _⟩ := DataW.trod_int Try.underlying3 h1
    simp at c0 c1
    subst c0 c1
    exact ⟨q0, q1, rfl⟩
end

set_option maxRecDepth 100000 in
theorem graveLevels_lifted (os : Os) (started : os.Started) (H : Type) (enc : TypeId × Value → H) :
    ReturnsInHanded {} Try.checked os 5 .any (Rows.graveLevelsSpec.pre6 enc Try.prog Try.f5 Rows.graveLevelsRow.domain false) (Rows.graveLevelsSpec.post enc Try.prog Try.f5 false true false false) := by
  refine returnsInHanded_of_change (C := Try.checked) own_knob started (by kernel_rfl) Try.func5
    (ChangeSpec.witness6 (enc := enc) (C := Try.checked) false ⟨#[], #[.agg #[.slice none 0 0, .slice none 0 0, .int .i64 0, .int .i64 0, .int .i64 0], .agg #[.string ⟨#[]⟩, .int .i64 0], .int .i64 0], []⟩ 8 (by kernel_rfl) (by kernel_rfl) (by kernel_rfl) (by kernel_rfl)) ?_
  intro W base args ds gs before hval0 hW hcnd _
  have hval : ∀ (j : Nat) t v, Try.f5.params[j]? = some t → args[j]? = some v → Value.okWide Try.prog W .any base t v := hval0
  have hW' := hW
  obtain ⟨p, q, hA0, hV, rfl, hfz, hnd⟩ := hW
  have hA : DataW.TrodAll enc Try.prog W 0 (fun _ => true) true Try.f5.params.toList args.toList ds p := hA0
  rw [Try.params5] at hA hval
  obtain ⟨v0, vs0, d0, ds0, p0, q0, hargs, rfl, rfl, h0, r0⟩ := trodAll_cons hA
  obtain ⟨v1, vs1, d1, ds1, p1, q1, rfl, rfl, rfl, h1, r1⟩ := trodAll_cons r0
  obtain ⟨v2, vs2, d2, ds2, p2, q2, rfl, rfl, rfl, h2, r2⟩ := trodAll_cons r1
  obtain ⟨rfl, rfl, rfl⟩ := trodAll_nil r2
  obtain rfl : args = #[v0, v1, v2] := by cases args; simp_all
  obtain ⟨rfl, rfl⟩ := trodVars_none hV
  have k0 := h0
  have k1 := h1
  have k2 := h2
  have lt0 : ∀ x ∈ p0, x.block < W.heap.size := by obtain ⟨m, hm⟩ := k0; exact DataW.trod_lt m _ _ _ hm
  have lt1 : ∀ x ∈ p1, x.block < W.heap.size := by obtain ⟨m, hm⟩ := k1; exact DataW.trod_lt m _ _ _ hm
  have lt2 : ∀ x ∈ p2, x.block < W.heap.size := by obtain ⟨m, hm⟩ := k2; exact DataW.trod_lt m _ _ _ hm
  obtain ⟨ss, rs, A, n, c, R, rn, rc, c0, c1, c2, rfl, hy⟩ := open_yard (hval 0 26 v0 rfl rfl) h0
  obtain ⟨nm, lv, rfl⟩ := open_berth (hval 1 54 v1 rfl rfl) h1
  obtain ⟨co, rfl, _, _, _⟩ := open_int Try.underlying3 (hval 2 3 v2 rfl rfl) h2
  clear hA0 hval0
  refine (graveLevels_any ss rs A R n c rn rc c0 c1 c2 nm lv co W hy).mono fun e W' ⟨he, z, hz⟩ => ?_
  subst he
  have bel : Below W.heap.size W W' := by rw [hz]; exact below_ext W z
  exact ⟨_, rfl, _, _, _, [], _, [], hW', trodAll_mk1 (shut_bool Try.underlying4 _), (trodAll_cons_mk (Below.trod laid_out (by kernel_rfl) (of_decide_eq_true (by kernel_rfl)) k0 bel lt0) (trodAll_cons_mk (Below.trod laid_out (by kernel_rfl) (of_decide_eq_true (by kernel_rfl)) k1 bel lt1) (trodAll_cons_mk (Below.trod laid_out (by kernel_rfl) (of_decide_eq_true (by kernel_rfl)) k2 bel lt2) trodAll_mk0))), rfl, bel.frame _, fun h => by cases h⟩

theorem graveLevels_holds : Rows.GraveLevelsSaid :=
  OpenClaim.holds_of_wide 5 Try.f5 rfl rfl rfl rfl rfl rfl rfl ⟨rfl, rfl, rfl, rfl, rfl⟩ rfl rfl rfl rfl rfl (by kernel_rfl) Try.func5 (by kernel_rfl)
    (of_decide_eq_true (by kernel_rfl)) (by unfold Func.isWrapper; first | (rw [if_pos (by decide +kernel)]; kernel_rfl) | (rw [if_neg (by decide +kernel)]; exact ⟨rfl, rfl⟩))
    (fun os started H enc _ => graveLevels_lifted os started H enc)
#print axioms graveLevels_holds
end Go.Proofs.Ytmiobhlgpjjbgaa
