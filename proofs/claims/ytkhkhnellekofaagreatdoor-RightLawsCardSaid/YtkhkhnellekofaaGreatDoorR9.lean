/- Walk of the library's Compare at lists of numbers. -/
import Derived.Test.YtkhkhnellekofaaGreatDoorJT
import Derived.Deep.RegionHeld3
import Derived.Test.YtkhkhnellekofaaGreatDoorE3
import Derived.Test.YtkhkhnellekofaaGreatDoorE2
set_option linter.unusedSimpArgs false
set_option linter.unusedVariables false
namespace Go.Proofs.YtkhkhnellekofaaGreatDoor

section
variable {P : Program} {ops : Array Oper} {Q : Exit → Act → World → Prop} {md : Region.Mode} {m : Nat} {S : Bool → World → Prop}
def ClosedL (md : Region.Mode) (ops : Array Oper) (listed : Array Bool) : Prop := ∀ (k : Nat) (o : Oper), ops[k]? = some o → listed.getD k false = true → ∀ e ∈ o.after, Region.binds md e = true → listed.getD e.on false = true
def closedB (md : Region.Mode) (ops : Array Oper) (listed : Array Bool) : Bool := (List.range ops.size).all fun k => match ops[k]? with
 | some o => !listed.getD k false || o.after.all fun e => !Region.binds md e || listed.getD e.on false
 | none => true
theorem closed_of {listed : Array Bool} (h : closedB md ops listed = true) : ClosedL md ops listed := fun k o ho hl e he hb => by
 unfold closedB at h
 have h1 := List.all_eq_true.1 h k (List.mem_range.2 (Array.getElem?_eq_some_iff.1 ho).1)
 simp only [ho, hl, Bool.not_true, Bool.false_or] at h1
 rw [Array.all_eq_true] at h1
 obtain ⟨j, hj, rfl⟩ := Array.mem_iff_getElem.1 he
 have h2 := h1 j hj
 rw [hb] at h2
 simpa using h2
def needs (md : Region.Mode) (ops : Array Oper) (i : Nat) : Nat → Nat → Bool
 | 0, k => k == i
 | f + 1, k => k == i || match ops[k]? with
  | some o => o.after.any fun e => Region.binds md e && needs md ops i f e.on
  | none => false
theorem needs_of {i : Nat} {listed : Array Bool} (hc : ClosedL md ops listed) : ∀ (f k : Nat), needs md ops i f k = true → listed.getD k false = true → listed.getD i false = true
 | 0, k, h, hl => by
  have : k = i := by simpa [needs] using h
  rw [← this]; exact hl
 | f + 1, k, h, hl => by
  unfold needs at h
  rw [Bool.or_eq_true] at h
  rcases h with h | h
  · have : k = i := by simpa using h
    rw [← this]; exact hl
  · cases ho : ops[k]? with
    | none => rw [ho] at h; cases h
    | some o =>
     rw [ho] at h
     simp only at h
     rw [Array.any_eq_true] at h
     obtain ⟨j, hj, h2⟩ := h
     rw [Bool.and_eq_true] at h2
     exact needs_of hc f _ h2.2 (hc k o ho hl o.after[j] (Array.getElem_mem hj) h2.1)
theorem closed_set {listed : Array Bool} {j : Nat} (hc : ClosedL md ops listed) (hj : j ∈ Region.ready md ops listed) : ClosedL md ops (listed.setIfInBounds j true) := fun k o ho hl e he hb => by
 obtain ⟨h0, oj, hoj, hall⟩ := mem_ready.1 hj
 by_cases hjk : j = k
 · subst hjk
   rw [hoj] at ho
   simp only [Option.some.injEq] at ho
   subst ho
   exact getD_set_true (hall e he hb)
 · rw [getD_set_ne false hjk] at hl
   exact getD_set_true (hc k o ho hl e he hb)
def wpAnyM (P : Program) (md : Region.Mode) (ops : Array Oper) (Q : Exit → Act → World → Prop) (m : Nat) (S : Bool → World → Prop) : Nat → Array Bool → Act → World → Prop
 | 0, listed, a, w => Region.ready md ops listed = [] ∧ Q .normal a w
 | fuel + 1, listed, a, w =>
  (Region.ready md ops listed = [] → Q .normal a w) ∧
  ∀ i ∈ Region.ready md ops listed, wpOp P ops Q i (fun a' w' => S ((listed.setIfInBounds i true).getD m false) w' ∧ wpAnyM P md ops Q m S fuel (listed.setIfInBounds i true) a' w') a w
theorem wpAny_of_M : ∀ (fuel : Nat) (listed : Array Bool) (a : Act) (w : World), wpAnyM P md ops Q m S fuel listed a w → wpAny P md ops Q fuel listed a w
 | 0, _, _, _, h => h
 | fuel + 1, _, _, _, h => ⟨h.1, fun i hi => wpOp_mono (fun a' w' h' => wpAny_of_M fuel _ a' w' h'.2) (h.2 i hi)⟩
theorem wpAnyM_first {i : Nat} {oi : Oper} {v : Value} (him : i ≠ m) (hi : ops[i]? = some oi) (hsel : ∀ (j : Nat) (o : Oper) cs b, ops[j]? = some o → o.op ≠ .select cs b)
    (hQ : ∀ c a w, Q (.panic c) (a.put oi.dst v) w → Q (.panic c) a w) (f0 : Nat) (hne : needs md ops i f0 m = true) :
    ∀ (fuel : Nat) (listed : Array Bool) (a : Act) (w : World), ClosedL md ops listed →
     (∀ j oj, ops[j]? = some oj → j ≠ i → listed.getD j true = false → (∀ e ∈ oj.after, Region.binds md e = true → e.on ≠ i) → oi.apart ops oj = true) →
     i ∈ Region.ready md ops listed → YieldsIf P ops (S false) oi v a → S false w →
     wpAnyM P md ops Q m S fuel (listed.setIfInBounds i true) (a.put oi.dst v) w → wpAnyM P md ops Q m S (fuel + 1) listed a w := by
 have hoff : ∀ {listed : Array Bool}, ClosedL md ops listed → i ∈ Region.ready md ops listed → listed.getD m false = false := fun {listed} hc hr => by
  cases hx : listed.getD m false with
  | false => rfl
  | true =>
   have h1 := needs_of hc f0 m hne hx
   have h2 := getD_both (mem_ready.1 hr).1
   rw [h2] at h1
   cases h1
 intro fuel
 induction fuel with
 | zero =>
  intro listed a w hc _ hr hy hS H
  refine ⟨fun h => (by rw [h] at hr; cases hr), fun j hj => ?_⟩
  by_cases hji : j = i
  · subst hji
    exact hy.wpOp hi hS ⟨by rw [getD_set_ne false him, hoff hc hr]; exact hS, H⟩
  · have := ready_mono hj hji
    rw [H.1] at this
    cases this
 | succ fuel ih =>
  intro listed a w hc hfree hr hy hS H
  refine ⟨fun h => (by rw [h] at hr; cases hr), fun j hj => ?_⟩
  by_cases hji : j = i
  · subst hji
    exact hy.wpOp hi hS ⟨by rw [getD_set_ne false him, hoff hc hr]; exact hS, H⟩
  · have h1 := H.2 j (ready_mono hj hji)
    obtain ⟨hjun, oj, hoj, hall⟩ := mem_ready.1 hj
    have hnot : ∀ e ∈ oj.after, Region.binds md e = true → e.on ≠ i := fun e he hb heq => by
     have h1 := hall e he hb
     have h0 := (mem_ready.1 hr).1
     rw [heq] at h1
     rw [getD_both h0] at h1
     cases h1
    have h2 := wpOp_putIf hoj (hfree j oj hoj hji hjun hnot) (fun cs b => hsel i oi cs b hi) (fun cs b => hsel j oj cs b hoj) hQ hy h1
    have hfree' : ∀ k ok, ops[k]? = some ok → k ≠ i → (listed.setIfInBounds j true).getD k true = false →
        (∀ e ∈ ok.after, Region.binds md e = true → e.on ≠ i) → oi.apart ops ok = true := fun k ok hk hki hun hno => by
     refine hfree k ok hk hki ?_ hno
     by_cases hjk : j = k
     · subst hjk; exact hjun
     · rw [getD_set_ne true hjk] at hun; exact hun
    have hc' := closed_set hc hj
    have hr' := ready_mono hr (Ne.symm hji)
    have hs' : ((listed.setIfInBounds i true).setIfInBounds j true).getD m false = (listed.setIfInBounds j true).getD m false := by
     rw [Array.setIfInBounds_comm _ _ (Ne.symm hji), getD_set_ne false him]
    refine wpOp_mono (fun a' w' h3 => ?_) h2
    have h4 := h3.2.1
    rw [hs'] at h4
    refine ⟨h4, ih (listed.setIfInBounds j true) a' w' hc' hfree' hr' h3.1 ?_ ?_⟩
    · rw [hoff hc' hr'] at h4; exact h4
    · rw [Array.setIfInBounds_comm _ _ hji]
      exact h3.2.2
theorem wpAnyM_take {i : Nat} {oi : Oper} {v : Value} {fuel : Nat} {listed : Array Bool} {a : Act} {w : World} (f0 : Nat) (hi : ops[i]? = some oi) (him : i ≠ m) (hne : needs md ops i f0 m = true) (hcl : closedB md ops listed = true)
    (hs : Region.noSelect ops = true) (hf : Region.free md ops listed i = true) (hr : (Region.ready md ops listed).contains i = true)
    (hQ : ∀ c a w, Q (.panic c) (a.put oi.dst v) w → Q (.panic c) a w) (hy : YieldsIf P ops (S false) oi v a) (hS : S false w)
    (h : wpAnyM P md ops Q m S fuel (listed.setIfInBounds i true) (a.put oi.dst v) w) : wpAnyM P md ops Q m S (fuel + 1) listed a w :=
 wpAnyM_first him hi (Region.noSelect_spec hs) hQ f0 hne fuel listed a w (closed_of hcl) (Region.free_spec hi hf) (by simpa using hr) hy hS h
theorem wpAnyM_first2 {i : Nat} {oi : Oper} {v : Value} (him : i ≠ m) (hi : ops[i]? = some oi) (hsel : ∀ (j : Nat) (o : Oper) cs b, ops[j]? = some o → o.op ≠ .select cs b)
    (hQ : ∀ c a w, Q (.panic c) (a.put oi.dst v) w → Q (.panic c) a w) :
    ∀ (fuel : Nat) (listed : Array Bool) (a : Act) (w : World),
     (∀ j oj, ops[j]? = some oj → j ≠ i → listed.getD j true = false → (∀ e ∈ oj.after, Region.binds md e = true → e.on ≠ i) → oi.apart ops oj = true) →
     i ∈ Region.ready md ops listed → YieldsIf P ops (fun _ => True) oi v a → S (listed.getD m false) w →
     wpAnyM P md ops Q m S fuel (listed.setIfInBounds i true) (a.put oi.dst v) w → wpAnyM P md ops Q m S (fuel + 1) listed a w := by
 intro fuel
 induction fuel with
 | zero =>
  intro listed a w _ hr hy hS H
  refine ⟨fun h => (by rw [h] at hr; cases hr), fun j hj => ?_⟩
  by_cases hji : j = i
  · subst hji
    exact hy.wpOp hi trivial ⟨by rw [getD_set_ne false him]; exact hS, H⟩
  · have := ready_mono hj hji
    rw [H.1] at this
    cases this
 | succ fuel ih =>
  intro listed a w hfree hr hy hS H
  refine ⟨fun h => (by rw [h] at hr; cases hr), fun j hj => ?_⟩
  by_cases hji : j = i
  · subst hji
    exact hy.wpOp hi trivial ⟨by rw [getD_set_ne false him]; exact hS, H⟩
  · have h1 := H.2 j (ready_mono hj hji)
    obtain ⟨hjun, oj, hoj, hall⟩ := mem_ready.1 hj
    have hnot : ∀ e ∈ oj.after, Region.binds md e = true → e.on ≠ i := fun e he hb heq => by
     have h1 := hall e he hb
     have h0 := (mem_ready.1 hr).1
     rw [heq] at h1
     rw [getD_both h0] at h1
     cases h1
    have h2 := wpOp_putIf hoj (hfree j oj hoj hji hjun hnot) (fun cs b => hsel i oi cs b hi) (fun cs b => hsel j oj cs b hoj) hQ hy h1
    have hfree' : ∀ k ok, ops[k]? = some ok → k ≠ i → (listed.setIfInBounds j true).getD k true = false →
        (∀ e ∈ ok.after, Region.binds md e = true → e.on ≠ i) → oi.apart ops ok = true := fun k ok hk hki hun hno => by
     refine hfree k ok hk hki ?_ hno
     by_cases hjk : j = k
     · subst hjk; exact hjun
     · rw [getD_set_ne true hjk] at hun; exact hun
    have hs' : ((listed.setIfInBounds i true).setIfInBounds j true).getD m false = (listed.setIfInBounds j true).getD m false := by
     rw [Array.setIfInBounds_comm _ _ (Ne.symm hji), getD_set_ne false him]
    refine wpOp_mono (fun a' w' h3 => ?_) h2
    have h4 := h3.2.1
    rw [hs'] at h4
    refine ⟨h4, ih (listed.setIfInBounds j true) a' w' hfree' (ready_mono hr (Ne.symm hji)) h3.1 h4 ?_⟩
    rw [Array.setIfInBounds_comm _ _ hji]
    exact h3.2.2
theorem wpAnyM_free {i : Nat} {oi : Oper} {v : Value} {fuel : Nat} {listed : Array Bool} {a : Act} {w : World} (b : Bool) (hb : listed.getD m false = b) (hi : ops[i]? = some oi) (him : i ≠ m)
    (hs : Region.noSelect ops = true) (hf : Region.free md ops listed i = true) (hr : (Region.ready md ops listed).contains i = true)
    (hQ : ∀ c a w, Q (.panic c) (a.put oi.dst v) w → Q (.panic c) a w) (hy : YieldsIf P ops (fun _ => True) oi v a) (hS : S b w)
    (h : wpAnyM P md ops Q m S fuel (listed.setIfInBounds i true) (a.put oi.dst v) w) : wpAnyM P md ops Q m S (fuel + 1) listed a w :=
 wpAnyM_first2 him hi (Region.noSelect_spec hs) hQ fuel listed a w (Region.free_spec hi hf) (by simpa using hr) hy (by rw [hb]; exact hS) h
def AllReadyM (P : Program) (md : Region.Mode) (ops : Array Oper) (Q : Exit → Act → World → Prop) (m : Nat) (S : Bool → World → Prop) (fuel : Nat) (listed : Array Bool) (a : Act) (w : World) (rs : List Nat) : Prop :=
 ∀ i ∈ rs, wpOp P ops Q i (fun a' w' => S ((listed.setIfInBounds i true).getD m false) w' ∧ wpAnyM P md ops Q m S fuel (listed.setIfInBounds i true) a' w') a w
theorem AllReadyM.nil {fuel : Nat} {listed : Array Bool} {a : Act} {w : World} : AllReadyM P md ops Q m S fuel listed a w [] := fun _ h => by cases h
theorem AllReadyM.cons {fuel : Nat} {listed : Array Bool} {a : Act} {w : World} {i : Nat} {o : Oper} {rs : List Nat} (ho : ops[i]? = some o) (b : Bool) (hb : (listed.setIfInBounds i true).getD m false = b)
    (h : ∀ K' : Act → World → Prop, Shut (∀ a w, S b w → (S b w → wpAnyM P md ops Q m S fuel (listed.setIfInBounds i true) a w) → K' a w) → if Region.wanted o (yielded ops a.tmps) = true then Oper.wp P o a w K' Q else K' (a.put o.dst undef) w)
    (hs : AllReadyM P md ops Q m S fuel listed a w rs) : AllReadyM P md ops Q m S fuel listed a w (i :: rs) := fun j hj => by
 rcases List.mem_cons.1 hj with rfl | hj
 · rw [hb]
   exact wpOp_step ho (fun K' hK => h K' (fun a w hS hW => hK a w ⟨hS, hW hS⟩))
 · exact hs j hj
theorem wpAnyM_ready {rs : List Nat} {fuel : Nat} {listed : Array Bool} {a : Act} {w : World} (hr : Region.ready md ops listed = rs) (hne : rs ≠ [])
    (h : AllReadyM P md ops Q m S fuel listed a w rs) : wpAnyM P md ops Q m S (fuel + 1) listed a w := ⟨fun h0 => absurd (hr ▸ h0) hne, hr ▸ h⟩
theorem wpAnyM_done {listed : Array Bool} {a : Act} {w : World} (hr : Region.ready md ops listed = []) (h : Q .normal a w) : ∀ fuel, wpAnyM P md ops Q m S fuel listed a w
 | 0 => ⟨hr, h⟩
 | _ + 1 => ⟨fun _ => h, by rw [hr]; simp⟩
theorem wp_region_mark {id : Nat} {a : Act} {w : World} (m : Nat) (S : Bool → World → Prop) (hm : P.follows .mixedOrders = true) (hS : S false w.drew)
    (h : S false w.drew → wpAnyM P .any ops Q m S ops.size (Array.replicate ops.size false) a w.drew) : (Code.region id ops true).wp P Q a w :=
 wp_region_any hm (wpAny_of_M _ _ _ _ (h hS))
end
end Go.Proofs.YtkhkhnellekofaaGreatDoor
namespace Go.Proofs.YtkhkhnellekofaaGreatDoor
open Go.RowKit

def parR (l : List Rec) (n : ByteArray) : List ByteArray := (l.filter fun x => x.kind == 2 && sameB x.name n).map (·.other)
theorem mem_parR {l : List Rec} {n y : ByteArray} : y ∈ parR l n ↔ Edge l n y := by
 unfold parR Edge
 rw [List.mem_map]
 constructor
 · rintro ⟨x, hx, h⟩
   rw [List.mem_filter] at hx
   simp only [Bool.and_eq_true, beq_iff_eq, same_iff] at hx
   exact ⟨x, hx.1, hx.2.1, hx.2.2, h⟩
 · rintro ⟨x, hx, h1, h2, h3⟩
   exact ⟨x, List.mem_filter.2 ⟨hx, by simp [h1, h2, same_refl]⟩, h3⟩
theorem parR_snoc (l : List Rec) (x : Rec) (n : ByteArray) : parR (l ++ [x]) n = parR l n ++ if x.kind == 2 && sameB x.name n then [x.other] else [] := by
 unfold parR
 simp only [List.filter_append, List.map_append, List.filter_cons, List.filter_nil]
 cases x.kind == 2 && sameB x.name n <;> simp
theorem parR_skip {l : List Rec} {x : Rec} (h : ¬ x.kind = 2) : parR (l ++ [x]) = parR l := by
 funext n
 rw [parR_snoc, if_neg (by simp [h]), List.append_nil]
theorem parR_put {l : List Rec} {x : Rec} (h : x.kind = 2) : parR (l ++ [x]) x.name = parR l x.name ++ [x.other] := by
 rw [parR_snoc, if_pos (by simp [h, same_refl])]
theorem parR_other {l : List Rec} {x : Rec} {n : ByteArray} (h : sameB n x.name = false) : parR (l ++ [x]) n = parR l n := by
 rw [parR_snoc, if_neg, List.append_nil]
 intro hc
 simp only [Bool.and_eq_true, same_iff] at hc
 rw [hc.2, same_refl] at h
 cases h
theorem parR_len (l : List Rec) (n : ByteArray) : (parR l n).length ≤ l.length := by
 unfold parR
 rw [List.length_map]
 exact List.length_filter_le _ _
def leftR (l : List Rec) (seen : List ByteArray) : Nat := (l.filter fun x => x.kind == 2 && !seen.any (sameB x.name)).length
theorem leftR_le (l : List Rec) (seen : List ByteArray) : leftR l seen ≤ l.length := List.length_filter_le _ _
theorem leftR_new {seen : List ByteArray} {n : ByteArray} (h : seen.any (sameB n) = false) : ∀ l : List Rec, leftR l (seen ++ [n]) + (parR l n).length = leftR l seen
 | [] => rfl
 | x :: l => by
  have ih := leftR_new h l
  unfold leftR parR at ih ⊢
  rw [List.length_map] at ih ⊢
  simp only [List.filter_cons]
  by_cases hk : x.kind = 2
  · have e : (x.kind == 2) = true := by simpa using hk
    rw [e]
    simp only [Bool.true_and, List.any_append, List.any_cons, List.any_nil, Bool.or_false]
    cases hn : sameB x.name n
    · cases hs : seen.any (sameB x.name)
      · simp only [Bool.or_false, Bool.not_false, if_true, Bool.false_eq_true, if_false, List.length_cons] at ih ⊢
        simp only [List.any_append, List.any_cons, List.any_nil, Bool.or_false] at ih
        omega
      · simp only [Bool.or_false, Bool.not_true, Bool.false_eq_true, if_false] at ih ⊢
        simp only [List.any_append, List.any_cons, List.any_nil, Bool.or_false] at ih
        omega
    · have e2 : x.name = n := same_iff.1 hn
      rw [e2, h]
      simp only [Bool.or_true, Bool.not_true, Bool.false_eq_true, if_false, Bool.not_false, if_true, List.length_cons] at ih ⊢
      simp only [List.any_append, List.any_cons, List.any_nil, Bool.or_false] at ih
      omega
  · have e : (x.kind == 2) = false := by simpa using hk
    rw [e]
    simp only [Bool.false_and, Bool.false_eq_true, if_false]
    simp only [List.any_append, List.any_cons, List.any_nil, Bool.or_false] at ih ⊢
    exact ih
theorem search_start (l : List Rec) (n : ByteArray) : Searched (Edge l) n (parR l n) [] :=
 ⟨fun x hx => hx.elim (fun h => Relation.TransGen.single (mem_parR.1 h)) (fun h => absurd h (by simp)), fun y hy => .inr (mem_parR.2 hy), fun x hx => absurd hx (by simp)⟩
theorem search_old {l : List Rec} {n x : ByteArray} {q seen : List ByteArray} (h : Searched (Edge l) n (x :: q) seen) (hx : x ∈ seen) : Searched (Edge l) n q seen := by
 refine ⟨fun y hy => h.reach y (hy.imp (List.mem_cons_of_mem x) id), fun y hy => ?_, fun z hz y hy => ?_⟩
 · rcases h.first y hy with h1 | h1
   · exact .inl h1
   · rcases List.mem_cons.1 h1 with rfl | h1
     · exact .inl hx
     · exact .inr h1
 · rcases h.closed z hz y hy with h1 | h1
   · exact .inl h1
   · rcases List.mem_cons.1 h1 with rfl | h1
     · exact .inl hx
     · exact .inr h1
theorem search_new {l : List Rec} {n x : ByteArray} {q seen : List ByteArray} (h : Searched (Edge l) n (x :: q) seen) : Searched (Edge l) n (q ++ parR l x) (seen ++ [x]) := by
 have hxr := h.reach x (.inl (by simp))
 refine ⟨fun y hy => ?_, fun y hy => ?_, fun z hz y hy => ?_⟩
 · simp only [List.mem_append, List.mem_singleton] at hy
   rcases hy with (hy | hy) | (hy | hy)
   · exact h.reach y (.inl (by simp [hy]))
   · exact Relation.TransGen.tail hxr (mem_parR.1 hy)
   · exact h.reach y (.inr hy)
   · rw [hy]; exact hxr
 · rcases h.first y hy with h1 | h1
   · exact .inl (by simp [h1])
   · rcases List.mem_cons.1 h1 with rfl | h1
     · exact .inl (by simp)
     · exact .inr (by simp [h1])
 · simp only [List.mem_append, List.mem_singleton] at hz
   rcases hz with hz | hz
   · rcases h.closed z hz y hy with h1 | h1
     · exact .inl (by simp [h1])
     · rcases List.mem_cons.1 h1 with rfl | h1
       · exact .inl (by simp)
       · exact .inr (by simp [h1])
   · rw [hz] at hy
     exact .inr (by simp [mem_parR.2 hy])
theorem circle_found {l : List Rec} {n : ByteArray} {q seen : List ByteArray} (h : Searched (Edge l) n (n :: q) seen) : Circle l := ⟨n, h.reach n (.inl (by simp))⟩
def Free5 (l : List Rec) (n : ByteArray) : Prop := ¬ Relation.TransGen (Edge l) n n
theorem free_of {l : List Rec} {n : ByteArray} {seen : List ByteArray} (h : Searched (Edge l) n [] seen) (hn : n ∉ seen) : Free5 l n := fun hc => hn ((h.done n).1 hc)
theorem no_circle {l : List Rec} (h : ∀ n, parR l n ≠ [] → Free5 l n) : ¬ Circle l := fun hc => by
 obtain ⟨x, hx, hk, h1⟩ := circle_records.1 hc
 have he : Edge l x.name x.other := ⟨x, hx, hk, rfl, rfl⟩
 refine h x.name (fun e => ?_) ?_
 · have := mem_parR.2 he
   rw [e] at this
   cases this
 · rcases h1 with h1 | h1
   · rw [h1] at he
     exact Relation.TransGen.single he
   · have key : ∀ {c : ByteArray}, Relation.TransGen (Edge l) x.other c → Relation.TransGen (Edge l) x.name c := by
       intro c hc
       induction hc with
       | single h => exact Relation.TransGen.tail (Relation.TransGen.single he) h
       | tail _ h ih => exact Relation.TransGen.tail ih h
     exact key h1
end Go.Proofs.YtkhkhnellekofaaGreatDoor
namespace Go.Proofs.YtkhkhnellekofaaGreatDoor
open Go.RowKit Go.Shelf
attribute [local go_sem] World.cell?_alloc_mark ext_size ext_cell ext_frozen lt_add_r lt_add_r2 lt_add_r3 lt_add_r4 lt_add_r5 lt_add_r6 lt_add_r7 lt_add_r8
attribute [local go_sem] ext_setCell alloc_setCell_lt

def cmpJ (a b : Int) : Int := if a < b then -1 else if b < a then 1 else 0
set_option maxRecDepth 100000 in
set_option maxHeartbeats 2000000 in
theorem nanJ_any (n : Int) (w : World) : Calls Tryz.prog 96 #[.int .i64 n] w (Ret0 w (.bool false)) := by
 go_enter Tryz.func96, Tryz.ntmps96
 go_wp2
 go_ret
 exact ⟨by simp, rfl⟩
set_option maxRecDepth 100000 in
set_option maxHeartbeats 2000000 in
theorem cmpJ_any (a b : Int) (w : World) : Calls Tryz.prog 66 #[.int .i64 a, .int .i64 b] w (Ret0 w (.int .i64 (cmpJ a b))) := by
 have hX : a < b ∧ cmpJ a b = -1 ∨ ¬ a < b ∧ b < a ∧ cmpJ a b = 1 ∨ ¬ a < b ∧ ¬ b < a ∧ cmpJ a b = 0 := by
  unfold cmpJ
  by_cases h : a < b
  · exact .inl ⟨h, by simp [h]⟩
  · by_cases h2 : b < a
    · exact .inr (.inl ⟨h, h2, by simp [h, h2]⟩)
    · exact .inr (.inr ⟨h, h2, by simp [h, h2]⟩)
 rcases hX with ⟨h1, hr⟩ | ⟨h1, h2, hr⟩ | ⟨h1, h2, hr⟩ <;> rw [hr] <;> clear hr <;>
 (go_enter Tryz.func66, Tryz.ntmps66
  go_wp2_with (go_at_call 96; refine (nanJ_any _ _).mono ?_; rintro e wq ⟨rfl, rfl⟩)
  go_ret
  exact ⟨rfl, rfl⟩)
def lexC : List Nat → List Nat → Int
 | [], [] => 0
 | [], _ :: _ => -1
 | _ :: _, [] => 1
 | a :: x, b :: y => if a < b then -1 else if b < a then 1 else lexC x y
theorem lexC_lex : ∀ {a b : List Nat}, a.length = b.length → decide (0 < lexC a b) = lexB b a
 | [], [], _ => rfl
 | [], _ :: _, h => by simp at h
 | _ :: _, [], h => by simp at h
 | a :: x, b :: y, h => by
  rw [lexC, lexB]
  by_cases h1 : a < b
  · have h2 : ¬ b < a := by omega
    have h3 : (b == a) = false := by simp; omega
    simp [h1, h2, h3]
  · by_cases h2 : b < a
    · simp [h1, h2]
    · have h3 : (b == a) = true := by simp; omega
      simp only [h1, h2, h3, if_false, decide_false, Bool.false_or, Bool.true_and]
      exact lexC_lex (by simpa using h)
set_option maxRecDepth 100000 in
set_option maxHeartbeats 2000000 in
theorem compare_any (a b : List Nat) (A B : Option Addr) (ac bc : Nat) (w : World) (ha : a.length ≤ ac) (hb : b.length ≤ bc) (ha2 : a.length ≤ 1000) (hS : Sl w 1 intC A a) (hT : Sl w 1 intC B b) :
    Calls Tryz.prog 37 #[.slice A a.length ac, .slice B b.length bc] w (Ret0 w (.int .i64 (lexC a b))) := by
 have HS := Lib.hid hS
 have HT := Lib.hid hT
 obtain ⟨R, hR⟩ : ∃ R, R = lexC (a.drop 0) (b.drop 0) := ⟨_, rfl⟩
 rw [show lexC a b = R from by rw [hR]; rfl]
 have HR := Lib.hid hR
 clear hS hT hR
 go_enter Tryz.func37, Tryz.ntmps37
 go_wp2_with fail
 go_loopw [11] (fun i wr => ∃ k : Nat, k ≤ a.length ∧ k ≤ b.length ∧ i = .int .i64 k ∧ Hid (wr = w) ∧ Hid (R = lexC (a.drop k) (b.drop k))) (fun i _ => a.length - (intOf i).toNat)
 case atStart => exact ⟨0, Nat.zero_le _, Nat.zero_le _, rfl, rfl, HR.out⟩
 case round =>
  obtain ⟨k, hk, hk2, rfl, hw, HX⟩ := hrel
  have hw := hw.out
  subst hw
  have hk0 : (0 : Int) ≤ (k : Int) := by omega
  have hkA : (k : Int) ≤ (ac : Int) := by omega
  have hkB : (k : Int) ≤ (bc : Int) := by omega
  by_cases hlt : k < a.length
  · have hki : (k : Int) < (a.length : Int) := by omega
    obtain ⟨b1, o1, rfl, _, c1⟩ := HS.out.at hlt
    have i0 := c1 0 _ rfl
    rw [Nat.mul_one, Nat.add_zero] at i0
    by_cases hlt2 : k < b.length
    · have hki2 : (k : Int) < (b.length : Int) := by omega
      have hki3 : ¬ (b.length : Int) ≤ (k : Int) := by omega
      obtain ⟨b2, o2, rfl, _, c2⟩ := HT.out.at hlt2
      have j0 := c2 0 _ rfl
      rw [Nat.mul_one, Nat.add_zero] at j0
      have hx := HX.out
      rw [List.drop_eq_getElem_cons hlt, List.drop_eq_getElem_cons hlt2, lexC] at hx
      have HLT := Lib.hid hlt
      have HLT2 := Lib.hid hlt2
      generalize a[k] = m at *
      generalize b[k] = n at *
      have HX2 := Lib.hid hx
      have HC := Lib.hid (fun W => cmpJ_any m n W)
      clear hx c1 c2
      by_cases h1 : m < n
      · have hc : cmpJ m n = -1 := by unfold cmpJ; rw [if_pos (by omega)]
        have HRX : Hid (R = -1) := by show _ = _; rw [HX2.out, if_pos h1]
        rw [hc] at HC
        go_wp2_with (go_at_call 66; go_must (refine (HC.out _).mono ?_); rintro e wq ⟨rfl, rfl⟩)
        go_ret
        exact ⟨by rw [HRX.out]; rfl, rfl⟩
      · by_cases h2 : n < m
        · have hc : cmpJ m n = 1 := by unfold cmpJ; rw [if_neg (by omega), if_pos (by omega)]
          have HRX : Hid (R = 1) := by show _ = _; rw [HX2.out, if_neg h1, if_pos h2]
          rw [hc] at HC
          go_wp2_with (go_at_call 66; go_must (refine (HC.out _).mono ?_); rintro e wq ⟨rfl, rfl⟩)
          go_ret
          exact ⟨by rw [HRX.out]; rfl, rfl⟩
        · have hc : cmpJ m n = 0 := by unfold cmpJ; rw [if_neg (by omega), if_neg (by omega)]
          have HRX : Hid (R = lexC (a.drop (k + 1)) (b.drop (k + 1))) := by show _ = _; rw [HX2.out, if_neg h1, if_neg h2]
          rw [hc] at HC
          go_wp2_with (go_at_call 66; go_must (refine (HC.out _).mono ?_); rintro e wq ⟨rfl, rfl⟩)
          go_round
          case rel => exact ⟨k + 1, HLT.out, HLT2.out, by go_num, by first | exact True.intro | rfl, HRX.out⟩
          case measure => have := HLT.out; simp only [intOf]; omega
    · have hki3 : (b.length : Int) ≤ (k : Int) := by omega
      have hx := HX.out
      rw [List.drop_eq_getElem_cons hlt, show b.drop k = [] from List.drop_eq_nil_of_le (by omega), lexC] at hx
      have HRX : Hid (R = 1) := hx
      clear hx c1
      go_wp2_with fail
      go_ret
      exact ⟨by rw [HRX.out]; rfl, rfl⟩
  · have hki : ¬ (k : Int) < (a.length : Int) := by omega
    have hx := HX.out
    rw [show a.drop k = [] from List.drop_eq_nil_of_le (by omega)] at hx
    by_cases hlt2 : k < b.length
    · have hab : (a.length : Int) < (b.length : Int) := by omega
      rw [List.drop_eq_getElem_cons hlt2, lexC] at hx
      have HRX : Hid (R = -1) := hx
      clear hx
      go_wp2_with fail
      go_ret
      exact ⟨by rw [HRX.out]; rfl, rfl⟩
    · have hab : ¬ (a.length : Int) < (b.length : Int) := by omega
      rw [show b.drop k = [] from List.drop_eq_nil_of_le (by omega), lexC] at hx
      have HRX : Hid (R = 0) := hx
      clear hx
      go_wp2_with fail
      go_ret
      exact ⟨by rw [HRX.out]; rfl, rfl⟩
end Go.Proofs.YtkhkhnellekofaaGreatDoor
