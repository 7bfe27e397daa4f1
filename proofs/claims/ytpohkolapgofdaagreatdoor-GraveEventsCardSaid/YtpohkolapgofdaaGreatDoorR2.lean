/- A region that draws its order: a head that only lays new blocks, in whatever order, and a struct's block that is made anywhere among it and stored at the end. -/
import Derived.Test.YtpohkolapgofdaaGreatDoorR1
import Derived.Test.YtpohkolapgofdaaGreatDoorK3
namespace Go.Proofs.YtpohkolapgofdaaGreatDoor
open Go.RowKit

section
variable {P : Program} {ops : Array Oper} {md : Region.Mode} {w₀ : World}

/-- One value, in every world that w₀ has grown to; what was there stays. -/
def grow (P : Program) (o : Oper) (a : Act) (w₀ : World) (K : Act → Prop) : Prop := ∃ v, (∀ z, o.quietAt P a (fun w' => ∃ z', w' = (w₀.ext z).ext z') (w₀.ext z) v) ∧ K (a.put o.dst v)
/-- The lexical walk. -/
def wpGrow (P : Program) (ops : Array Oper) (w₀ : World) (Q : Act → Prop) : List Oper → Act → Prop
  | [], a => Q a
  | o :: rest, a => if Region.wanted o (yielded ops a.tmps) then grow P o a w₀ (wpGrow P ops w₀ Q rest) else wpGrow P ops w₀ Q rest (a.put o.dst undef)
theorem wpGrow_nil {Q : Act → Prop} {a : Act} (h : Q a) : wpGrow P ops w₀ Q [] a := h
theorem wpGrow_step {Q : Act → Prop} {a : Act} {o : Oper} {rest : List Oper}
    (h : ∀ K : Act → Prop, (∀ a, wpGrow P ops w₀ Q rest a → K a) → if Region.wanted o (yielded ops a.tmps) then grow P o a w₀ K else K (a.put o.dst undef)) : wpGrow P ops w₀ Q (o :: rest) a :=
  h _ (fun _ h => h)
/-- Operation i yields v in state a, in every world that w₀ has grown to. -/
def YieldsG (P : Program) (ops : Array Oper) (w₀ : World) (o : Oper) (v : Value) (a : Act) : Prop :=
  (Region.wanted o (yielded ops a.tmps) = true ∧ ∀ z, o.quietAt P a (fun w' => ∃ z', w' = (w₀.ext z).ext z') (w₀.ext z) v) ∨ (Region.wanted o (yielded ops a.tmps) = false ∧ v = undef)
theorem YieldsG.put {oi oj : Oper} {v u : Value} {a : Act} (h1 : ∀ d, oi.dst = some d → d ∉ oj.looksAt ops) (hsj : ∀ cs b, oj.op ≠ .select cs b) (h : YieldsG P ops w₀ oj u (a.put oi.dst v)) : YieldsG P ops w₀ oj u a := by
  unfold YieldsG Oper.quietAt at *
  rw [wanted_put oj a oi.dst v h1, execOp_put oj hsj a oi.dst v h1] at h
  exact h
theorem YieldsG.put' {oi oj : Oper} {v u : Value} {a : Act} (h1 : ∀ d, oi.dst = some d → d ∉ oj.looksAt ops) (hsj : ∀ cs b, oj.op ≠ .select cs b) (h : YieldsG P ops w₀ oj u a) : YieldsG P ops w₀ oj u (a.put oi.dst v) := by
  unfold YieldsG Oper.quietAt at *
  rw [wanted_put oj a oi.dst v h1, execOp_put oj hsj a oi.dst v h1]
  exact h
theorem wpOp_of_yields {i : Nat} {o : Oper} {v : Value} {a : Act} {K : Act → World → Prop} {Q : Exit → Act → World → Prop} {z : Ez} (hi : ops[i]? = some o) (hy : YieldsG P ops w₀ o v a) (hK : ∀ z', K (a.put o.dst v) ((w₀.ext z).ext z')) : wpOp P ops Q i K a (w₀.ext z) := by
  have hK0 : K (a.put o.dst v) (w₀.ext z) := by
    have := hK ⟨#[], (w₀.ext z).drawn⟩
    simpa [World.ext] using this
  unfold wpOp
  simp only [hi]
  rcases hy with ⟨hw, hv⟩ | ⟨hw, rfl⟩
  · rw [if_pos hw]
    refine .inl ?_
    have h3 := hv z
    unfold Oper.quietAt at h3
    unfold Oper.wp
    generalize (execOp a.eval o).run P (w₀.ext z) = r at *
    cases r with
    | ok n w' =>
      cases n <;> simp only [Oper.quietUpon] at h3 <;> simp only [Oper.upon]
      case value u => obtain ⟨e1, e2⟩ := h3; rw [e1, e2]; exact hK0
      case skip => obtain ⟨e1, e2⟩ := h3; rw [e1, ← e2]; exact hK0
      case enter f args =>
        obtain ⟨e1, hc⟩ := h3
        rw [e1]
        exact hc.mono fun e w'' ⟨he, z', hw''⟩ => by subst he hw''; exact hK z'
    | halt x w' => simp only [Oper.quietUpon] at h3
  · rw [if_neg (by rw [hw]; exact Bool.false_ne_true)]
    exact hK0

/-- Whatever order is picked among the head's operations. -/
def wpHeadG (P : Program) (md : Region.Mode) (ops : Array Oper) (w₀ : World) (n : Nat) (L : Array Bool → Act → Prop) : Nat → Array Bool → Act → Prop
  | 0, listed, a => L listed a
  | f + 1, listed, a => (∃ i ∈ Region.ready md ops listed, i < n) ∧ ∀ i ∈ Region.ready md ops listed, i < n → ∃ o v, ops[i]? = some o ∧ YieldsG P ops w₀ o v a ∧ wpHeadG P md ops w₀ n L f (listed.setIfInBounds i true) (a.put o.dst v)

theorem wpHeadG_first {n i : Nat} {oi : Oper} {v : Value} {L : Array Bool → Act → Prop} (hi : ops[i]? = some oi) (hsel : ∀ (j : Nat) (o : Oper) cs b, ops[j]? = some o → o.op ≠ .select cs b) (hin : i < n)
    (hdone : ∀ listed a, L listed a → ∀ j ∈ Region.ready md ops listed, n ≤ j) :
    ∀ (f : Nat) (listed : Array Bool) (a : Act),
      (∀ j oj, ops[j]? = some oj → j ≠ i → listed.getD j true = false → (∀ e ∈ oj.after, Region.binds md e = true → e.on ≠ i) → oi.apart ops oj = true) →
      i ∈ Region.ready md ops listed → YieldsG P ops w₀ oi v a →
      wpHeadG P md ops w₀ n L f (listed.setIfInBounds i true) (a.put oi.dst v) → wpHeadG P md ops w₀ n L (f + 1) listed a := by
  intro f
  induction f with
  | zero =>
    intro listed a _ hr hy H
    refine ⟨⟨i, hr, hin⟩, fun j hj hjn => ?_⟩
    by_cases hji : j = i
    · subst hji; exact ⟨oi, v, hi, hy, H⟩
    · have := hdone _ _ H j (ready_mono hj hji)
      omega
  | succ f ih =>
    intro listed a hfree hr hy H
    refine ⟨⟨i, hr, hin⟩, fun j hj hjn => ?_⟩
    by_cases hji : j = i
    · subst hji; exact ⟨oi, v, hi, hy, H⟩
    · obtain ⟨oj, u, hoj, hyj, Hj⟩ := H.2 j (ready_mono hj hji) hjn
      obtain ⟨hjun, oj', hoj', hall⟩ := mem_ready.1 hj
      rw [hoj] at hoj'
      cases hoj'
      have hun := (mem_ready.1 hr).1
      have hnot : ∀ e ∈ oj.after, Region.binds md e = true → e.on ≠ i := fun e he hb heq => by
        have h1 := hall e he hb
        rw [heq, getD_both hun] at h1
        cases h1
      obtain ⟨h1, h2, h3⟩ := Oper.apart_spec (hfree j oj hoj hji hjun hnot)
      refine ⟨oj, u, hoj, hyj.put h1 (fun cs b => hsel j oj cs b hoj), ?_⟩
      refine ih (listed.setIfInBounds j true) (a.put oj.dst u) ?_ (ready_mono hr (Ne.symm hji)) (hy.put' h3 (fun cs b => hsel i oi cs b hi)) ?_
      · intro k ok hk hki hun hno
        refine hfree k ok hk hki ?_ hno
        by_cases hjk : j = k
        · subst hjk; exact hjun
        · rw [getD_set_ne true hjk] at hun; exact hun
      · rw [Array.setIfInBounds_comm _ _ hji, ← Act.put_comm a v u h2]
        exact Hj

/-- The head in the text's order; behind it the block that is made (number k), then the store (k + 1). -/
def lexLet (md : Region.Mode) (ops : Array Oper) : Nat → Nat → Array Bool → Bool
  | 0, k, listed => decide (Region.ready md ops listed = [k]) && decide (Region.ready md ops (listed.setIfInBounds k true) = [k + 1]) && decide (Region.ready md ops ((listed.setIfInBounds k true).setIfInBounds (k + 1) true) = [])
  | f + 1, k, listed => (Region.ready md ops listed).contains k && Region.free md ops listed k && lexLet md ops f (k + 1) (listed.setIfInBounds k true)
/-- Nothing in the head waits for, looks at or writes what operation n makes; what comes behind n waits for all. -/
def letB (md : Region.Mode) (ops : Array Oper) (n : Nat) : Bool :=
  decide (ops.size = n + 2) && Region.noSelect ops &&
  (match ops[n]? with
   | none => false
   | some al => al.guard.isNone && al.after.isEmpty && (List.range n).all fun j => match ops[j]? with
     | none => false
     | some oj => al.apart ops oj && oj.after.all fun e => e.on != n) &&
  (match ops[n + 1]? with
   | none => false
   | some st => st.guard.isNone && (List.range (n + 1)).all fun j => st.after.any fun e => Region.binds md e && e.on == j) &&
  lexLet md ops n 0 (Array.replicate ops.size false)

theorem wpHeadG_lex {n : Nat} {Lq : Act → Prop} (hsel : Region.noSelect ops = true) :
    ∀ (l : List Oper) (k : Nat) (listed : Array Bool) (a : Act), (∀ j, j < l.length → l[j]? = ops[k + j]?) → k + l.length = n →
    lexLet md ops l.length k listed = true → wpGrow P ops w₀ Lq l a →
    wpHeadG P md ops w₀ n (fun listed' a' => lexLet md ops 0 n listed' = true ∧ Lq a') l.length listed a
  | [], k, listed, a, _, hk, hB, h => by
    have : k = n := by simpa using hk
    subst this
    exact ⟨hB, h⟩
  | o :: l, k, listed, a, hl, hk, hB, h => by
    have h0 : ops[k]? = some o := by simpa using (hl 0 (by simp)).symm
    simp only [List.length_cons, lexLet, Bool.and_eq_true] at hB
    obtain ⟨⟨hr, hf⟩, hB'⟩ := hB
    have hkn : k < n := by simp only [List.length_cons] at hk; omega
    have hr' : k ∈ Region.ready md ops listed := by simpa using hr
    obtain ⟨v, hy, hK⟩ : ∃ v, YieldsG P ops w₀ o v a ∧ wpGrow P ops w₀ Lq l (a.put o.dst v) := by
      unfold wpGrow at h
      by_cases hw : Region.wanted o (yielded ops a.tmps) = true
      · rw [if_pos hw] at h
        obtain ⟨v, h1, h2⟩ := h
        exact ⟨v, .inl ⟨hw, h1⟩, h2⟩
      · rw [if_neg hw] at h
        exact ⟨undef, .inr ⟨by simpa using hw, rfl⟩, h⟩
    exact wpHeadG_first h0 (Region.noSelect_spec hsel) hkn (fun listed' a' hL j hj => by
        have h1 := hL.1
        simp only [lexLet, Bool.and_eq_true, decide_eq_true_eq] at h1
        rw [h1.1.1] at hj
        have : j = n := by simpa using hj
        omega) l.length listed a (Region.free_spec h0 hf) hr' hy
      (wpHeadG_lex hsel l (k + 1) _ _ (fun j hj => by have := hl (j + 1) (by simp; omega); simpa [Nat.add_assoc, Nat.add_comm 1 j] using this) (by simp only [List.length_cons] at hk; omega) hB' hK)

theorem ext_ext' (w : World) (z z' : Ez) : ∃ z'', (w.ext z).ext z' = w.ext z'' := ⟨z.and z', ext_ext w z z'⟩
theorem alloc_ext (w : World) (o : Obj) : ∃ z, w.alloc o = w.ext z := ext_below (B_alloc (Below.refl _ _) o)

theorem wp_region_let {id : Nat} {Q : Exit → Act → World → Prop} {a : Act} {w : World} {l : List Oper} (n : Nat) (al st : Oper) (obj obj' : Obj) (hm : P.follows .mixedOrders = true) (hB : letB .any l.toArray n = true)
    (hal : l[n]? = some al) (hst : l[n + 1]? = some st)
    (hrun : ∀ (a : Act) (W : World), (execOp a.eval al).run P W = .ok (.value (.pointer (some ⟨W.heap.size, 0, none⟩))) (W.alloc obj))
    (hhead : wpGrow P l.toArray w (fun aF => (∀ W B, W.heap[B]? = some obj → ∃ W', (execOp (aF.put al.dst (.pointer (some ⟨B, 0, none⟩))).eval st).run P W = .ok .skip W' ∧ W'.heap[B]? = some obj' ∧ W.grownBy W' (some B)) ∧
      (∀ B W, (∃ z, W = w.ext z) → w.heap.size ≤ B → W.heap[B]? = some obj' → Q .normal ((aF.put al.dst (.pointer (some ⟨B, 0, none⟩))).put st.dst undef) W)) (l.take n) a) : (Code.region id l.toArray true).wp P Q a w := by
  generalize hLq : (fun aF : Act => (∀ W B, W.heap[B]? = some obj → ∃ W', (execOp (aF.put al.dst (.pointer (some ⟨B, 0, none⟩))).eval st).run P W = .ok .skip W' ∧ W'.heap[B]? = some obj' ∧ W.grownBy W' (some B)) ∧
      (∀ B W, (∃ z, W = w.ext z) → w.heap.size ≤ B → W.heap[B]? = some obj' → Q .normal ((aF.put al.dst (.pointer (some ⟨B, 0, none⟩))).put st.dst undef) W)) = Lq at hhead
  simp only [letB, Bool.and_eq_true, decide_eq_true_eq] at hB
  obtain ⟨⟨⟨⟨hsz, hsel⟩, hB1⟩, hB2⟩, hlex⟩ := hB
  have hal' : l.toArray[n]? = some al := by simpa using hal
  have hst' : l.toArray[n + 1]? = some st := by simpa using hst
  rw [hal'] at hB1
  rw [hst'] at hB2
  simp only [Bool.and_eq_true, List.all_eq_true, List.mem_range, Option.isNone_iff_eq_none] at hB1 hB2
  obtain ⟨⟨hg1, haf⟩, hB1⟩ := hB1
  obtain ⟨hg2, hB2⟩ := hB2
  have hselS := Region.noSelect_spec hsel
  generalize hops : l.toArray = ops at *
  have htl : (l.take n).length = n := by
    have : l.length = n + 2 := by rw [← hsz, ← hops]; simp
    simp; omega
  have H := wpHeadG_lex (md := .any) (n := n) hsel (l.take n) 0 _ a (fun j hj => by
    have hj' : j < n := by rw [htl] at hj; exact hj
    rw [← hops]; simp [hj']) (by simpa using htl) (by rw [htl]; exact hlex) hhead
  rw [htl, hsz] at H
  refine wp_region_any hm ?_
  rw [hsz]
  have hs0 : (Array.replicate (n + 2) false).size = n + 2 := by simp
  have hn0 : (Array.replicate (n + 2) false).getD n true = false := by simp
  have hn1 : (Array.replicate (n + 2) false).getD (n + 1) true = false := by simp
  have hw0 : ({ w with drawn := w.drawn + 1 } : World) = w.ext ⟨#[], w.drawn + 1⟩ := by simp [World.ext]
  rw [hw0]
  generalize (⟨#[], w.drawn + 1⟩ : Ez) = z0
  generalize hl0 : Array.replicate (n + 2) false = listed0 at *
  clear hl0 hhead hlex hw0
  have hapart : ∀ j oj, j < n → ops[j]? = some oj → al.apart ops oj = true ∧ ∀ e ∈ oj.after, e.on ≠ n := fun j oj hj hoj => by
    have := hB1 j hj
    rw [hoj] at this
    simp only [Bool.and_eq_true, Array.all_eq_true', bne_iff_ne, ne_eq] at this
    exact ⟨this.1, fun e he => this.2 e he⟩
  have hwait : ∀ (listed : Array Bool) (j : Nat), j < n + 1 → listed.getD j true = false → n + 1 ∉ Region.ready .any ops listed := fun listed j hj hun hr => by
    obtain ⟨_, o, ho, hall⟩ := mem_ready.1 hr
    rw [hst'] at ho
    cases ho
    obtain ⟨e, he, hb⟩ := Array.any_eq_true'.1 (hB2 j hj)
    simp only [Bool.and_eq_true, beq_iff_eq] at hb
    have := hall e he hb.1
    rw [hb.2, getD_both hun] at this
    cases this
  have hlt : ∀ (listed : Array Bool) (j : Nat), j ∈ Region.ready .any ops listed → j < n ∨ j = n ∨ j = n + 1 := fun listed j hj => by
    obtain ⟨_, o, ho, _⟩ := mem_ready.1 hj
    have := (Array.getElem?_eq_some_iff.1 ho).1
    omega
  have hwal : ∀ t, Region.wanted al (yielded ops t) = true := fun t => by simp [Region.wanted, hg1]
  have hwst : ∀ t, Region.wanted st (yielded ops t) = true := fun t => by simp [Region.wanted, hg2]
  -- the store
  have last : ∀ (listed : Array Bool) (aF : Act) (z : Ez) (B : Nat), Lq aF → lexLet .any ops 0 n listed = true → w.heap.size ≤ B → (w.ext z).heap[B]? = some obj →
      wpAny P .any ops Q 1 (listed.setIfInBounds n true) (aF.put al.dst (.pointer (some ⟨B, 0, none⟩))) (w.ext z) := fun listed aF z B hq hL hBz hb => by
    rw [← hLq] at hq
    obtain ⟨hstore, h⟩ := hq
    simp only [lexLet, Bool.and_eq_true, decide_eq_true_eq] at hL
    refine ⟨fun h0 => (by rw [hL.1.2] at h0; cases h0), fun i hi => ?_⟩
    rw [hL.1.2] at hi
    have hin : i = n + 1 := by simpa using hi
    subst hin
    unfold wpOp
    simp only [hst']
    rw [if_pos (hwst _)]
    refine .inl ?_
    obtain ⟨W', hr, hb', hgr⟩ := hstore _ _ hb
    unfold Oper.wp
    rw [hr]
    refine ⟨hL.2, h B W' ?_ hBz hb'⟩
    exact ext_below ((below_ext w z).grown hgr (Below.size (below_ext w z)) (fun k hk => by cases hk; exact hBz))
  -- behind the making
  have modeB : ∀ (f : Nat) (listed : Array Bool) (a : Act) (z : Ez) (B : Nat), listed.getD n true = false → w.heap.size ≤ B → (w.ext z).heap[B]? = some obj →
      wpHeadG P .any ops w n (fun listed' a' => lexLet .any ops 0 n listed' = true ∧ Lq a') f listed a →
      wpAny P .any ops Q (f + 1) (listed.setIfInBounds n true) (a.put al.dst (.pointer (some ⟨B, 0, none⟩))) (w.ext z) := by
    intro f
    induction f with
    | zero =>
      intro listed a z B _ hBz hb hH
      exact last listed a z B hH.2 hH.1 hBz hb
    | succ f ih =>
      intro listed a z B hun hBz hb hH
      obtain ⟨⟨i0, hi0, hi0n⟩, hall⟩ := hH
      have hi0' := ready_mono hi0 (show i0 ≠ n by omega)
      refine ⟨fun h0 => (by rw [h0] at hi0'; cases hi0'), fun i hi => ?_⟩
      have hin : i ≠ n := by
        rintro rfl
        have := (mem_ready.1 hi).1
        have hs : i < listed.size := by
          rcases Nat.lt_or_ge i listed.size with h | h
          · exact h
          · simp [Array.getElem?_eq_none h] at hun
        simp [Array.getElem?_setIfInBounds, hs] at this
      rcases hlt _ i hi with hlt | hlt | hlt
      · obtain ⟨hu, oi, hoi, hal2⟩ := mem_ready.1 hi
        obtain ⟨hap, hno⟩ := hapart i oi hlt hoi
        have hr : i ∈ Region.ready .any ops listed := mem_ready.2 ⟨by rw [getD_set_ne true (Ne.symm hin)] at hu; exact hu, oi, hoi, fun e he hb => by
          have := hal2 e he hb
          rw [getD_set_ne false (Ne.symm (hno e he))] at this
          exact this⟩
        obtain ⟨o, v, ho, hy, hH'⟩ := hall i hr hlt
        rw [hoi] at ho
        cases ho
        obtain ⟨h1, h2, h3⟩ := Oper.apart_spec hap
        refine wpOp_of_yields hoi (hy.put' h1 (fun cs b => hselS i oi cs b hoi)) fun z' => ?_
        rw [← Array.setIfInBounds_comm _ _ hin, Act.put_comm a _ v h2, ext_ext]
        refine ih _ _ _ B (by rw [getD_set_ne true hin]; exact hun) hBz ?_ hH'
        rw [← ext_ext, ext_heap_lt _ _ _ (Array.getElem?_eq_some_iff.1 hb).1]
        exact hb
      · exact absurd hlt hin
      · subst hlt
        have hu0 : (listed.setIfInBounds n true).getD i0 true = false := by rw [getD_set_ne true (by omega)]; exact (mem_ready.1 hi0).1
        exact absurd hi (hwait _ i0 (by omega) hu0)
  -- ahead of it
  have modeA : ∀ (f : Nat) (listed : Array Bool) (a : Act) (z : Ez), listed.getD n true = false →
      wpHeadG P .any ops w n (fun listed' a' => lexLet .any ops 0 n listed' = true ∧ Lq a') f listed a →
      wpAny P .any ops Q (f + 2) listed a (w.ext z) := by
    have make : ∀ (f : Nat) (listed : Array Bool) (a : Act) (z : Ez), listed.getD n true = false → wpHeadG P .any ops w n (fun listed' a' => lexLet .any ops 0 n listed' = true ∧ Lq a') f listed a →
        wpOp P ops Q n (wpAny P .any ops Q (f + 1) (listed.setIfInBounds n true)) a (w.ext z) := fun f listed a z hun hH => by
      unfold wpOp
      simp only [hal']
      rw [if_pos (hwal _)]
      refine .inl ?_
      unfold Oper.wp
      rw [hrun]
      obtain ⟨z', hz'⟩ := alloc_ext (w.ext z) obj
      have hb := heap_alloc_new (w.ext z) obj
      have hsz2 : w.heap.size ≤ (w.ext z).heap.size := by rw [ext_size]; omega
      show wpAny P .any ops Q (f + 1) (listed.setIfInBounds n true) (a.put al.dst (.pointer (some ⟨(w.ext z).heap.size, 0, none⟩))) ((w.ext z).alloc obj)
      generalize (w.ext z).heap.size = B at *
      rw [hz', ext_ext] at hb ⊢
      exact modeB f listed a _ B hun hsz2 hb hH
    intro f
    induction f with
    | zero =>
      intro listed a z hun hH
      have hL := hH.1
      simp only [lexLet, Bool.and_eq_true, decide_eq_true_eq] at hL
      refine ⟨fun h0 => (by rw [hL.1.1] at h0; cases h0), fun i hi => ?_⟩
      rw [hL.1.1] at hi
      have hin : i = n := by simpa using hi
      subst hin
      exact make 0 listed a z hun hH
    | succ f ih =>
      intro listed a z hun hH
      obtain ⟨⟨i0, hi0, hi0n⟩, hall⟩ := hH
      refine ⟨fun h0 => (by rw [h0] at hi0; cases hi0), fun i hi => ?_⟩
      rcases hlt _ i hi with hlt | hlt | hlt
      · obtain ⟨o, v, ho, hy, hH'⟩ := hall i hi hlt
        refine wpOp_of_yields ho hy fun z' => ?_
        rw [ext_ext]
        exact ih _ _ _ (by rw [getD_set_ne true (by omega)]; exact hun) hH'
      · subst hlt
        exact make (f + 1) listed a z hun ⟨⟨i0, hi0, hi0n⟩, hall⟩
      · subst hlt
        exact absurd hi (hwait _ i0 (by omega) (mem_ready.1 hi0).1)
  exact modeA n listed0 a z0 hn0 H
end
theorem quietg {P : Program} {f : FuncId} {args : Array Value} {W : World} {v : Value} (h : Calls P f args W (Ret W v)) : Calls P f args W fun e w'' => e = .returned v ∧ ∃ z, w'' = W.ext z := h
theorem quietg0 {P : Program} {f : FuncId} {args : Array Value} {W : World} {v : Value} (h : Calls P f args W (Ret0 W v)) : Calls P f args W fun e w'' => e = .returned v ∧ ∃ z, w'' = W.ext z :=
  h.mono fun _ _ ⟨he, hw⟩ => ⟨he, hw ▸ ext_below (Below.refl _ _)⟩
/-- A struct of n cells is stored into a block that held n cells. -/
theorem G_set6 {w : World} {g : Nat} {z0 z1 z2 z3 z4 z5 a b c d e f : Value} {t : TypeId} {fr : Nat × Nat} (h : w.heap[g]? = some (.cells #[z0, z1, z2, z3, z4, z5] t fr)) :
    ((((((w.setCell ⟨g, 0, none⟩ a).setCell ⟨g, 1, none⟩ b).setCell ⟨g, 2, none⟩ c).setCell ⟨g, 3, none⟩ d).setCell ⟨g, 4, none⟩ e).setCell ⟨g, 5, none⟩ f).heap[g]? = some (.cells #[a, b, c, d, e, f] t fr) := by
  have := Joins.block_setCell (i := 5) (Joins.block_setCell (i := 4) (Joins.block_setCell (i := 3) (Joins.block_setCell (i := 2) (Joins.block_setCell (i := 1) (Joins.block_setCell (i := 0) h a) b) c) d) e) f
  simpa using this
theorem grown_set6 (w : World) (g : Nat) (a b c d e f : Value) :
    w.grownBy ((((((w.setCell ⟨g, 0, none⟩ a).setCell ⟨g, 1, none⟩ b).setCell ⟨g, 2, none⟩ c).setCell ⟨g, 3, none⟩ d).setCell ⟨g, 4, none⟩ e).setCell ⟨g, 5, none⟩ f) (some g) :=
  grown_trans (grown_trans (grown_trans (grown_trans (grown_trans (grown_set w g 0 a) (grown_set _ g 1 b)) (grown_set _ g 2 c)) (grown_set _ g 3 d)) (grown_set _ g 4 e)) (grown_set _ g 5 f)
end Go.Proofs.YtpohkolapgofdaaGreatDoor
