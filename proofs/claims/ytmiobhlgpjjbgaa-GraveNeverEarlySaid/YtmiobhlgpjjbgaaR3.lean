/- A region that draws its order: a head that only lays new blocks, a struct's block that is made anywhere among it, its store, which some operations of the head may follow, and a tail in one order. -/
import Derived.Test.YtmiobhlgpjjbgaaR2
namespace Go.Proofs.Ytmiobhlgpjjbgaa
open Go.RowKit

section
variable {P : Program} {ops : Array Oper} {md : Region.Mode} {w₀ : World}

def lexLet2 (md : Region.Mode) (ops : Array Oper) (t : Nat) : Nat → Nat → Array Bool → Bool
  | 0, k, listed => decide (Region.ready md ops listed = [k]) && decide (Region.ready md ops (listed.setIfInBounds k true) = [k + 1]) && Region.seqB md ops t (k + 2) ((listed.setIfInBounds k true).setIfInBounds (k + 1) true)
  | f + 1, k, listed => (Region.ready md ops listed).contains k && Region.free md ops listed k && lexLet2 md ops t f (k + 1) (listed.setIfInBounds k true)
def waitsFor (md : Region.Mode) (o : Oper) (j : Nat) : Bool := o.after.any fun e => Region.binds md e && e.on == j
def letB2 (md : Region.Mode) (ops : Array Oper) (n t : Nat) : Bool :=
  decide (ops.size = n + 2 + t) && Region.noSelect ops &&
  (match ops[n]? with
   | none => false
   | some al => al.guard.isNone && al.after.isEmpty && (List.range n).all fun j => match ops[j]? with
     | none => false
     | some oj => al.apart ops oj && !waitsFor md oj n && !waitsFor md oj (n + 1)) &&
  (match ops[n + 1]? with
   | none => false
   | some st => st.guard.isNone && st.dst.isNone && waitsFor md st n && (List.range n).all fun j => waitsFor md st j || (match ops[j]? with
     | none => false
     | some oj => oj.apart ops st)) &&
  ((List.range t).all fun i => match ops[n + 2 + i]? with
   | none => false
   | some tl => (List.range (n + 2)).all fun j => waitsFor md tl j) &&
  lexLet2 md ops t n 0 (Array.replicate ops.size false)

theorem wpHeadG_lex2 {n t : Nat} {Lq : Act → Prop} (hsel : Region.noSelect ops = true) :
    ∀ (l : List Oper) (k : Nat) (listed : Array Bool) (a : Act), (∀ j, j < l.length → l[j]? = ops[k + j]?) → k + l.length = n →
    lexLet2 md ops t l.length k listed = true → wpGrow P ops w₀ Lq l a →
    wpHeadG P md ops w₀ n (fun listed' a' => lexLet2 md ops t 0 n listed' = true ∧ Lq a') l.length listed a
  | [], k, listed, a, _, hk, hB, h => by
    have : k = n := by simpa using hk
    subst this
    exact ⟨hB, h⟩
  | o :: l, k, listed, a, hl, hk, hB, h => by
    have h0 : ops[k]? = some o := by simpa using (hl 0 (by simp)).symm
    simp only [List.length_cons, lexLet2, Bool.and_eq_true] at hB
    obtain ⟨⟨hr, hf⟩, hB'⟩ := hB
    have hkn : k < n := by simp only [List.length_cons] at hk; omega
    have hr' : k ∈ Region.ready md ops listed := by simpa using hr
    obtain ⟨v, hy, hK⟩ : ∃ v, YieldsG P ops w₀ o v a ∧ wpGrow P ops w₀ Lq l (a.put o.dst v) := by
      unfold wpGrow at h
      by_cases hw : Region.wanted o (yielded ops a.tmps) = true
      · rw [if_pos hw] at h
        obtain ⟨v, h1, h2⟩ := h
        exact ⟨v, .inl ⟨hw, h1⟩, h2⟩
      · rw [if_neg hw] at h
        exact ⟨undef, .inr ⟨by simpa using hw, rfl⟩, h⟩
    exact wpHeadG_first h0 (Region.noSelect_spec hsel) hkn (fun listed' a' hL j hj => by
        have h1 := hL.1
        simp only [lexLet2, Bool.and_eq_true, decide_eq_true_eq] at h1
        rw [h1.1.1] at hj
        have : j = n := by simpa using hj
        omega) l.length listed a (Region.free_spec h0 hf) hr' hy
      (wpHeadG_lex2 hsel l (k + 1) _ _ (fun j hj => by have := hl (j + 1) (by simp; omega); simpa [Nat.add_assoc, Nat.add_comm 1 j] using this) (by simp only [List.length_cons] at hk; omega) hB' hK)

theorem waits_not {o : Oper} {i j : Nat} {listed : Array Bool} (hw : waitsFor md o j = true) (hu : listed.getD j true = false) (ho : ops[i]? = some o) : i ∉ Region.ready md ops listed := fun hr => by
  obtain ⟨_, o', ho', hall⟩ := mem_ready.1 hr
  rw [ho] at ho'
  cases ho'
  obtain ⟨e, he, hb⟩ := Array.any_eq_true'.1 hw
  simp only [Bool.and_eq_true, beq_iff_eq] at hb
  have := hall e he hb.1
  rw [hb.2, getD_both hu] at this
  cases this
theorem waits_none {o : Oper} {j : Nat} (hw : waitsFor md o j = false) : ∀ e ∈ o.after, Region.binds md e = true → e.on ≠ j := fun e he hb heq => by
  unfold waitsFor at hw
  rw [Array.any_eq_false'] at hw
  have := hw e he
  simp [hb, heq] at this
theorem ready_unset {listed : Array Bool} {i k : Nat} (h : i ∈ Region.ready md ops (listed.setIfInBounds k true)) (hik : i ≠ k) (hno : ∀ o, ops[i]? = some o → waitsFor md o k = false) : i ∈ Region.ready md ops listed := by
  obtain ⟨hu, o, ho, hall⟩ := mem_ready.1 h
  refine mem_ready.2 ⟨by rw [getD_set_ne true (Ne.symm hik)] at hu; exact hu, o, ho, fun e he hb => ?_⟩
  have := hall e he hb
  rw [getD_set_ne false (Ne.symm (waits_none (hno o ho) e he hb))] at this
  exact this

theorem wp_region_let2 {id : Nat} {Q : Exit → Act → World → Prop} {a : Act} {w : World} {l : List Oper} (n t : Nat) (al st : Oper) (obj obj' : Obj) (hm : P.follows .mixedOrders = true) (hB : letB2 .any l.toArray n t = true)
    (hal : l[n]? = some al) (hst : l[n + 1]? = some st)
    (hrun : ∀ (a : Act) (W : World), (execOp a.eval al).run P W = .ok (.value (.pointer (some ⟨W.heap.size, 0, none⟩))) (W.alloc obj))
    (hhead : wpGrow P l.toArray w (fun aF => (∀ W B, W.heap[B]? = some obj → ∃ W', (execOp (aF.put al.dst (.pointer (some ⟨B, 0, none⟩))).eval st).run P W = .ok .skip W' ∧ W'.heap[B]? = some obj' ∧ W.grownBy W' (some B)) ∧
      (∀ B W, (∃ z, W = w.ext z) → w.heap.size ≤ B → W.heap[B]? = some obj' → wpList P l.toArray Q (l.drop (n + 2)) (aF.put al.dst (.pointer (some ⟨B, 0, none⟩))) W)) (l.take n) a) : (Code.region id l.toArray true).wp P Q a w := by
  generalize hSt : (fun aF : Act => ∀ W B, W.heap[B]? = some obj → ∃ W', (execOp (aF.put al.dst (.pointer (some ⟨B, 0, none⟩))).eval st).run P W = .ok .skip W' ∧ W'.heap[B]? = some obj' ∧ W.grownBy W' (some B)) = St
  generalize hLq : (fun aF : Act => (∀ W B, W.heap[B]? = some obj → ∃ W', (execOp (aF.put al.dst (.pointer (some ⟨B, 0, none⟩))).eval st).run P W = .ok .skip W' ∧ W'.heap[B]? = some obj' ∧ W.grownBy W' (some B)) ∧
      (∀ B W, (∃ z, W = w.ext z) → w.heap.size ≤ B → W.heap[B]? = some obj' → wpList P l.toArray Q (l.drop (n + 2)) (aF.put al.dst (.pointer (some ⟨B, 0, none⟩))) W)) = Lq at hhead
  simp only [letB2, Bool.and_eq_true, decide_eq_true_eq] at hB
  obtain ⟨⟨⟨⟨⟨hsz, hsel⟩, hB1⟩, hB2⟩, hB3⟩, hlex⟩ := hB
  have hal' : l.toArray[n]? = some al := by simpa using hal
  have hst' : l.toArray[n + 1]? = some st := by simpa using hst
  rw [hal'] at hB1
  rw [hst'] at hB2
  simp only [Bool.and_eq_true, List.all_eq_true, List.mem_range, Option.isNone_iff_eq_none] at hB1 hB2 hB3
  obtain ⟨⟨hg1, haf⟩, hB1⟩ := hB1
  obtain ⟨⟨⟨hg2, hd2⟩, hw2⟩, hB2⟩ := hB2
  have hselS := Region.noSelect_spec hsel
  have hdr : ∀ j, (l.drop (n + 2))[j]? = l.toArray[n + 2 + j]? := fun j => by simp [List.getElem?_drop]
  have hdl : (l.drop (n + 2)).length = t := by
    have : l.length = n + 2 + t := by rw [← hsz]; simp
    simp; omega
  generalize hops : l.toArray = ops at *
  generalize l.drop (n + 2) = tl at *
  have htl : (l.take n).length = n := by
    have : l.length = n + 2 + t := by rw [← hsz, ← hops]; simp
    simp; omega
  have H := wpHeadG_lex2 (md := .any) (n := n) (t := t) hsel (l.take n) 0 _ a (fun j hj => by
    have hj' : j < n := by rw [htl] at hj; exact hj
    rw [← hops]; simp [hj']) (by simpa using htl) (by rw [htl]; exact hlex) hhead
  rw [htl, hsz] at H
  refine wp_region_any hm ?_
  rw [hsz]
  have hn0 : (Array.replicate (n + 2 + t) false).getD n true = false := by
    rw [Array.getD_eq_getD_getElem?, Array.getElem?_eq_getElem (by simp; omega)]
    simp
  have hn1 : (Array.replicate (n + 2 + t) false).getD (n + 1) true = false := by
    rw [Array.getD_eq_getD_getElem?, Array.getElem?_eq_getElem (by simp; omega)]
    simp
  have hw0 : ({ w with drawn := w.drawn + 1 } : World) = w.ext ⟨#[], w.drawn + 1⟩ := by simp [World.ext]
  rw [hw0]
  generalize (⟨#[], w.drawn + 1⟩ : Ez) = z0
  generalize hl0 : Array.replicate (n + 2 + t) false = listed0 at *
  clear hl0 hhead hlex hw0
  have hapart : ∀ j oj, j < n → ops[j]? = some oj → al.apart ops oj = true ∧ waitsFor .any oj n = false ∧ waitsFor .any oj (n + 1) = false := fun j oj hj hoj => by
    have := hB1 j hj
    rw [hoj] at this
    simp only [Bool.and_eq_true, Bool.not_eq_true'] at this
    exact ⟨this.1.1, this.1.2, this.2⟩
  have hlate : ∀ j oj, j < n → ops[j]? = some oj → waitsFor .any st j = false → oj.apart ops st = true := fun j oj hj hoj hno => by
    have := hB2 j hj
    rw [hoj, hno] at this
    simpa using this
  have htail : ∀ (listed : Array Bool) (i j : Nat), j < n + 2 → n + 2 ≤ i → listed.getD j true = false → i ∉ Region.ready .any ops listed := fun listed i j hj hi hu hr => by
    obtain ⟨_, o, ho, _⟩ := mem_ready.1 hr
    have hlt := (Array.getElem?_eq_some_iff.1 ho).1
    have h1 := hB3 (i - (n + 2)) (by omega)
    rw [show n + 2 + (i - (n + 2)) = i by omega, ho] at h1
    simp only [List.all_eq_true, List.mem_range] at h1
    exact waits_not (h1 j hj) hu ho hr
  have hlt : ∀ (listed : Array Bool) (j : Nat), j ∈ Region.ready .any ops listed → j < n ∨ j = n ∨ j = n + 1 ∨ n + 2 ≤ j := fun listed j hj => by omega
  have hwal : ∀ t, Region.wanted al (yielded ops t) = true := fun t => by simp [Region.wanted, hg1]
  have hwst : ∀ t, Region.wanted st (yielded ops t) = true := fun t => by simp [Region.wanted, hg2]
  have hLq2 : ∀ aF, Lq aF → St aF ∧ (∀ B W, (∃ z, W = w.ext z) → w.heap.size ≤ B → W.heap[B]? = some obj' → wpList P ops Q tl (aF.put al.dst (.pointer (some ⟨B, 0, none⟩))) W) := fun aF h => by
    rw [← hLq] at h
    rw [← hSt]
    exact h
  have hSt2 : ∀ aF, St aF → ∀ W B, W.heap[B]? = some obj → ∃ W', (execOp (aF.put al.dst (.pointer (some ⟨B, 0, none⟩))).eval st).run P W = .ok .skip W' ∧ W'.heap[B]? = some obj' ∧ W.grownBy W' (some B) := fun aF h => by
    rw [← hSt] at h
    exact h
  have hSt3 : ∀ aF, (∀ W B, W.heap[B]? = some obj → ∃ W', (execOp (aF.put al.dst (.pointer (some ⟨B, 0, none⟩))).eval st).run P W = .ok .skip W' ∧ W'.heap[B]? = some obj' ∧ W.grownBy W' (some B)) → St aF := fun aF h => by
    rw [← hSt]
    exact h
  clear hLq hSt
  -- the store can be run as soon as it is ready
  have early : ∀ (f : Nat) (listed : Array Bool) (a : Act), n + 1 ∈ Region.ready .any ops (listed.setIfInBounds n true) →
      wpHeadG P .any ops w n (fun listed' a' => lexLet2 .any ops t 0 n listed' = true ∧ Lq a') f listed a → St a := by
    intro f
    induction f with
    | zero => intro listed a _ hH; exact (hLq2 _ hH.2).1
    | succ f ih =>
      intro listed a hr hH
      obtain ⟨⟨i0, hi0, hi0n⟩, hall⟩ := hH
      obtain ⟨o, v, ho, _, hH'⟩ := hall i0 hi0 hi0n
      have hw : waitsFor .any st i0 = false := by
        cases hq : waitsFor .any st i0
        · rfl
        · exfalso
          have hu := (mem_ready.1 hi0).1
          exact waits_not hq (by rw [getD_set_ne true (show n ≠ i0 by omega)]; exact hu) hst' hr
      obtain ⟨h1, h2, h3⟩ := Oper.apart_spec (hlate i0 o hi0n ho hw)
      have hst3 := ih (listed.setIfInBounds i0 true) (a.put o.dst v) (by rw [Array.setIfInBounds_comm _ _ (show i0 ≠ n by omega)]; exact ready_mono hr (by omega)) hH'
      refine hSt3 _ fun W B hb => ?_
      obtain ⟨W', r1, r2⟩ := hSt2 _ hst3 W B hb
      obtain ⟨k1, k2, k3⟩ := Oper.apart_spec (hapart i0 o hi0n ho).1
      rw [← Act.put_comm a _ v k2, execOp_put st (fun cs b => hselS (n + 1) st cs b hst') _ o.dst v h1] at r1
      exact ⟨W', r1, r2⟩
  -- behind the store
  have modeC : ∀ (f : Nat) (listed : Array Bool) (a : Act) (z : Ez) (B : Nat), w.heap.size ≤ B → (w.ext z).heap[B]? = some obj' →
      wpHeadG P .any ops w n (fun listed' a' => lexLet2 .any ops t 0 n listed' = true ∧ Lq a') f listed a →
      wpAny P .any ops Q (f + t) ((listed.setIfInBounds n true).setIfInBounds (n + 1) true) (a.put al.dst (.pointer (some ⟨B, 0, none⟩))) (w.ext z) := by
    intro f
    induction f with
    | zero =>
      intro listed a z B hBz hb hH
      have h1 := hH.1
      simp only [lexLet2, Bool.and_eq_true, decide_eq_true_eq] at h1
      have := wpAny_of_seq (P := P) (md := .any) (Q' := Q) tl (n + 2) _ (a.put al.dst (.pointer (some ⟨B, 0, none⟩))) (w.ext z) hdr (by rw [hdl]; exact h1.2) ((hLq2 _ hH.2).2 B _ ⟨z, rfl⟩ hBz hb)
      rw [hdl] at this
      rw [Nat.zero_add]
      exact this
    | succ f ih =>
      intro listed a z B hBz hb hH
      obtain ⟨⟨i0, hi0, hi0n⟩, hall⟩ := hH
      have hi0' := ready_mono (ready_mono hi0 (show i0 ≠ n by omega)) (show i0 ≠ n + 1 by omega)
      rw [show f + 1 + t = (f + t) + 1 by omega]
      refine ⟨fun h0 => (by rw [h0] at hi0'; cases hi0'), fun i hi => ?_⟩
      rcases hlt _ i hi with hlt | hlt | hlt | hlt
      · obtain ⟨_, oi, hoi, _⟩ := mem_ready.1 hi
        obtain ⟨hap, hno, hno2⟩ := hapart i oi hlt hoi
        have hr1 := ready_unset hi (show i ≠ n + 1 by omega) fun o ho => by rw [hoi] at ho; cases ho; exact hno2
        have hr := ready_unset hr1 (show i ≠ n by omega) fun o ho => by rw [hoi] at ho; cases ho; exact hno
        obtain ⟨o, v, ho, hy, hH'⟩ := hall i hr hlt
        rw [hoi] at ho
        cases ho
        obtain ⟨h1, h2, h3⟩ := Oper.apart_spec hap
        refine wpOp_of_yields hoi (hy.put' h1 (fun cs b => hselS i oi cs b hoi)) fun z' => ?_
        rw [← Array.setIfInBounds_comm _ _ (show i ≠ n + 1 by omega), ← Array.setIfInBounds_comm _ _ (show i ≠ n by omega), Act.put_comm a _ v h2, ext_ext]
        refine ih _ _ _ B hBz ?_ hH'
        rw [← ext_ext, ext_heap_lt _ _ _ (Array.getElem?_eq_some_iff.1 hb).1]
        exact hb
      · subst hlt
        have h1 := (mem_ready.1 hi).1
        exfalso
        rw [getD_set_ne true (by omega)] at h1
        have hs : i < listed.size := by
          rcases Nat.lt_or_ge i listed.size with h | h
          · exact h
          · simp [Array.getElem?_eq_none h] at h1
        simp [Array.getElem?_setIfInBounds, hs] at h1
      · subst hlt
        have h1 := (mem_ready.1 hi).1
        exfalso
        have hs : n + 1 < (listed.setIfInBounds n true).size := by
          rcases Nat.lt_or_ge (n + 1) (listed.setIfInBounds n true).size with h | h
          · exact h
          · rw [Array.getD_eq_getD_getElem?, Array.getElem?_eq_none (by simpa using h)] at h1
            simp at h1
        rw [Array.getD_eq_getD_getElem?, Array.getElem?_setIfInBounds, if_pos rfl, if_pos hs] at h1
        simp at h1
      · have hu0 : ((listed.setIfInBounds n true).setIfInBounds (n + 1) true).getD i0 true = false := by
          rw [getD_set_ne true (by omega), getD_set_ne true (by omega)]
          exact (mem_ready.1 hi0).1
        exact absurd hi (htail _ i i0 (by omega) hlt hu0)
  -- the store
  have store : ∀ (f : Nat) (listed : Array Bool) (a : Act) (z : Ez) (B : Nat), n + 1 ∈ Region.ready .any ops (listed.setIfInBounds n true) → w.heap.size ≤ B → (w.ext z).heap[B]? = some obj →
      wpHeadG P .any ops w n (fun listed' a' => lexLet2 .any ops t 0 n listed' = true ∧ Lq a') f listed a →
      wpOp P ops Q (n + 1) (wpAny P .any ops Q (f + t) ((listed.setIfInBounds n true).setIfInBounds (n + 1) true)) (a.put al.dst (.pointer (some ⟨B, 0, none⟩))) (w.ext z) := by
    intro f listed a z B hr hBz hb hH
    unfold wpOp
    simp only [hst']
    rw [if_pos (hwst _)]
    refine .inl ?_
    obtain ⟨W', hr2, hb', hgr⟩ := hSt2 _ (early f listed a hr hH) _ _ hb
    unfold Oper.wp
    rw [hr2]
    obtain ⟨z', hz'⟩ := ext_below ((below_ext w z).grown hgr (Below.size (below_ext w z)) (fun k hk => by cases hk; exact hBz))
    subst hz'
    show wpAny P .any ops Q (f + t) _ ((a.put al.dst (.pointer (some ⟨B, 0, none⟩))).put st.dst undef) (w.ext z')
    rw [hd2]
    exact modeC f listed a z' B hBz hb' hH
  -- behind the making
  have modeB : ∀ (f : Nat) (listed : Array Bool) (a : Act) (z : Ez) (B : Nat), listed.getD n true = false → listed.getD (n + 1) true = false → w.heap.size ≤ B → (w.ext z).heap[B]? = some obj →
      wpHeadG P .any ops w n (fun listed' a' => lexLet2 .any ops t 0 n listed' = true ∧ Lq a') f listed a →
      wpAny P .any ops Q (f + t + 1) (listed.setIfInBounds n true) (a.put al.dst (.pointer (some ⟨B, 0, none⟩))) (w.ext z) := by
    intro f
    induction f with
    | zero =>
      intro listed a z B hun hun1 hBz hb hH
      have h1 := hH.1
      simp only [lexLet2, Bool.and_eq_true, decide_eq_true_eq] at h1
      refine ⟨fun h0 => (by rw [h1.1.2] at h0; cases h0), fun i hi => ?_⟩
      have hi' := hi
      rw [h1.1.2] at hi'
      have hin : i = n + 1 := by simpa using hi'
      subst hin
      exact store 0 listed a z B hi hBz hb hH
    | succ f ih =>
      intro listed a z B hun hun1 hBz hb hH
      have hH0 := hH
      obtain ⟨⟨i0, hi0, hi0n⟩, hall⟩ := hH
      have hi0' := ready_mono hi0 (show i0 ≠ n by omega)
      rw [show f + 1 + t + 1 = (f + t + 1) + 1 by omega]
      refine ⟨fun h0 => (by rw [h0] at hi0'; cases hi0'), fun i hi => ?_⟩
      rcases hlt _ i hi with hlt | hlt | hlt | hlt
      · obtain ⟨_, oi, hoi, _⟩ := mem_ready.1 hi
        obtain ⟨hap, hno, hno2⟩ := hapart i oi hlt hoi
        have hr := ready_unset hi (show i ≠ n by omega) fun o ho => by rw [hoi] at ho; cases ho; exact hno
        obtain ⟨o, v, ho, hy, hH'⟩ := hall i hr hlt
        rw [hoi] at ho
        cases ho
        obtain ⟨h1, h2, h3⟩ := Oper.apart_spec hap
        refine wpOp_of_yields hoi (hy.put' h1 (fun cs b => hselS i oi cs b hoi)) fun z' => ?_
        rw [← Array.setIfInBounds_comm _ _ (show i ≠ n by omega), Act.put_comm a _ v h2, ext_ext]
        refine ih _ _ _ B (by rw [getD_set_ne true (show i ≠ n by omega)]; exact hun) (by rw [getD_set_ne true (show i ≠ n + 1 by omega)]; exact hun1) hBz ?_ hH'
        rw [← ext_ext, ext_heap_lt _ _ _ (Array.getElem?_eq_some_iff.1 hb).1]
        exact hb
      · subst hlt
        have h1 := (mem_ready.1 hi).1
        exfalso
        have hs : i < listed.size := by
          rcases Nat.lt_or_ge i listed.size with h | h
          · exact h
          · rw [Array.getD_eq_getD_getElem?, Array.getElem?_eq_none h] at hun
            simp at hun
        rw [Array.getD_eq_getD_getElem?, Array.getElem?_setIfInBounds, if_pos rfl, if_pos hs] at h1
        simp at h1
      · subst hlt
        rw [show f + t + 1 = (f + 1) + t by omega]
        exact store (f + 1) listed a z B hi hBz hb hH0
      · exact absurd hi (htail _ i (n + 1) (by omega) hlt (by rw [getD_set_ne true (by omega)]; exact hun1))
  -- ahead of it
  have modeA : ∀ (f : Nat) (listed : Array Bool) (a : Act) (z : Ez), listed.getD n true = false → listed.getD (n + 1) true = false →
      wpHeadG P .any ops w n (fun listed' a' => lexLet2 .any ops t 0 n listed' = true ∧ Lq a') f listed a →
      wpAny P .any ops Q (f + t + 2) listed a (w.ext z) := by
    have make : ∀ (f : Nat) (listed : Array Bool) (a : Act) (z : Ez), listed.getD n true = false → listed.getD (n + 1) true = false → wpHeadG P .any ops w n (fun listed' a' => lexLet2 .any ops t 0 n listed' = true ∧ Lq a') f listed a →
        wpOp P ops Q n (wpAny P .any ops Q (f + t + 1) (listed.setIfInBounds n true)) a (w.ext z) := fun f listed a z hun hun1 hH => by
      unfold wpOp
      simp only [hal']
      rw [if_pos (hwal _)]
      refine .inl ?_
      unfold Oper.wp
      rw [hrun]
      obtain ⟨z', hz'⟩ := alloc_ext (w.ext z) obj
      have hb := heap_alloc_new (w.ext z) obj
      have hsz2 : w.heap.size ≤ (w.ext z).heap.size := by rw [ext_size]; omega
      show wpAny P .any ops Q (f + t + 1) (listed.setIfInBounds n true) (a.put al.dst (.pointer (some ⟨(w.ext z).heap.size, 0, none⟩))) ((w.ext z).alloc obj)
      generalize (w.ext z).heap.size = B at *
      rw [hz', ext_ext] at hb ⊢
      exact modeB f listed a _ B hun hun1 hsz2 hb hH
    intro f
    induction f with
    | zero =>
      intro listed a z hun hun1 hH
      have hL := hH.1
      simp only [lexLet2, Bool.and_eq_true, decide_eq_true_eq] at hL
      refine ⟨fun h0 => (by rw [hL.1.1] at h0; cases h0), fun i hi => ?_⟩
      rw [hL.1.1] at hi
      have hin : i = n := by simpa using hi
      subst hin
      exact make 0 listed a z hun hun1 hH
    | succ f ih =>
      intro listed a z hun hun1 hH
      have hH0 := hH
      obtain ⟨⟨i0, hi0, hi0n⟩, hall⟩ := hH
      rw [show f + 1 + t + 2 = (f + t + 2) + 1 by omega]
      refine ⟨fun h0 => (by rw [h0] at hi0; cases hi0), fun i hi => ?_⟩
      rcases hlt _ i hi with hlt | hlt | hlt | hlt
      · obtain ⟨o, v, ho, hy, hH'⟩ := hall i hi hlt
        refine wpOp_of_yields ho hy fun z' => ?_
        rw [ext_ext]
        exact ih _ _ _ (by rw [getD_set_ne true (by omega)]; exact hun) (by rw [getD_set_ne true (by omega)]; exact hun1) hH'
      · subst hlt
        rw [show f + t + 2 = (f + 1) + t + 1 by omega]
        exact make (f + 1) listed a z hun hun1 hH0
      · subst hlt
        exact absurd hi (waits_not hw2 hun hst')
      · exact absurd hi (htail _ i n (by omega) hlt hun)
  have := modeA n listed0 a z0 hn0 hn1 H
  rw [show n + 2 + t = n + t + 2 by omega]
  exact this
end
end Go.Proofs.Ytmiobhlgpjjbgaa
