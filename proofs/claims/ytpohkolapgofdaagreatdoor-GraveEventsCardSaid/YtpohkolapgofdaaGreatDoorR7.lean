/- A region that draws its order, by an invariant: each operation's value is known up to a predicate of the value and the world, which stays true as the world grows. -/
/- A region that draws its order, by an invariant: where the last operations write slots that the others read. -/
/- A region that draws its order, by an invariant over what has been done: for regions that store. -/
/- A region that draws its order, whose values are known ahead, with stores that come in one order among operations that only lay new blocks. -/
import Derived.StillTail
import Derived.Test.YtpohkolapgofdaaGreatDoorK0
import Derived.Test.YtpohkolapgofdaaGreatDoorK3
namespace Go.Proofs.YtpohkolapgofdaaGreatDoor

section
variable {P : Program} {ops : Array Oper} {md : Region.Mode} {w₀ : World}
/-- An operation yields a value, and the world behind it. -/
def getsV (P : Program) (o : Oper) (a : Act) (w : World) (K : Value → World → Prop) : Prop :=
  match (execOp a.eval o).run P w with
  | .ok (.value v) w' => K v w'
  | .ok .skip w' => K undef w'
  | .ok (.enter f args) w' => Calls P f args w' fun e w'' => ∃ v, e = .returned v ∧ K v w''
  | _ => False
theorem gets_wp {o : Oper} {a : Act} {w : World} {K : Value → World → Prop} {Q : Exit → Act → World → Prop} (h : getsV P o a w K) {K' : Act → World → Prop} (hk : ∀ v w', K v w' → K' (a.put o.dst v) w') : o.wp P a w K' Q := by
  unfold getsV at h
  unfold Oper.wp
  generalize (execOp a.eval o).run P w = r at *
  cases r with
  | ok n w' =>
    cases n <;> simp only at h <;> simp only [Oper.upon]
    case value u => exact hk _ _ h
    case skip => exact hk _ _ h
    case enter f args =>
      refine h.mono ?_
      rintro e w'' ⟨v, rfl, hv⟩
      exact hk _ _ hv
  | halt x w' => simp only at h
theorem gets_same {o : Oper} {a b : Act} {w : World} {K : Value → World → Prop} (he : execOp a.eval o = execOp b.eval o) (h : getsV P o a w K) : getsV P o b w K := by
  unfold getsV at *
  rwa [← he]

def dstAt (ops : Array Oper) (t : Tmp) (i : Nat) : Prop := ∃ o, ops[i]? = some o ∧ o.dst = some t
/-- The operations of L have put their values, and nothing else has changed. -/
structure Filled (ops : Array Oper) (a0 : Act) (L : Nat → Prop) (f : Nat → Value) (a : Act) : Prop where
  defers : a.defers = a0.defers
  size : a.tmps.size = a0.tmps.size
  out : ∀ t, (∀ i, L i → ¬ dstAt ops t i) → a.tmps[t]? = a0.tmps[t]?
  ins : ∀ t i, L i → dstAt ops t i → t < a0.tmps.size → a.tmps[t]? = some (f i)
def apartDst (ops : Array Oper) : Bool := (List.range ops.size).all fun i => (List.range ops.size).all fun j => i == j || (match (ops[i]?).bind (·.dst), (ops[j]?).bind (·.dst) with | some x, some y => x != y | _, _ => true)
theorem dst_lt {t : Tmp} {i : Nat} (h : dstAt ops t i) : i < ops.size := by
  obtain ⟨o, h, _⟩ := h
  exact (Array.getElem?_eq_some_iff.1 h).1
theorem apart_one (h : apartDst ops = true) {t : Tmp} {i j : Nat} (hi : dstAt ops t i) (hj : dstAt ops t j) : i = j := by
  unfold apartDst at h
  rw [List.all_eq_true] at h
  have h1 := h i (List.mem_range.2 (dst_lt hi))
  rw [List.all_eq_true] at h1
  have h2 := h1 j (List.mem_range.2 (dst_lt hj))
  obtain ⟨oi, a1, a2⟩ := hi
  obtain ⟨oj, b1, b2⟩ := hj
  rw [a1, b1] at h2
  simpa [a2, b2] using h2
theorem Filled.put (hd : apartDst ops = true) {a0 a : Act} {L : Nat → Prop} {f g : Nat → Value} (h : Filled ops a0 L f a) {i : Nat} {o : Oper} {v : Value} (ho : ops[i]? = some o) (hi : ¬ L i) (hg : ∀ k, L k → g k = f k) (hv : g i = v) :
    Filled ops a0 (fun k => L k ∨ k = i) g (a.put o.dst v) := by
  cases hdo : o.dst with
  | none =>
    refine ⟨h.defers, h.size, fun t ht => h.out t fun k hk => ht k (.inl hk), fun t k hk hdk hlt => ?_⟩
    rcases hk with hk | rfl
    · rw [hg k hk]; exact h.ins t k hk hdk hlt
    · obtain ⟨o', h1, h2⟩ := hdk
      rw [ho] at h1
      simp only [Option.some.injEq] at h1
      rw [← h1, hdo] at h2
      cases h2
  | some d =>
    have hdi : dstAt ops d i := ⟨o, ho, hdo⟩
    refine ⟨h.defers, by simp [Act.put, h.size], fun t ht => ?_, fun t k hk hdk hlt => ?_⟩
    · have hne : d ≠ t := fun e => ht i (.inr rfl) (e ▸ hdi)
      simp only [Act.put, Array.getElem?_setIfInBounds_ne hne]
      exact h.out t fun k hk => ht k (.inl hk)
    · rcases hk with hk | rfl
      · have hne : d ≠ t := fun e => hi (by rw [apart_one hd hdi (e ▸ hdk)]; exact hk)
        simp only [Act.put, Array.getElem?_setIfInBounds_ne hne]
        rw [hg k hk]
        exact h.ins t k hk hdk hlt
      · have he : d = t := by
          obtain ⟨o', h1, h2⟩ := hdk
          rw [ho] at h1
          simp only [Option.some.injEq] at h1
          rw [← h1, hdo] at h2
          simpa using h2
        subst he
        simp only [Act.put]
        rw [Array.getElem?_setIfInBounds_self_of_lt (by rw [h.size]; exact hlt), hv]
theorem Filled.same {a0 a b : Act} {f g : Nat → Value} (ha : Filled ops a0 (fun i => i < ops.size) f a) (hb : Filled ops a0 (fun i => i < ops.size) f b) : a = b := by
  obtain ⟨ta, da⟩ := a
  obtain ⟨tb, db⟩ := b
  have h1 : da = db := ha.defers.trans hb.defers.symm
  subst h1
  congr 1
  refine Array.ext_getElem? fun t => ?_
  show (⟨ta, da⟩ : Act).tmps[t]? = (⟨tb, da⟩ : Act).tmps[t]?
  by_cases hlt : t < a0.tmps.size
  · by_cases hx : ∃ i, dstAt ops t i
    · obtain ⟨i, hi⟩ := hx
      rw [ha.ins t i (dst_lt hi) hi hlt, hb.ins t i (dst_lt hi) hi hlt]
    · rw [ha.out t fun i _ hi => hx ⟨i, hi⟩, hb.out t fun i _ hi => hx ⟨i, hi⟩]
  · rw [Array.getElem?_eq_none (by rw [ha.size]; omega), Array.getElem?_eq_none (by rw [hb.size]; omega)]
/-- All values are put, in lexical order. -/
def fillTo (ops : Array Oper) (a0 : Act) (f : Nat → Value) : Nat → Act
  | 0 => a0
  | n + 1 => (fillTo ops a0 f n).put ((ops[n]?).bind (·.dst)) (f n)
theorem fill_filled (hd : apartDst ops = true) (a0 : Act) (f : Nat → Value) : ∀ n, n ≤ ops.size → Filled ops a0 (fun i => i < n) f (fillTo ops a0 f n)
  | 0, _ => ⟨rfl, rfl, fun _ _ => rfl, fun _ _ h => absurd h (Nat.not_lt_zero _)⟩
  | n + 1, h => by
    have ih := fill_filled hd a0 f n (by omega)
    have ho : ops[n]? = some ops[n] := Array.getElem?_eq_getElem (by omega)
    have h2 := ih.put hd (g := f) ho (Nat.lt_irrefl n) (fun _ _ => rfl) rfl
    rw [fillTo, ho]
    refine ⟨h2.defers, h2.size, fun t ht => h2.out t fun i hi => ht i ?_, fun t i hi => h2.ins t i ?_⟩
    · rcases hi with hi | rfl
      · exact Nat.lt_succ_of_lt hi
      · exact Nat.lt_succ_self _
    · rcases Nat.lt_succ_iff_lt_or_eq.1 hi with hi | hi
      · exact .inl hi
      · exact .inr hi
/-- Each operation waits, by an edge that binds, for those whose slots it reads, and for earlier ones only. -/
def fedBy (md : Region.Mode) (ops : Array Oper) : Bool := (List.range ops.size).all fun i => match ops[i]? with
  | none => true
  | some o => o.guard.isNone && (o.after.all fun e => !Region.binds md e || decide (e.on < i)) && o.op.operands.toList.all fun x => match x with
    | .tmp t => (List.range ops.size).all fun j => (match ops[j]? with | some oj => oj.dst != some t || o.after.any (fun e => Region.binds md e && e.on == j) | none => true)
    | _ => true
theorem fed_of (h : fedBy md ops = true) {i : Nat} {o : Oper} (ho : ops[i]? = some o) : o.guard = none ∧ (∀ e ∈ o.after, Region.binds md e = true → e.on < i) ∧ ∀ t, .tmp t ∈ o.op.operands → ∀ j, dstAt ops t j → ∃ e ∈ o.after, Region.binds md e = true ∧ e.on = j := by
  unfold fedBy at h
  rw [List.all_eq_true] at h
  have h1 := h i (List.mem_range.2 (Array.getElem?_eq_some_iff.1 ho).1)
  rw [ho] at h1
  simp only [Bool.and_eq_true, Option.isNone_iff_eq_none, List.all_eq_true] at h1
  obtain ⟨⟨h1, h2⟩, h3⟩ := h1
  refine ⟨h1, fun e he hb => ?_, fun t ht j hj => ?_⟩
  · rw [Array.all_eq_true_iff_forall_mem] at h2
    have := h2 e he
    rw [hb] at this
    simpa using this
  · have h4 := h3 (.tmp t) (Array.mem_toList_iff.2 ht)
    simp only [List.all_eq_true] at h4
    have h5 := h4 j (List.mem_range.2 (dst_lt hj))
    obtain ⟨oj, b1, b2⟩ := hj
    rw [b1] at h5
    simp only [b2, bne_self_eq_false, Bool.false_or] at h5
    rw [Array.any_eq_true'] at h5
    obtain ⟨e, he, h6⟩ := h5
    simp only [Bool.and_eq_true, beq_iff_eq] at h6
    exact ⟨e, he, h6.1, h6.2⟩
theorem cnt_le (l : List Nat) (p q : Nat → Bool) (h : ∀ x, q x = true → p x = true) : l.countP q ≤ l.countP p := List.countP_mono_left fun x _ => h x
theorem cnt_lt (p q : Nat → Bool) (h : ∀ x, q x = true → p x = true) (i : Nat) (hp : p i = true) (hq : q i = false) : ∀ l : List Nat, i ∈ l → l.countP q < l.countP p
  | [], hi => by cases hi
  | x :: l, hi => by
    rw [List.countP_cons, List.countP_cons]
    by_cases hx : x = i
    · subst hx
      rw [hp, hq]
      have := cnt_le l p q h
      simp
      omega
    · have := cnt_lt p q h i hp hq l (by rcases List.mem_cons.1 hi with h | h; exact absurd h.symm hx; exact h)
      have h2 := h x
      cases hqx : q x
      · simp; omega
      · rw [h2 hqx]; simp; omega
def openCnt (ops : Array Oper) (listed : Array Bool) : Nat := (List.range ops.size).countP fun i => !listed.getD i false
theorem wpAny_inv {Q : Exit → Act → World → Prop} {a0 : Act} {V : Nat → Value → World → Prop} (hd : apartDst ops = true) (hf : fedBy md ops = true) (hsel : Region.noSelect ops = true) (hmono : ∀ i v w z, V i v w → V i v (w.ext z))
    (hstep : ∀ i o, ops[i]? = some o → ∀ f z, (∀ e ∈ o.after, Region.binds md e = true → V e.on (f e.on) (w₀.ext z)) → getsV P o (fillTo ops a0 f ops.size) (w₀.ext z) (fun v w' => V i v w' ∧ ∃ z', w' = (w₀.ext z).ext z'))
    (hend : ∀ f z, (∀ i, i < ops.size → V i (f i) (w₀.ext z)) → Q .normal (fillTo ops a0 f ops.size) (w₀.ext z)) :
    ∀ (fuel : Nat) (listed : Array Bool) (f : Nat → Value) (a : Act) (z : Ez), listed.size = ops.size → openCnt ops listed ≤ fuel → Filled ops a0 (fun i => listed.getD i false = true) f a → (∀ i, listed.getD i false = true → V i (f i) (w₀.ext z)) →
      wpAny P md ops Q fuel listed a (w₀.ext z) := by
  intro fuel
  have hall : ∀ listed : Array Bool, listed.size = ops.size → Region.ready md ops listed = [] → ∀ i, i < ops.size → listed.getD i false = true := by
    intro listed hs hr i
    induction i using Nat.strongRecOn with
    | _ i ih =>
      intro hi
      have ho : ops[i]? = some ops[i] := Array.getElem?_eq_getElem hi
      cases hl : listed.getD i false with
      | true => rfl
      | false =>
        exfalso
        have : i ∈ Region.ready md ops listed := by
          rw [mem_ready]
          refine ⟨?_, _, ho, fun e he hb => ?_⟩
          · have hlt : i < listed.size := by omega
            simp only [Array.getD, hlt, dite_true] at hl ⊢
            exact hl
          · have hlt := (fed_of hf ho).2.1 e he hb
            exact ih e.on hlt (by omega)
        rw [hr] at this
        cases this
  have hfin : ∀ (listed : Array Bool) (f : Nat → Value) (a : Act) (z : Ez), listed.size = ops.size → Filled ops a0 (fun i => listed.getD i false = true) f a → (∀ i, listed.getD i false = true → V i (f i) (w₀.ext z)) → Region.ready md ops listed = [] → Q .normal a (w₀.ext z) := by
    intro listed f a z hs hF hV hr
    have h1 := hall listed hs hr
    have h2 : Filled ops a0 (fun i => i < ops.size) f a := ⟨hF.defers, hF.size, fun t ht => hF.out t fun i hi hdi => ht i (dst_lt hdi) hdi, fun t i hi => hF.ins t i (h1 i hi)⟩
    rw [h2.same (g := f) (fill_filled hd a0 f ops.size (Nat.le_refl _))]
    exact hend f z fun i hi => hV i (h1 i hi)
  induction fuel with
  | zero =>
    intro listed f a z hs hc hF hV
    have hr : Region.ready md ops listed = [] := by
      rw [List.eq_nil_iff_forall_not_mem]
      intro i hi
      obtain ⟨h1, o, ho, _⟩ := mem_ready.1 hi
      have h2 := getD_both h1
      unfold openCnt at hc
      have h3 : (List.range ops.size).countP (fun i => !listed.getD i false) = 0 := by omega
      rw [List.countP_eq_zero] at h3
      have h4 := h3 i (List.mem_range.2 (Array.getElem?_eq_some_iff.1 ho).1)
      rw [h2] at h4
      simp at h4
    exact ⟨hr, hfin listed f a z hs hF hV hr⟩
  | succ fuel ih =>
    intro listed f a z hs hc hF hV
    refine ⟨hfin listed f a z hs hF hV, fun i hi => ?_⟩
    obtain ⟨h1, o, ho, haf⟩ := mem_ready.1 hi
    have h2 := getD_both h1
    have hlt : i < ops.size := (Array.getElem?_eq_some_iff.1 ho).1
    obtain ⟨hg, hbe, hfd⟩ := fed_of hf ho
    have hw : Region.wanted o (yielded ops a.tmps) = true := by simp [Region.wanted, hg]
    unfold wpOp
    simp only [ho]
    rw [if_pos hw]
    refine .inl ?_
    have hFA := fill_filled hd a0 f ops.size (Nat.le_refl _)
    have hev : execOp (fillTo ops a0 f ops.size).eval o = execOp a.eval o := by
      refine execOp_congr o (fun cs b => Region.noSelect_spec hsel i o cs b ho) fun x hx => ?_
      cases x with
      | tmp t =>
        show (fillTo ops a0 f ops.size).tmps.getD t undef = a.tmps.getD t undef
        have key : (fillTo ops a0 f ops.size).tmps[t]? = a.tmps[t]? := by
          by_cases hx2 : ∃ j, dstAt ops t j
          · obtain ⟨j, hj⟩ := hx2
            obtain ⟨e, he, hb, hej⟩ := hfd t hx j hj
            have hlj := haf e he hb
            rw [hej] at hlj
            by_cases htl : t < a0.tmps.size
            · rw [hFA.ins t j (dst_lt hj) hj htl, hF.ins t j hlj hj htl]
            · rw [Array.getElem?_eq_none (by rw [hFA.size]; exact Nat.le_of_not_lt htl), Array.getElem?_eq_none (by rw [hF.size]; exact Nat.le_of_not_lt htl)]
          · rw [hFA.out t fun j _ hj => hx2 ⟨j, hj⟩, hF.out t fun j _ hj => hx2 ⟨j, hj⟩]
        rw [Array.getD_eq_getD_getElem?, Array.getD_eq_getD_getElem?, key]
      | _ => rfl
    have hst := gets_same hev (hstep i o ho f z fun e he hb => hV e.on (haf e he hb))
    refine gets_wp hst ?_
    rintro v w' ⟨hv, z', rfl⟩
    rw [ext_ext] at hv ⊢
    have hne : ¬ (listed.getD i false = true) := by rw [h2]; exact Bool.false_ne_true
    have hput := hF.put hd (g := fun k => if k = i then v else f k) ho hne (fun k hk => if_neg (by rintro rfl; exact hne hk)) (if_pos rfl)
    have hset : ∀ k, (listed.setIfInBounds i true).getD k false = true ↔ (listed.getD k false = true ∨ k = i) := by
      intro k
      by_cases hk : i = k
      · subst hk
        have : i < listed.size := by omega
        simp [this]
      · rw [getD_set_ne false hk]
        exact ⟨.inl, fun h => h.elim id fun e => absurd e.symm hk⟩
    refine ih _ (fun k => if k = i then v else f k) _ _ (by simpa using hs) ?_ ?_ ?_
    · have : openCnt ops (listed.setIfInBounds i true) < openCnt ops listed := by
        refine cnt_lt _ _ ?_ i ?_ ?_ _ (List.mem_range.2 hlt)
        · intro x hx
          cases hlx : listed.getD x false
          · rfl
          · rw [(hset x).2 (.inl hlx)] at hx
            simp at hx
        · rw [h2]; rfl
        · rw [(hset i).2 (.inr rfl)]; rfl
      omega
    · exact ⟨hput.defers, hput.size, fun t ht => hput.out t fun k hk => ht k ((hset k).2 hk), fun t k hk => hput.ins t k ((hset k).1 hk)⟩
    · intro k hk
      rw [← ext_ext]
      by_cases hki : k = i
      · subst hki
        simp only [if_true]
        rw [ext_ext]
        exact hv
      · simp only [if_neg hki]
        rcases (hset k).1 hk with h | h
        · exact hmono _ _ _ _ (hV k h)
        · exact absurd h hki
/-- What each operation asks, one by one. -/
def stepsFrom (P : Program) (md : Region.Mode) (w₀ : World) (A : (Nat → Value) → Act) (V : Nat → Value → World → Prop) : Nat → List Oper → Prop
  | _, [] => True
  | i, o :: rest => (∀ f z, (∀ e ∈ o.after, Region.binds md e = true → V e.on (f e.on) (w₀.ext z)) → getsV P o (A f) (w₀.ext z) (fun v w' => V i v w' ∧ ∃ z', w' = (w₀.ext z).ext z')) ∧ stepsFrom P md w₀ A V (i + 1) rest
theorem steps_at {A : (Nat → Value) → Act} {V : Nat → Value → World → Prop} : ∀ (l : List Oper) (i : Nat), stepsFrom P md w₀ A V i l → ∀ k o, l[k]? = some o → ∀ f z, (∀ e ∈ o.after, Region.binds md e = true → V e.on (f e.on) (w₀.ext z)) → getsV P o (A f) (w₀.ext z) (fun v w' => V (i + k) v w' ∧ ∃ z', w' = (w₀.ext z).ext z')
  | [], _, _, k, o, h => by simp at h
  | x :: l, i, h, 0, o, ho => by
    simp only [List.getElem?_cons_zero, Option.some.injEq] at ho
    subst ho
    exact h.1
  | x :: l, i, h, k + 1, o, ho => by
    have := steps_at l (i + 1) h.2 k o (by simpa using ho)
    rw [show i + (k + 1) = i + 1 + k by omega]
    exact this
theorem wp_region_inv {Q : Exit → Act → World → Prop} {id : Nat} {a : Act} {w : World} {V : Nat → Value → World → Prop} {A : (Nat → Value) → Act} (hA : ∀ f, fillTo ops a f ops.size = A f) (hm : P.follows .mixedOrders = true)
    (hd : apartDst ops = true) (hf : fedBy .any ops = true) (hsel : Region.noSelect ops = true) (hmono : ∀ i v w z, V i v w → V i v (w.ext z))
    (hstep : stepsFrom P .any w.drew A V 0 ops.toList)
    (hend : ∀ f z, (∀ i, i < ops.size → V i (f i) (w.drew.ext z)) → Q .normal (A f) (w.drew.ext z)) : (Code.region id ops true).wp P Q a w := by
  refine wp_region_any hm ?_
  have h0 : ({ w with drawn := w.drawn + 1 } : World) = w.drew.ext ⟨#[], w.drew.drawn⟩ := by
    have key : ∀ u : World, u.ext ⟨#[], u.drawn⟩ = u := fun u => by simp [World.ext]
    exact (key w.drew).symm
  rw [h0]
  refine wpAny_inv (a0 := a) (V := V) (f := fun _ => undef) hd hf hsel hmono ?_ ?_ _ _ _ _ (by simp) ?_ ⟨rfl, rfl, fun _ _ => rfl, fun t i hi => ?_⟩ (fun i hi => ?_)
  · intro i o ho f z hz
    rw [hA]
    have := steps_at ops.toList 0 hstep i o (by simpa using ho) f z hz
    rw [Nat.zero_add] at this
    exact this
  · intro f z h
    rw [hA]
    exact hend f z h
  · unfold openCnt
    refine Nat.le_trans List.countP_le_length ?_
    simp
  all_goals
    exfalso
    by_cases hlt : i < ops.size <;> simp [hlt] at hi
end
/-- What is known of a slot: its value, or that it is a slice of a block of its own. -/
inductive SP where
  | val (u : Value)
  | blk (n : Nat) (cs : Array Value) (t : TypeId)
def SP.holds : SP → Value → World → Prop
  | .val u, v, _ => v = u
  | .blk n cs t, v, W => ∃ g, v = .slice (some ⟨g, 0, none⟩) n n ∧ W.heap[g]? = some (.cells cs t (0, 0))
def holdsAt (Vs : List SP) (i : Nat) (v : Value) (W : World) : Prop := (Vs.getD i (.val undef)).holds v W
theorem holds_mono (Vs : List SP) (i : Nat) (v : Value) (W : World) (z : Ez) (h : holdsAt Vs i v W) : holdsAt Vs i v (W.ext z) := by
  unfold holdsAt at *
  cases hx : Vs.getD i (.val undef) with
  | val u => rw [hx] at h; exact h
  | blk n cs t =>
    rw [hx] at h
    obtain ⟨g, h1, h2⟩ := h
    exact ⟨g, h1, (ext_heap_lt W z g (Array.getElem?_eq_some_iff.1 h2).1).trans h2⟩
theorem stays (w : World) : ∃ z', w = w.ext z' := ⟨⟨#[], w.drawn⟩, by simp [World.ext]⟩
end Go.Proofs.YtpohkolapgofdaaGreatDoor
namespace Go.Proofs.YtpohkolapgofdaaGreatDoor

section
variable {P : Program} {ops : Array Oper} {md : Region.Mode} {w₀ : World}
/-- As fedBy; the operations from m on may write slots that are read by those that they wait for. -/
def fedTo (md : Region.Mode) (ops : Array Oper) (m : Nat) : Bool := (List.range ops.size).all fun i => match ops[i]? with
  | none => true
  | some o => o.guard.isNone && (o.after.all fun e => !Region.binds md e || decide (e.on < i)) && o.op.operands.toList.all fun x => match x with
    | .tmp t => (List.range ops.size).all fun j => (match ops[j]? with | some oj => oj.dst != some t || (decide (j < m) && o.after.any (fun e => Region.binds md e && e.on == j)) || (decide (m ≤ j) && oj.after.any (fun e => Region.binds md e && e.on == i)) | none => true)
    | _ => true
theorem fedTo_of {m : Nat} (h : fedTo md ops m = true) {i : Nat} {o : Oper} (ho : ops[i]? = some o) : o.guard = none ∧ (∀ e ∈ o.after, Region.binds md e = true → e.on < i) ∧ ∀ t, .tmp t ∈ o.op.operands → ∀ j, dstAt ops t j →
    (j < m ∧ ∃ e ∈ o.after, Region.binds md e = true ∧ e.on = j) ∨ (m ≤ j ∧ ∃ oj, ops[j]? = some oj ∧ ∃ e ∈ oj.after, Region.binds md e = true ∧ e.on = i) := by
  unfold fedTo at h
  rw [List.all_eq_true] at h
  have h1 := h i (List.mem_range.2 (Array.getElem?_eq_some_iff.1 ho).1)
  rw [ho] at h1
  simp only [Bool.and_eq_true, Option.isNone_iff_eq_none, List.all_eq_true] at h1
  obtain ⟨⟨h1, h2⟩, h3⟩ := h1
  refine ⟨h1, fun e he hb => ?_, fun t ht j hj => ?_⟩
  · rw [Array.all_eq_true_iff_forall_mem] at h2
    have := h2 e he
    rw [hb] at this
    simpa using this
  · have h4 := h3 (.tmp t) (Array.mem_toList_iff.2 ht)
    simp only [List.all_eq_true] at h4
    have h5 := h4 j (List.mem_range.2 (dst_lt hj))
    obtain ⟨oj, b1, b2⟩ := hj
    rw [b1] at h5
    simp only [b2, bne_self_eq_false, Bool.false_or, Bool.or_eq_true, Bool.and_eq_true, decide_eq_true_eq] at h5
    rcases h5 with ⟨hm, h5⟩ | ⟨hm, h5⟩
    · rw [Array.any_eq_true'] at h5
      obtain ⟨e, he, h6⟩ := h5
      simp only [Bool.and_eq_true, beq_iff_eq] at h6
      exact .inl ⟨hm, e, he, h6.1, h6.2⟩
    · rw [Array.any_eq_true'] at h5
      obtain ⟨e, he, h6⟩ := h5
      simp only [Bool.and_eq_true, beq_iff_eq] at h6
      exact .inr ⟨hm, oj, b1, e, he, h6.1, h6.2⟩
def ClosedL (md : Region.Mode) (ops : Array Oper) (listed : Array Bool) : Prop := ∀ j oj, ops[j]? = some oj → listed.getD j false = true → ∀ e ∈ oj.after, Region.binds md e = true → listed.getD e.on false = true
theorem wpAny_inv6 {Q : Exit → Act → World → Prop} {a0 : Act} {V : Nat → Value → World → Prop} (hd : apartDst ops = true) {m : Nat} (hm : m ≤ ops.size) (hf : fedTo md ops m = true) (hsel : Region.noSelect ops = true) (hmono : ∀ i v w z, V i v w → V i v (w.ext z))
    (hstep : ∀ i o, ops[i]? = some o → ∀ f z, (∀ e ∈ o.after, Region.binds md e = true → V e.on (f e.on) (w₀.ext z)) → getsV P o (fillTo ops a0 f m) (w₀.ext z) (fun v w' => V i v w' ∧ ∃ z', w' = (w₀.ext z).ext z'))
    (hend : ∀ f z, (∀ i, i < ops.size → V i (f i) (w₀.ext z)) → Q .normal (fillTo ops a0 f ops.size) (w₀.ext z)) :
    ∀ (fuel : Nat) (listed : Array Bool) (f : Nat → Value) (a : Act) (z : Ez), listed.size = ops.size → openCnt ops listed ≤ fuel → Filled ops a0 (fun i => listed.getD i false = true) f a → (∀ i, listed.getD i false = true → V i (f i) (w₀.ext z)) → ClosedL md ops listed →
      wpAny P md ops Q fuel listed a (w₀.ext z) := by
  intro fuel
  have hall : ∀ listed : Array Bool, listed.size = ops.size → Region.ready md ops listed = [] → ∀ i, i < ops.size → listed.getD i false = true := by
    intro listed hs hr i
    induction i using Nat.strongRecOn with
    | _ i ih =>
      intro hi
      have ho : ops[i]? = some ops[i] := Array.getElem?_eq_getElem hi
      cases hl : listed.getD i false with
      | true => rfl
      | false =>
        exfalso
        have : i ∈ Region.ready md ops listed := by
          rw [mem_ready]
          refine ⟨?_, _, ho, fun e he hb => ?_⟩
          · have hlt : i < listed.size := by omega
            simp only [Array.getD, hlt, dite_true] at hl ⊢
            exact hl
          · have hlt := (fedTo_of hf ho).2.1 e he hb
            exact ih e.on hlt (by omega)
        rw [hr] at this
        cases this
  have hfin : ∀ (listed : Array Bool) (f : Nat → Value) (a : Act) (z : Ez), listed.size = ops.size → Filled ops a0 (fun i => listed.getD i false = true) f a → (∀ i, listed.getD i false = true → V i (f i) (w₀.ext z)) → Region.ready md ops listed = [] → Q .normal a (w₀.ext z) := by
    intro listed f a z hs hF hV hr
    have h1 := hall listed hs hr
    have h2 : Filled ops a0 (fun i => i < ops.size) f a := ⟨hF.defers, hF.size, fun t ht => hF.out t fun i hi hdi => ht i (dst_lt hdi) hdi, fun t i hi => hF.ins t i (h1 i hi)⟩
    rw [h2.same (g := f) (fill_filled hd a0 f ops.size (Nat.le_refl _))]
    exact hend f z fun i hi => hV i (h1 i hi)
  induction fuel with
  | zero =>
    intro listed f a z hs hc hF hV hcl
    have hr : Region.ready md ops listed = [] := by
      rw [List.eq_nil_iff_forall_not_mem]
      intro i hi
      obtain ⟨h1, o, ho, _⟩ := mem_ready.1 hi
      have h2 := getD_both h1
      unfold openCnt at hc
      have h3 : (List.range ops.size).countP (fun i => !listed.getD i false) = 0 := by omega
      rw [List.countP_eq_zero] at h3
      have h4 := h3 i (List.mem_range.2 (Array.getElem?_eq_some_iff.1 ho).1)
      rw [h2] at h4
      simp at h4
    exact ⟨hr, hfin listed f a z hs hF hV hr⟩
  | succ fuel ih =>
    intro listed f a z hs hc hF hV hcl
    refine ⟨hfin listed f a z hs hF hV, fun i hi => ?_⟩
    obtain ⟨h1, o, ho, haf⟩ := mem_ready.1 hi
    have h2 := getD_both h1
    have hlt : i < ops.size := (Array.getElem?_eq_some_iff.1 ho).1
    obtain ⟨hg, hbe, hfd⟩ := fedTo_of hf ho
    have hw : Region.wanted o (yielded ops a.tmps) = true := by simp [Region.wanted, hg]
    unfold wpOp
    simp only [ho]
    rw [if_pos hw]
    refine .inl ?_
    have hFA := fill_filled hd a0 f m hm
    have hev : execOp (fillTo ops a0 f m).eval o = execOp a.eval o := by
      refine execOp_congr o (fun cs b => Region.noSelect_spec hsel i o cs b ho) fun x hx => ?_
      cases x with
      | tmp t =>
        show (fillTo ops a0 f m).tmps.getD t undef = a.tmps.getD t undef
        have key : (fillTo ops a0 f m).tmps[t]? = a.tmps[t]? := by
          by_cases hx2 : ∃ j, j < m ∧ dstAt ops t j
          · obtain ⟨j, hjm, hj⟩ := hx2
            rcases hfd t hx j hj with ⟨_, e, he, hb, hej⟩ | ⟨hmj, _⟩
            · have hlj := haf e he hb
              rw [hej] at hlj
              by_cases htl : t < a0.tmps.size
              · rw [hFA.ins t j hjm hj htl, hF.ins t j hlj hj htl]
              · rw [Array.getElem?_eq_none (by rw [hFA.size]; exact Nat.le_of_not_lt htl), Array.getElem?_eq_none (by rw [hF.size]; exact Nat.le_of_not_lt htl)]
            · omega
          · rw [hFA.out t fun j hjm hj => hx2 ⟨j, hjm, hj⟩, hF.out t fun j hlj hj => ?_]
            rcases hfd t hx j hj with ⟨hjm, _⟩ | ⟨_, oj, hoj, e, he, hb, hei⟩
            · exact hx2 ⟨j, hjm, hj⟩
            · have := hcl j oj hoj hlj e he hb
              rw [hei, h2] at this
              cases this
        rw [Array.getD_eq_getD_getElem?, Array.getD_eq_getD_getElem?, key]
      | _ => rfl
    have hst := gets_same hev (hstep i o ho f z fun e he hb => hV e.on (haf e he hb))
    refine gets_wp hst ?_
    rintro v w' ⟨hv, z', rfl⟩
    rw [ext_ext] at hv ⊢
    have hne : ¬ (listed.getD i false = true) := by rw [h2]; exact Bool.false_ne_true
    have hput := hF.put hd (g := fun k => if k = i then v else f k) ho hne (fun k hk => if_neg (by rintro rfl; exact hne hk)) (if_pos rfl)
    have hset : ∀ k, (listed.setIfInBounds i true).getD k false = true ↔ (listed.getD k false = true ∨ k = i) := by
      intro k
      by_cases hk : i = k
      · subst hk
        have : i < listed.size := by omega
        simp [this]
      · rw [getD_set_ne false hk]
        exact ⟨.inl, fun h => h.elim id fun e => absurd e.symm hk⟩
    refine ih _ (fun k => if k = i then v else f k) _ _ (by simpa using hs) ?_ ?_ ?_ ?_
    · have : openCnt ops (listed.setIfInBounds i true) < openCnt ops listed := by
        refine cnt_lt _ _ ?_ i ?_ ?_ _ (List.mem_range.2 hlt)
        · intro x hx
          cases hlx : listed.getD x false
          · rfl
          · rw [(hset x).2 (.inl hlx)] at hx
            simp at hx
        · rw [h2]; rfl
        · rw [(hset i).2 (.inr rfl)]; rfl
      omega
    · exact ⟨hput.defers, hput.size, fun t ht => hput.out t fun k hk => ht k ((hset k).2 hk), fun t k hk => hput.ins t k ((hset k).1 hk)⟩
    · intro k hk
      rw [← ext_ext]
      by_cases hki : k = i
      · subst hki
        simp only [if_true]
        rw [ext_ext]
        exact hv
      · simp only [if_neg hki]
        rcases (hset k).1 hk with h | h
        · exact hmono _ _ _ _ (hV k h)
        · exact absurd h hki
    · intro j oj hoj hlj e he hb
      rcases (hset j).1 hlj with h | h
      · exact (hset e.on).2 (.inl (hcl j oj hoj h e he hb))
      · subst h
        rw [ho] at hoj
        simp only [Option.some.injEq] at hoj
        subst hoj
        exact (hset e.on).2 (.inl (haf e he hb))
theorem wp_region_inv6 {Q : Exit → Act → World → Prop} {id : Nat} {a : Act} {w : World} {V : Nat → Value → World → Prop} {A B : (Nat → Value) → Act} (m : Nat) (hA : ∀ f, fillTo ops a f m = A f) (hB : ∀ f, fillTo ops a f ops.size = B f) (hm0 : m ≤ ops.size) (hm : P.follows .mixedOrders = true)
    (hd : apartDst ops = true) (hf : fedTo .any ops m = true) (hsel : Region.noSelect ops = true) (hmono : ∀ i v w z, V i v w → V i v (w.ext z))
    (hstep : stepsFrom P .any w.drew A V 0 ops.toList)
    (hend : ∀ f z, (∀ i, i < ops.size → V i (f i) (w.drew.ext z)) → Q .normal (B f) (w.drew.ext z)) : (Code.region id ops true).wp P Q a w := by
  refine wp_region_any hm ?_
  have h0 : ({ w with drawn := w.drawn + 1 } : World) = w.drew.ext ⟨#[], w.drew.drawn⟩ := by
    have key : ∀ u : World, u.ext ⟨#[], u.drawn⟩ = u := fun u => by simp [World.ext]
    exact (key w.drew).symm
  rw [h0]
  refine wpAny_inv6 (a0 := a) (V := V) (f := fun _ => undef) hd hm0 hf hsel hmono ?_ ?_ _ _ _ _ (by simp) ?_ ⟨rfl, rfl, fun _ _ => rfl, fun t i hi => ?_⟩ (fun i hi => ?_) (fun j _ _ hj => ?_)
  · intro i o ho f z hz
    rw [hA]
    have := steps_at ops.toList 0 hstep i o (by simpa using ho) f z hz
    rw [Nat.zero_add] at this
    exact this
  · intro f z h
    rw [hB]
    exact hend f z h
  · unfold openCnt
    refine Nat.le_trans List.countP_le_length ?_
    simp
  · exfalso
    by_cases hlt : i < ops.size <;> simp [hlt] at hi
  · exfalso
    by_cases hlt : i < ops.size <;> simp [hlt] at hi
  · exfalso
    by_cases hlt : j < ops.size <;> simp [hlt] at hj
end
end Go.Proofs.YtpohkolapgofdaaGreatDoor
namespace Go.Proofs.YtpohkolapgofdaaGreatDoor

section
variable {P : Program} {ops : Array Oper} {md : Region.Mode}
theorem wpAny_inv2 {Q : Exit → Act → World → Prop} {a0 : Act} {V : Nat → Value → World → Prop} {J : (Nat → Bool) → World → Prop} (hd : apartDst ops = true) (hf : fedBy md ops = true) (hsel : Region.noSelect ops = true)
    (hstep : ∀ i o, ops[i]? = some o → ∀ f (L : Nat → Bool) w, L i = false → (∀ e ∈ o.after, Region.binds md e = true → L e.on = true ∧ V e.on (f e.on) w) → J L w → getsV P o (fillTo ops a0 f ops.size) w (fun v w' => V i v w' ∧ J (fun k => L k || k == i) w' ∧ ∀ j u, V j u w → V j u w'))
    (hend : ∀ f L w, (∀ i, i < ops.size → L i = true ∧ V i (f i) w) → J L w → Q .normal (fillTo ops a0 f ops.size) w) :
    ∀ (fuel : Nat) (listed : Array Bool) (f : Nat → Value) (a : Act) (w : World), listed.size = ops.size → openCnt ops listed ≤ fuel → Filled ops a0 (fun i => listed.getD i false = true) f a → (∀ i, listed.getD i false = true → V i (f i) w) → J (fun i => listed.getD i false) w →
      wpAny P md ops Q fuel listed a w := by
  intro fuel
  have hall : ∀ listed : Array Bool, listed.size = ops.size → Region.ready md ops listed = [] → ∀ i, i < ops.size → listed.getD i false = true := by
    intro listed hs hr i
    induction i using Nat.strongRecOn with
    | _ i ih =>
      intro hi
      have ho : ops[i]? = some ops[i] := Array.getElem?_eq_getElem hi
      cases hl : listed.getD i false with
      | true => rfl
      | false =>
        exfalso
        have : i ∈ Region.ready md ops listed := by
          rw [mem_ready]
          refine ⟨?_, _, ho, fun e he hb => ?_⟩
          · have hlt : i < listed.size := by omega
            simp only [Array.getD, hlt, dite_true] at hl ⊢
            exact hl
          · have hlt := (fed_of hf ho).2.1 e he hb
            exact ih e.on hlt (by omega)
        rw [hr] at this
        cases this
  have hfin : ∀ (listed : Array Bool) (f : Nat → Value) (a : Act) (w : World), listed.size = ops.size → Filled ops a0 (fun i => listed.getD i false = true) f a → (∀ i, listed.getD i false = true → V i (f i) w) → J (fun i => listed.getD i false) w → Region.ready md ops listed = [] → Q .normal a w := by
    intro listed f a w hs hF hV hJ hr
    have h1 := hall listed hs hr
    have h2 : Filled ops a0 (fun i => i < ops.size) f a := ⟨hF.defers, hF.size, fun t ht => hF.out t fun i hi hdi => ht i (dst_lt hdi) hdi, fun t i hi => hF.ins t i (h1 i hi)⟩
    rw [h2.same (g := f) (fill_filled hd a0 f ops.size (Nat.le_refl _))]
    exact hend f _ w (fun i hi => ⟨h1 i hi, hV i (h1 i hi)⟩) hJ
  induction fuel with
  | zero =>
    intro listed f a w hs hc hF hV hJ
    have hr : Region.ready md ops listed = [] := by
      rw [List.eq_nil_iff_forall_not_mem]
      intro i hi
      obtain ⟨h1, o, ho, _⟩ := mem_ready.1 hi
      have h2 := getD_both h1
      unfold openCnt at hc
      have h3 : (List.range ops.size).countP (fun i => !listed.getD i false) = 0 := by omega
      rw [List.countP_eq_zero] at h3
      have h4 := h3 i (List.mem_range.2 (Array.getElem?_eq_some_iff.1 ho).1)
      rw [h2] at h4
      simp at h4
    exact ⟨hr, hfin listed f a w hs hF hV hJ hr⟩
  | succ fuel ih =>
    intro listed f a w hs hc hF hV hJ
    refine ⟨hfin listed f a w hs hF hV hJ, fun i hi => ?_⟩
    obtain ⟨h1, o, ho, haf⟩ := mem_ready.1 hi
    have h2 := getD_both h1
    have hlt : i < ops.size := (Array.getElem?_eq_some_iff.1 ho).1
    obtain ⟨hg, hbe, hfd⟩ := fed_of hf ho
    have hw : Region.wanted o (yielded ops a.tmps) = true := by simp [Region.wanted, hg]
    unfold wpOp
    simp only [ho]
    rw [if_pos hw]
    refine .inl ?_
    have hFA := fill_filled hd a0 f ops.size (Nat.le_refl _)
    have hev : execOp (fillTo ops a0 f ops.size).eval o = execOp a.eval o := by
      refine execOp_congr o (fun cs b => Region.noSelect_spec hsel i o cs b ho) fun x hx => ?_
      cases x with
      | tmp t =>
        show (fillTo ops a0 f ops.size).tmps.getD t undef = a.tmps.getD t undef
        have key : (fillTo ops a0 f ops.size).tmps[t]? = a.tmps[t]? := by
          by_cases hx2 : ∃ j, dstAt ops t j
          · obtain ⟨j, hj⟩ := hx2
            obtain ⟨e, he, hb, hej⟩ := hfd t hx j hj
            have hlj := haf e he hb
            rw [hej] at hlj
            by_cases htl : t < a0.tmps.size
            · rw [hFA.ins t j (dst_lt hj) hj htl, hF.ins t j hlj hj htl]
            · rw [Array.getElem?_eq_none (by rw [hFA.size]; exact Nat.le_of_not_lt htl), Array.getElem?_eq_none (by rw [hF.size]; exact Nat.le_of_not_lt htl)]
          · rw [hFA.out t fun j _ hj => hx2 ⟨j, hj⟩, hF.out t fun j _ hj => hx2 ⟨j, hj⟩]
        rw [Array.getD_eq_getD_getElem?, Array.getD_eq_getD_getElem?, key]
      | _ => rfl
    have hst := gets_same hev (hstep i o ho f _ w h2 (fun e he hb => ⟨haf e he hb, hV e.on (haf e he hb)⟩) hJ)
    refine gets_wp hst ?_
    rintro v w' ⟨hv, hj, hkeep⟩
    have hne : ¬ (listed.getD i false = true) := by rw [h2]; exact Bool.false_ne_true
    have hput := hF.put hd (g := fun k => if k = i then v else f k) ho hne (fun k hk => if_neg (by rintro rfl; exact hne hk)) (if_pos rfl)
    have hset : ∀ k, (listed.setIfInBounds i true).getD k false = true ↔ (listed.getD k false = true ∨ k = i) := by
      intro k
      by_cases hk : i = k
      · subst hk
        have : i < listed.size := by omega
        simp [this]
      · rw [getD_set_ne false hk]
        exact ⟨.inl, fun h => h.elim id fun e => absurd e.symm hk⟩
    refine ih _ (fun k => if k = i then v else f k) _ _ (by simpa using hs) ?_ ?_ ?_ ?_
    · have : openCnt ops (listed.setIfInBounds i true) < openCnt ops listed := by
        refine cnt_lt _ _ ?_ i ?_ ?_ _ (List.mem_range.2 hlt)
        · intro x hx
          cases hlx : listed.getD x false
          · rfl
          · rw [(hset x).2 (.inl hlx)] at hx
            simp at hx
        · rw [h2]; rfl
        · rw [(hset i).2 (.inr rfl)]; rfl
      omega
    · exact ⟨hput.defers, hput.size, fun t ht => hput.out t fun k hk => ht k ((hset k).2 hk), fun t k hk => hput.ins t k ((hset k).1 hk)⟩
    · intro k hk
      by_cases hki : k = i
      · subst hki
        simp only [if_true]
        exact hv
      · simp only [if_neg hki]
        rcases (hset k).1 hk with h | h
        · exact hkeep _ _ (hV k h)
        · exact absurd h hki
    · have hfe : (fun k => (listed.setIfInBounds i true).getD k false) = fun k => listed.getD k false || k == i := by
        funext k
        rw [Bool.eq_iff_iff, hset k]
        simp
      rw [hfe]
      exact hj
/-- What each operation asks, one by one. -/
def stepsJ (P : Program) (md : Region.Mode) (A : (Nat → Value) → Act) (V : Nat → Value → World → Prop) (J : (Nat → Bool) → World → Prop) : Nat → List Oper → Prop
  | _, [] => True
  | i, o :: rest => (∀ f (L : Nat → Bool) w, L i = false → (∀ e ∈ o.after, Region.binds md e = true → L e.on = true ∧ V e.on (f e.on) w) → J L w → getsV P o (A f) w (fun v w' => V i v w' ∧ J (fun k => L k || k == i) w' ∧ ∀ j u, V j u w → V j u w')) ∧ stepsJ P md A V J (i + 1) rest
theorem stepsJ_at {A : (Nat → Value) → Act} {V : Nat → Value → World → Prop} {J : (Nat → Bool) → World → Prop} : ∀ (l : List Oper) (i : Nat), stepsJ P md A V J i l → ∀ k o, l[k]? = some o → ∀ f (L : Nat → Bool) w, L (i + k) = false → (∀ e ∈ o.after, Region.binds md e = true → L e.on = true ∧ V e.on (f e.on) w) → J L w →
    getsV P o (A f) w (fun v w' => V (i + k) v w' ∧ J (fun x => L x || x == (i + k)) w' ∧ ∀ j u, V j u w → V j u w')
  | [], _, _, k, o, h => by simp at h
  | x :: l, i, h, 0, o, ho => by
    simp only [List.getElem?_cons_zero, Option.some.injEq] at ho
    subst ho
    exact h.1
  | x :: l, i, h, k + 1, o, ho => by
    have := stepsJ_at l (i + 1) h.2 k o (by simpa using ho)
    rw [show i + (k + 1) = i + 1 + k by omega]
    exact this
theorem wp_region_invJ {Q : Exit → Act → World → Prop} {id : Nat} {a : Act} {w : World} {V : Nat → Value → World → Prop} {J : (Nat → Bool) → World → Prop} {A : (Nat → Value) → Act} (hA : ∀ f, fillTo ops a f ops.size = A f) (hm : P.follows .mixedOrders = true)
    (hd : apartDst ops = true) (hf : fedBy .any ops = true) (hsel : Region.noSelect ops = true) (hstart : J (fun _ => false) w.drew)
    (hstep : stepsJ P .any A V J 0 ops.toList)
    (hend : ∀ f L W, (∀ i, i < ops.size → L i = true ∧ V i (f i) W) → J L W → Q .normal (A f) W) : (Code.region id ops true).wp P Q a w := by
  refine wp_region_any hm ?_
  have hno : ∀ i, (Array.replicate ops.size false).getD i false = false := by
    intro i
    by_cases hlt : i < ops.size <;> simp [hlt]
  refine wpAny_inv2 (a0 := a) (V := V) (J := J) (f := fun _ => undef) hd hf hsel ?_ ?_ _ _ _ _ (by simp) ?_ ⟨rfl, rfl, fun _ _ => rfl, fun t i hi => ?_⟩ (fun i hi => ?_) ?_
  · intro i o ho f L W hl hz hj
    rw [hA]
    have := stepsJ_at ops.toList 0 hstep i o (by simpa using ho) f L W (by simpa using hl) hz hj
    rw [Nat.zero_add] at this
    exact this
  · intro f L W h hj
    rw [hA]
    exact hend f L W h hj
  · unfold openCnt
    refine Nat.le_trans List.countP_le_length ?_
    simp
  · rw [hno i] at hi
    cases hi
  · rw [hno i] at hi
    cases hi
  · have hfe : (fun i => (Array.replicate ops.size false).getD i false) = fun _ => false := funext hno
    rw [hfe]
    exact hstart
end
end Go.Proofs.YtpohkolapgofdaaGreatDoor
namespace Go.Proofs.YtpohkolapgofdaaGreatDoor

section
variable {P : Program} {ops : Array Oper}
/-- Each store waits, by an edge that binds, for the one before it. -/
def storesB (ops : Array Oper) (st : List Nat) : Bool :=
  ((List.range st.length).all fun i => (List.range st.length).all fun j => i == j || st.getD i 0 != st.getD j 0) && (List.range st.length).all fun k => k == 0 || match ops[st.getD k 0]? with
    | some o => o.after.any fun e => Region.binds .any e && e.on == st.getD (k - 1) 0
    | none => false
def posOf (i : Nat) : List Nat → Option Nat
  | [] => none
  | x :: l => if x = i then some 0 else (posOf i l).map (· + 1)
/-- What each operation asks, one by one: a store (number k among them) leads from world k to the next one. -/
def stepsW (P : Program) (A : Act) (us : List Value) (St : Nat → World → Prop) (st : List Nat) : Nat → List Oper → Prop
  | _, [] => True
  | i, o :: rest => (match posOf i st with
      | none => ∀ k W, St k W → getsV P o A W (fun v w' => v = us.getD i undef ∧ ∃ z', w' = W.ext z')
      | some k => ∀ W, St k W → getsV P o A W (fun v w' => v = us.getD i undef ∧ St (k + 1) w')) ∧ stepsW P A us St st (i + 1) rest
theorem stepsW_at {A : Act} {us : List Value} {St : Nat → World → Prop} {st : List Nat} : ∀ (l : List Oper) (i : Nat), stepsW P A us St st i l → ∀ k o, l[k]? = some o →
    match posOf (i + k) st with
      | none => ∀ j W, St j W → getsV P o A W (fun v w' => v = us.getD (i + k) undef ∧ ∃ z', w' = W.ext z')
      | some j => ∀ W, St j W → getsV P o A W (fun v w' => v = us.getD (i + k) undef ∧ St (j + 1) w')
  | [], _, _, k, o, h => by simp at h
  | x :: l, i, h, 0, o, ho => by
    simp only [List.getElem?_cons_zero, Option.some.injEq] at ho
    subst ho
    exact h.1
  | x :: l, i, h, k + 1, o, ho => by
    have := stepsW_at l (i + 1) h.2 k o (by simpa using ho)
    rw [show i + (k + 1) = i + 1 + k by omega]
    exact this
theorem gets_mono {o : Oper} {a : Act} {w : World} {K K' : Value → World → Prop} (h : getsV P o a w K) (hk : ∀ v w', K v w' → K' v w') : getsV P o a w K' := by
  unfold getsV at *
  generalize (execOp a.eval o).run P w = r at *
  cases r with
  | ok n w' =>
    cases n <;> simp only at h ⊢
    case value u => exact hk _ _ h
    case skip => exact hk _ _ h
    case enter f args =>
      refine h.mono ?_
      rintro e w'' ⟨v, rfl, hv⟩
      exact ⟨v, rfl, hk _ _ hv⟩
  | halt x w' => simp only at h
theorem idx_some {i : Nat} : ∀ {st : List Nat} {k : Nat}, posOf i st = some k → k < st.length ∧ st.getD k 0 = i
  | [], k, h => by cases h
  | x :: st, k, h => by
    unfold posOf at h
    split at h
    · rename_i hx
      cases h
      exact ⟨Nat.zero_lt_succ _, hx⟩
    · cases hp : posOf i st with
      | none => rw [hp] at h; cases h
      | some m =>
        rw [hp] at h
        cases h
        obtain ⟨h1, h2⟩ := idx_some hp
        exact ⟨Nat.succ_lt_succ h1, h2⟩
theorem idx_none {i : Nat} : ∀ {st : List Nat}, posOf i st = none → ∀ {k : Nat}, k < st.length → st.getD k 0 ≠ i
  | [], _, k, hk => absurd hk (Nat.not_lt_zero _)
  | x :: st, h, k, hk => by
    unfold posOf at h
    split at h
    · cases h
    · rename_i hx
      cases k with
      | zero => exact hx
      | succ k =>
        have : posOf i st = none := by
          cases hp : posOf i st with
          | none => rfl
          | some m => rw [hp] at h; cases h
        exact idx_none this (k := k) (Nat.lt_of_succ_lt_succ hk)
theorem apart_getD {st : List Nat} (h : ((List.range st.length).all fun i => (List.range st.length).all fun j => i == j || st.getD i 0 != st.getD j 0) = true) {i j : Nat} (hi : i < st.length) (hj : j < st.length) (he : st.getD i 0 = st.getD j 0) : i = j := by
  rw [List.all_eq_true] at h
  have h1 := h i (List.mem_range.2 hi)
  rw [List.all_eq_true] at h1
  have h2 := h1 j (List.mem_range.2 hj)
  simp only [Bool.or_eq_true, beq_iff_eq, bne_iff_ne] at h2
  exact h2.elim id fun h => absurd he h
theorem wp_region_stores {Q : Exit → Act → World → Prop} {id : Nat} {a : Act} {w : World} (us : List Value) (St : Nat → World → Prop) (st : List Nat) {A : Act}
    (hA : fillTo ops a (fun i => us.getD i undef) ops.size = A) (hm : P.follows .mixedOrders = true)
    (hd : apartDst ops = true) (hf : fedBy .any ops = true) (hsel : Region.noSelect ops = true) (hst : storesB ops st = true)
    (h0 : St 0 w.drew) (hext : ∀ k W z, St k W → St k (W.ext z))
    (hstep : stepsW P A us St st 0 ops.toList)
    (hin : st.all (· < ops.size) = true)
    (hend : ∀ W, St st.length W → Q .normal A W) : (Code.region id ops true).wp P Q a w := by
  simp only [storesB, Bool.and_eq_true] at hst
  obtain ⟨hnd, hst⟩ := hst
  refine wp_region_invJ (V := fun i v _ => v = us.getD i undef) (J := fun L W => ∃ k, k ≤ st.length ∧ St k W ∧ ∀ i, i < st.length → (L (st.getD i 0) = true ↔ i < k)) (fun f => rfl) hm hd hf hsel ?_ ?_ ?_
  · exact ⟨0, Nat.zero_le _, h0, fun i _ => by simp⟩
  · have key : ∀ (l : List Oper) (i : Nat), (∀ k o, l[k]? = some o → ops[i + k]? = some o) →
        stepsJ P .any (fun f => fillTo ops a f ops.size) (fun i v _ => v = us.getD i undef) (fun L W => ∃ k, k ≤ st.length ∧ St k W ∧ ∀ i, i < st.length → (L (st.getD i 0) = true ↔ i < k)) i l := by
      intro l
      induction l with
      | nil => intro i _; trivial
      | cons o rest ih =>
        intro i hl
        refine ⟨?_, ih (i + 1) fun k o hk => by rw [show i + 1 + k = i + (k + 1) by omega]; exact hl (k + 1) o (by simpa using hk)⟩
        have ho : ops[i]? = some o := by simpa using hl 0 o rfl
        intro f L W hLi hz hJ
        obtain ⟨k, hk, hSt, hL⟩ := hJ
        obtain ⟨hg, hbe, hfd⟩ := fed_of hf ho
        have hFA := fill_filled hd a f ops.size (Nat.le_refl _)
        have hFU := fill_filled hd a (fun i => us.getD i undef) ops.size (Nat.le_refl _)
        have hev : execOp A.eval o = execOp (fillTo ops a f ops.size).eval o := by
          rw [← hA]
          refine execOp_congr o (fun cs b => Region.noSelect_spec hsel i o cs b ho) fun x hx => ?_
          cases x with
          | tmp t =>
            show (fillTo ops a (fun i => us.getD i undef) ops.size).tmps.getD t undef = (fillTo ops a f ops.size).tmps.getD t undef
            have key : (fillTo ops a (fun i => us.getD i undef) ops.size).tmps[t]? = (fillTo ops a f ops.size).tmps[t]? := by
              by_cases hx2 : ∃ j, dstAt ops t j
              · obtain ⟨j, hj⟩ := hx2
                obtain ⟨e, he, hb, hej⟩ := hfd t hx j hj
                have hv := (hz e he hb).2
                rw [hej] at hv
                by_cases htl : t < a.tmps.size
                · rw [hFA.ins t j (dst_lt hj) hj htl, hFU.ins t j (dst_lt hj) hj htl, hv]
                · rw [Array.getElem?_eq_none (by rw [hFU.size]; exact Nat.le_of_not_lt htl), Array.getElem?_eq_none (by rw [hFA.size]; exact Nat.le_of_not_lt htl)]
              · rw [hFA.out t fun j _ hj => hx2 ⟨j, hj⟩, hFU.out t fun j _ hj => hx2 ⟨j, hj⟩]
            rw [Array.getD_eq_getD_getElem?, Array.getD_eq_getD_getElem?, key]
          | _ => rfl
        have hs := stepsW_at ops.toList 0 hstep i o (by simpa using ho)
        rw [Nat.zero_add] at hs
        refine gets_same hev ?_
        cases hix : posOf i st with
        | none =>
          rw [hix] at hs
          refine gets_mono (hs k _ hSt) ?_
          rintro v w' ⟨hv, z', rfl⟩
          refine ⟨hv, ⟨k, hk, hext k W z' hSt, fun j hj => ?_⟩, fun _ _ h => h⟩
          have hne := idx_none hix hj
          simp only [Bool.or_eq_true, beq_iff_eq, hne, or_false]
          exact hL j hj
        | some j =>
          rw [hix] at hs
          obtain ⟨hj, hji⟩ := idx_some hix
          have hkj : k = j := by
            have h1 := hL j hj
            rw [hji, hLi] at h1
            have h2 : ¬ j < k := fun h => by simpa using h1.2 h
            rcases Nat.eq_zero_or_pos j with rfl | hp
            · omega
            · rw [List.all_eq_true] at hst
              have h3 := hst j (List.mem_range.2 hj)
              rw [hji, ho] at h3
              have hj0 : (j == 0) = false := by simp; omega
              rw [hj0, Bool.false_or, Array.any_eq_true'] at h3
              obtain ⟨e, he, h4⟩ := h3
              simp only [Bool.and_eq_true, beq_iff_eq] at h4
              have h5 := (hz e he h4.1).1
              rw [h4.2] at h5
              have := (hL (j - 1) (by omega)).1 h5
              omega
          subst hkj
          refine gets_mono (hs _ hSt) ?_
          rintro v w' ⟨hv, hS⟩
          refine ⟨hv, ⟨k + 1, by omega, hS, fun m hm => ?_⟩, fun _ _ h => h⟩
          simp only [Bool.or_eq_true, beq_iff_eq]
          constructor
          · rintro (h | h)
            · have := (hL m hm).1 h
              omega
            · rw [← hji] at h
              have := apart_getD hnd hm hj h
              omega
          · intro h
            rcases Nat.lt_succ_iff_lt_or_eq.1 h with h | h
            · exact .inl ((hL m hm).2 h)
            · subst h
              exact .inr hji
    exact key ops.toList 0 fun k o hk => by rw [Nat.zero_add]; simpa using hk
  · intro f L W h hJ
    obtain ⟨k, hk, hSt, hL⟩ := hJ
    have hke : k = st.length := by
      rcases Nat.lt_or_ge k st.length with hlt | hge
      · exfalso
        rw [List.all_eq_true] at hin
        have hi := hin (st.getD k 0) (by rw [List.getD_eq_getElem?_getD, List.getElem?_eq_getElem hlt]; simp)
        have := (hL k hlt).1 (h _ (by simpa using hi)).1
        omega
      · omega
    subst hke
    have hff : fillTo ops a f ops.size = A := by
      rw [← hA]
      have hFU := fill_filled hd a (fun i => us.getD i undef) ops.size (Nat.le_refl _)
      have hFA := fill_filled hd a f ops.size (Nat.le_refl _)
      refine Filled.same (a0 := a) (f := fun i => us.getD i undef) (g := f) ⟨hFA.defers, hFA.size, hFA.out, fun t i hi hdi hlt => ?_⟩ hFU
      rw [hFA.ins t i hi hdi hlt, (h i hi).2]
    rw [hff]
    exact hend W hSt
/-- The cells of a block behind stores at places. -/
def putC (cs : Array Value) : List (Nat × Value) → Array Value
  | [] => cs
  | p :: l => putC (cs.setIfInBounds p.1 p.2) l
theorem putC_snoc (p : Nat × Value) : ∀ (l : List (Nat × Value)) (cs : Array Value), putC cs (l ++ [p]) = (putC cs l).setIfInBounds p.1 p.2
  | [], _ => rfl
  | _ :: l, _ => putC_snoc p l _
theorem putC_size : ∀ (l : List (Nat × Value)) (cs : Array Value), (putC cs l).size = cs.size
  | [], _ => rfl
  | _ :: l, cs => by rw [putC, putC_size l]; simp
/-- So many stores into block B have been made; else only new blocks. -/
def BlkSt (w : World) (B : Nat) (t : TypeId) (cs : Array Value) (l : List (Nat × Value)) (k : Nat) (W : World) : Prop := w.grownBy W (some B) ∧ W.heap[B]? = some (.cells (putC cs (l.take k)) t (0, 0))
theorem BlkSt.store {w W : World} {B : Nat} {t : TypeId} {cs : Array Value} {l : List (Nat × Value)} {k i : Nat} {u : Value} (h : BlkSt w B t cs l k W) (hl : l[k]? = some (i, u)) : BlkSt w B t cs l (k + 1) (W.setCell ⟨B, i, none⟩ u) := by
  refine ⟨grown_trans h.1 (grown_set _ _ _ _), ?_⟩
  have hk : k < l.length := (List.getElem?_eq_some_iff.1 hl).1
  have hx : l[k] = (i, u) := (List.getElem?_eq_some_iff.1 hl).2
  rw [heap_setCell_same _ _ _ _ _ _ h.2, List.take_succ_eq_append_getElem hk, putC_snoc, hx]
/-- A region that draws its order, whose values are known ahead; its stores go into one block, in one order. -/
theorem wp_region_block {Q : Exit → Act → World → Prop} {id : Nat} {a : Act} {w : World} (us : List Value) (B : Nat) (t : TypeId) (cs : Array Value) (st : List Nat) (l : List (Nat × Value)) {A : Act}
    (hA : fillTo ops a (fun i => us.getD i undef) ops.size = A) (hm : P.follows .mixedOrders = true)
    (hd : apartDst ops = true) (hf : fedBy .any ops = true) (hsel : Region.noSelect ops = true) (hst : storesB ops st = true) (hin : st.all (· < ops.size) = true) (hlen : st.length = l.length)
    (hb : w.heap[B]? = some (.cells cs t (0, 0)))
    (hstep : stepsW P A us (BlkSt w B t cs l) st 0 ops.toList)
    (hend : ∀ W, w.grownBy W (some B) → W.heap[B]? = some (.cells (putC cs l) t (0, 0)) → Q .normal A W) : (Code.region id ops true).wp P Q a w := by
  refine wp_region_stores us (BlkSt w B t cs l) st hA hm hd hf hsel hst ⟨?_, hb⟩ ?_ hstep hin ?_
  · exact ⟨rfl, rfl, rfl, Nat.le_refl _, fun _ _ _ => rfl⟩
  · intro k W z h
    exact ⟨grown_ext h.1 z, (ext_heap_lt W z B (Array.getElem?_eq_some_iff.1 h.2).1).trans h.2⟩
  · intro W h
    refine hend W h.1 ?_
    have := h.2
    rwa [hlen, List.take_length] at this
end
end Go.Proofs.YtpohkolapgofdaaGreatDoor
