/- Appends: a slice that reads as a list of records is put behind a row of one's own. -/
import Derived.Test.YtpohkolapgofdaaGreatDoorK3
import Derived.Maps.AppendAt
import Derived.Deep.AppendLies
import Derived.RegionTactic
namespace Go.Proofs.YtpohkolapgofdaaGreatDoor
open Go.RowKit

/-- A slice type, its elements' size in cells and bytes. -/
structure ElTy (P : Program) (t e : TypeId) (size bytes : Nat) : Prop where
  ht : P.underlying t = some (.slice e)
  hi : ∃ i z, P.info? e = some i ∧ i.zero = some z ∧ i.size = size ∧ i.bytes = bytes ∧ z.cells.size = size
  hsz : 0 < size
theorem flat_inv {α : Type} (f : α → List Value) (s : Nat) (hlen : ∀ x, (f x).length = s) : ∀ (xs : List α) (j : Nat) (u : Value), (xs.flatMap f)[j]? = some u → ∃ k x i, xs[k]? = some x ∧ (f x)[i]? = some u ∧ j = k * s + i
  | [], j, u, h => by simp at h
  | y :: xs, j, u, h => by
    rw [List.flatMap_cons] at h
    by_cases hj : j < s
    · rw [List.getElem?_append_left (by rw [hlen]; exact hj)] at h
      exact ⟨0, y, j, rfl, h, by omega⟩
    · rw [List.getElem?_append_right (by rw [hlen]; omega), hlen] at h
      obtain ⟨k, x, i, h1, h2, h3⟩ := flat_inv f s hlen xs (j - s) u h
      exact ⟨k + 1, x, i, by simpa using h1, h2, by rw [Nat.succ_mul]; omega⟩
theorem flat_len {α : Type} (f : α → List Value) (s : Nat) (hlen : ∀ x, (f x).length = s) : ∀ xs : List α, (xs.flatMap f).length = xs.length * s
  | [] => by simp
  | y :: xs => by rw [List.flatMap_cons, List.length_append, hlen, flat_len f s hlen xs, List.length_cons, Nat.succ_mul, Nat.add_comm]
theorem sl_flat {α : Type} {f : α → List Value} {size : Nat} (hlen : ∀ x, (f x).length = size) {w : World} {b off : Nat} {ys : List α} (hc : ∀ k (x : α), ys[k]? = some x → ∀ j u, (f x)[j]? = some u → w.cell? ⟨b, off + k * size + j, none⟩ = some u) :
    ∀ j u, (ys.flatMap f)[j]? = some u → w.cell? ((⟨b, off, none⟩ : Addr).add j) = some u := fun j u hj => by
  obtain ⟨k, x, q, h1, h2, h3⟩ := flat_inv f size hlen ys j u hj
  have := hc k x h1 q u h2
  rw [h3]
  have e1 : (⟨b, off, none⟩ : Addr).add (k * size + q) = ⟨b, off + k * size + q, none⟩ := by
    unfold Addr.add
    split
    · rename_i h0
      rw [show off + k * size + q = off by omega]
    · simp only [Addr.mk.injEq, and_true, true_and]; omega
  rw [e1]; exact this
section
variable {P : Program} {α : Type} {f : α → List Value} {t e : TypeId} {size bytes : Nat}
theorem run_append_sl (T : ElTy P t e size bytes) (hlen : ∀ x, (f x).length = size) (hone : ∀ x, ∀ u ∈ f x, u.oneCell' = true) {w : World} {base ty n m c : Nat} {v : Value} {xs : List Value} (hown : w.ownsRow base e size v n xs)
    {A : Option Addr} {ys : List α} (hm : m = ys.length) (hS : Sl w size f A ys) (h63 : n + m ≤ maxLen) (hbytes : (n + m) * bytes ≤ 140737488355328) (hbase : base ≤ w.heap.size) :
    ∃ v' w', (Builtin.append_ #[t, t] ty #[v, .slice A m c]).run P w = .ok v' w' ∧ w'.ownsRow base e size v' (n + m) (xs ++ ys.flatMap f) ∧ w.grownBy w' v.ownBlock ∧ (v'.ownBlock = v.ownBlock ∨ v'.ownBlock = some w.heap.size) := by
  subst hm
  obtain ⟨i, z, hi, hz, hs, hb, hzs⟩ := T.hi
  have hfl := flat_len f size hlen ys
  cases A with
  | none =>
    have h0 : ys = [] := by
      cases ys with
      | nil => rfl
      | cons y ys => obtain ⟨b, off, h, _⟩ := hS (by simp); cases h
    subst h0
    refine ⟨v, w, ?_, by simpa using hown, World.grownBy.refl w _, .inl rfl⟩
    have ht := T.ht
    rcases hown.2 with ⟨rfl, rfl⟩ | ⟨g, cap, cur, rfl, _, _, hnc, _⟩
    · simp [Builtin.append_, run_underlying ht, sizeOf, typeInfo, hi, Builtin.lenOf, Builtin.firstCells]
    · simp [Builtin.append_, run_underlying ht, sizeOf, typeInfo, hi, Builtin.lenOf, Builtin.firstCells, hnc, storeCells]
  | some ad =>
    obtain ⟨v', w', hrun, h2, h3, _, h5⟩ := run_append_own_at (P := P) w base t ty e i z size bytes T.ht hi hz hs hb hzs T.hsz v n xs hown ad ys.length c (ys.flatMap f) hfl (fun j u hj => by
      obtain ⟨k, x, q, h1, h2, h3⟩ := flat_inv f size hlen ys j u hj
      have hk : k < ys.length := (List.getElem?_eq_some_iff.1 h1).1
      obtain ⟨b, off, hA, _, hc⟩ := hS (by omega)
      have hA' : ad = ⟨b, off, none⟩ := by simpa using hA
      subst hA'
      exact sl_flat hlen hc j u hj) (fun u hu => by
      obtain ⟨x, _, hx⟩ := List.mem_flatMap.1 hu
      exact hone x u hx) h63 hbytes hbase
    exact ⟨v', w', hrun, h2, h3, h5⟩
theorem wp_append_sl {o : Oper} {a : Act} {K : Act → World → Prop} {Q : Exit → Act → World → Prop} (s x : Operand) (ho : o.op = .call { callee := .builtin .append, args := #[s, x], argTypes := #[t, t] })
    (T : ElTy P t e size bytes) (hlen : ∀ x, (f x).length = size) (hone : ∀ x, ∀ u ∈ f x, u.oneCell' = true) {w : World} {base n m c : Nat} {v : Value} {xs : List Value} (hs : a.eval s = v) (hown : w.ownsRow base e size v n xs)
    {A : Option Addr} {ys : List α} (hx : a.eval x = .slice A m c) (hm : m = ys.length) (hS : Sl w size f A ys) (h63 : n + m ≤ maxLen) (hbytes : (n + m) * bytes ≤ 140737488355328) (hbase : base ≤ w.heap.size)
    (h : ∀ v' w', w'.ownsRow base e size v' (n + m) (xs ++ ys.flatMap f) → w.grownBy w' v.ownBlock → (v'.ownBlock = v.ownBlock ∨ v'.ownBlock = some w.heap.size) → K (a.put o.dst v') w') : o.wp P a w K Q := by
  obtain ⟨v', w', hrun, h2, h3, h4⟩ := run_append_sl (ty := o.type) (c := c) T hlen hone hown hm hS h63 hbytes hbase
  unfold Oper.wp execOp
  simp only [ho, resolve, invoke, builtin, Sem.run_bind, Sem.run_pure, Result.andThen_ok, List.map_toArray, List.map_cons, List.map_nil, hs, hx, hrun]
  exact h v' w' h2 h3 h4
theorem wpList_append_sl {ops : Array Oper} {rest : List Oper} {o : Oper} {a : Act} {Q : Exit → Act → World → Prop} (hgd : o.guard = none) (s x : Operand) (ho : o.op = .call { callee := .builtin .append, args := #[s, x], argTypes := #[t, t] })
    (T : ElTy P t e size bytes) (hlen : ∀ x, (f x).length = size) (hone : ∀ x, ∀ u ∈ f x, u.oneCell' = true) {w : World} {base n m c : Nat} {v : Value} {xs : List Value} (hs : a.eval s = v) (hown : w.ownsRow base e size v n xs)
    {A : Option Addr} {ys : List α} (hx : a.eval x = .slice A m c) (hm : m = ys.length) (hS : Sl w size f A ys) (h63 : n + m ≤ maxLen) (hbytes : (n + m) * bytes ≤ 140737488355328) (hbase : base ≤ w.heap.size)
    (h : ∀ v' w', w'.ownsRow base e size v' (n + m) (xs ++ ys.flatMap f) → w.grownBy w' v.ownBlock → (v'.ownBlock = v.ownBlock ∨ v'.ownBlock = some w.heap.size) → wpList P ops Q rest (a.put o.dst v') w') : wpList P ops Q (o :: rest) a w :=
  wpList_plain hgd fun _ hK => wp_append_sl s x ho T hlen hone hs hown hx hm hS h63 hbytes hbase fun v' w' h2 h3 h4 => hK _ _ (h v' w' h2 h3 h4)
theorem step_append_sl {ops : Array Oper} {o : Oper} {a : Act} {K : Act → World → Prop} {Q : Exit → Act → World → Prop} {E : Prop} (hgd : o.guard = none) (s x : Operand) (ho : o.op = .call { callee := .builtin .append, args := #[s, x], argTypes := #[t, t] })
    (T : ElTy P t e size bytes) (hlen : ∀ x, (f x).length = size) (hone : ∀ x, ∀ u ∈ f x, u.oneCell' = true) {w : World} {base n m c : Nat} {v : Value} {xs : List Value} (hs : a.eval s = v) (hown : w.ownsRow base e size v n xs)
    {A : Option Addr} {ys : List α} (hx : a.eval x = .slice A m c) (hm : m = ys.length) (hS : Sl w size f A ys) (h63 : n + m ≤ maxLen) (hbytes : (n + m) * bytes ≤ 140737488355328) (hbase : base ≤ w.heap.size)
    (h : ∀ v' w', w'.ownsRow base e size v' (n + m) (xs ++ ys.flatMap f) → w.grownBy w' v.ownBlock → (v'.ownBlock = v.ownBlock ∨ v'.ownBlock = some w.heap.size) → K (a.put o.dst v') w') :
    if Region.wanted o (yielded ops a.tmps) = true then Oper.wp P o a w K Q else E := by
  have hw : Region.wanted o (yielded ops a.tmps) = true := by simp [Region.wanted, hgd]
  rw [if_pos hw]
  exact wp_append_sl s x ho T hlen hone hs hown hx hm hS h63 hbytes hbase h
/-- An append onto an empty row without room: all that was there stays. -/
theorem run_append_fresh (T : ElTy P t e size bytes) (hlen : ∀ x, (f x).length = size) (hone : ∀ x, ∀ u ∈ f x, u.oneCell' = true) {w : World} {base ty g c m : Nat} (hg : w.heap[g]? = some (.cells #[] e (0, 0))) (hbg : base ≤ g)
    {A : Option Addr} {ys : List α} (hm : m = ys.length) (hS : Sl w size f A ys) (hys : ys.length ≤ 100000) (hby : bytes ≤ 1000) (hbase : base ≤ w.heap.size) :
    ∃ v' z, (Builtin.append_ #[t, t] ty #[.slice (some ⟨g, 0, none⟩) 0 0, .slice A m c]).run P w = .ok v' (w.ext z) ∧ (w.ext z).ownsRow base e size v' ys.length (ys.flatMap f) := by
  have hb1 : (0 + m) * bytes ≤ 140737488355328 := by
    have := Nat.mul_le_mul (show 0 + m ≤ 100000 by omega) hby
    omega
  have hb2 : 0 + m ≤ maxLen := by simp [maxLen]; omega
  have hown : w.ownsRow base e size (.slice (some ⟨g, 0, none⟩) 0 0) 0 [] := ⟨by simp, .inr ⟨g, 0, #[], rfl, hbg, hg, Nat.le_refl _, Nat.zero_le _, by simp, by simp⟩⟩
  obtain ⟨v', w', hrun, h2, h3, h4⟩ := run_append_sl (ty := ty) (c := c) T hlen hone hown hm hS hb2 hb1 hbase
  rw [Nat.zero_add, List.nil_append, hm] at h2
  obtain ⟨i, z, hi, hz, hs, hb, hzs⟩ := T.hi
  have ht := T.ht
  subst hm
  by_cases h0 : ys.length = 0
  · have hn : ys = [] := List.eq_nil_of_length_eq_zero h0
    subst hn
    have hr : (Builtin.append_ #[t, t] ty #[.slice (some ⟨g, 0, none⟩) 0 0, .slice A ([] : List α).length c]).run P w = .ok (.slice (some ⟨g, 0, none⟩) 0 0) w := by
      cases A <;> simp [Builtin.append_, run_underlying ht, sizeOf, typeInfo, hi, Builtin.lenOf, Builtin.firstCells, loadCells, loadCellsFrom, storeCells]
    rw [hr] at hrun
    simp only [Result.ok.injEq] at hrun
    obtain ⟨rfl, rfl⟩ := hrun
    obtain ⟨z, hz⟩ := ext_below (Below.refl w.heap.size w)
    exact ⟨_, z, by rw [← hz]; exact hr, by rw [← hz]; exact h2⟩
  · obtain ⟨b, off, rfl, hb0, hc⟩ := hS (by omega)
    have hfl := flat_len f size hlen ys
    have hr := run_append_grow (P := P) w t ty e i z ht hi hz ⟨g, 0, none⟩ 0 0 [] (by simp) (by simp) ⟨b, off, none⟩ ys.length c (ys.flatMap f) (by rw [hfl, hs]) (sl_flat hlen hc) (by omega) (by omega) (growslice_fits (by omega) (by rw [hb]; exact hb1))
    rw [hr] at hrun
    simp only [Result.ok.injEq] at hrun
    obtain ⟨rfl, rfl⟩ := hrun
    have hB : Below w.heap.size w (w.drew.alloc (.cells ((([] : List Value).toArray ++ (ys.flatMap f).toArray ++ Builtin.zeroCells z.cells (grownCap w (0 + ys.length) 0 e - (0 + ys.length)))) e)) := B_alloc (B_drew (Below.refl _ _)) _ (Nat.le_refl _)
    obtain ⟨z', hz'⟩ := ext_below hB
    exact ⟨_, z', by rw [← hz']; exact hr, by rw [← hz']; exact h2⟩
theorem wp_append_fresh {o : Oper} {a : Act} {K : Act → World → Prop} {Q : Exit → Act → World → Prop} (s x : Operand) (ho : o.op = .call { callee := .builtin .append, args := #[s, x], argTypes := #[t, t] })
    (T : ElTy P t e size bytes) (hlen : ∀ x, (f x).length = size) (hone : ∀ x, ∀ u ∈ f x, u.oneCell' = true) (hby : bytes ≤ 1000) {w : World} {base g m c : Nat} (hs : a.eval s = .slice (some ⟨g, 0, none⟩) 0 0) (hg : w.heap[g]? = some (.cells #[] e (0, 0))) (hbg : base ≤ g)
    {A : Option Addr} {ys : List α} (hx : a.eval x = .slice A m c) (hm : m = ys.length) (hys : ys.length ≤ 100000) (hS : Sl w size f A ys) (hbase : base ≤ w.heap.size)
    (h : ∀ v' z, (w.ext z).ownsRow base e size v' ys.length (ys.flatMap f) → K (a.put o.dst v') (w.ext z)) : o.wp P a w K Q := by
  obtain ⟨v', z, hrun, h2⟩ := run_append_fresh (ty := o.type) (c := c) T hlen hone hg hbg hm hS hys hby hbase
  unfold Oper.wp execOp
  simp only [ho, resolve, invoke, builtin, Sem.run_bind, Sem.run_pure, Result.andThen_ok, List.map_toArray, List.map_cons, List.map_nil, hs, hx, hrun]
  exact h v' z h2
theorem wpList_append_fresh {ops : Array Oper} {rest : List Oper} {o : Oper} {a : Act} {Q : Exit → Act → World → Prop} (hgd : o.guard = none) (s x : Operand) (ho : o.op = .call { callee := .builtin .append, args := #[s, x], argTypes := #[t, t] })
    (T : ElTy P t e size bytes) (hlen : ∀ x, (f x).length = size) (hone : ∀ x, ∀ u ∈ f x, u.oneCell' = true) (hby : bytes ≤ 1000) {w : World} {base g m c : Nat} (hs : a.eval s = .slice (some ⟨g, 0, none⟩) 0 0) (hg : w.heap[g]? = some (.cells #[] e (0, 0))) (hbg : base ≤ g)
    {A : Option Addr} {ys : List α} (hx : a.eval x = .slice A m c) (hm : m = ys.length) (hys : ys.length ≤ 100000) (hS : Sl w size f A ys) (hbase : base ≤ w.heap.size)
    (h : ∀ v' z, (w.ext z).ownsRow base e size v' ys.length (ys.flatMap f) → wpList P ops Q rest (a.put o.dst v') (w.ext z)) : wpList P ops Q (o :: rest) a w :=
  wpList_plain hgd fun _ hK => wp_append_fresh s x ho T hlen hone hby hs hg hbg hx hm hys hS hbase fun v' z h2 => hK _ _ (h v' z h2)
theorem step_append_fresh {ops : Array Oper} {o : Oper} {a : Act} {K : Act → World → Prop} {Q : Exit → Act → World → Prop} {E : Prop} (hgd : o.guard = none) (s x : Operand) (ho : o.op = .call { callee := .builtin .append, args := #[s, x], argTypes := #[t, t] })
    (T : ElTy P t e size bytes) (hlen : ∀ x, (f x).length = size) (hone : ∀ x, ∀ u ∈ f x, u.oneCell' = true) (hby : bytes ≤ 1000) {w : World} {base g m c : Nat} (hs : a.eval s = .slice (some ⟨g, 0, none⟩) 0 0) (hg : w.heap[g]? = some (.cells #[] e (0, 0))) (hbg : base ≤ g)
    {A : Option Addr} {ys : List α} (hx : a.eval x = .slice A m c) (hm : m = ys.length) (hys : ys.length ≤ 100000) (hS : Sl w size f A ys) (hbase : base ≤ w.heap.size)
    (h : ∀ v' z, (w.ext z).ownsRow base e size v' ys.length (ys.flatMap f) → K (a.put o.dst v') (w.ext z)) :
    if Region.wanted o (yielded ops a.tmps) = true then Oper.wp P o a w K Q else E := by
  have hw : Region.wanted o (yielded ops a.tmps) = true := by simp [Region.wanted, hgd]
  rw [if_pos hw]
  exact wp_append_fresh s x ho T hlen hone hby hs hg hbg hx hm hys hS hbase h
end
theorem event_len (e : Event) : e.cells.length = 7 := rfl
theorem site_len (e : Site) : e.cells.length = 6 := rfl
theorem rest_len (e : Rest) : e.cells.length = 3 := rfl
theorem lot_len (e : Lot) : e.cells.length = 6 := rfl
theorem berth_len (e : Berth) : e.cells.length = 2 := rfl
theorem event_one (e : Event) : ∀ u ∈ e.cells, u.oneCell' = true := by simp [Event.cells, Value.oneCell']
theorem site_one (e : Site) : ∀ u ∈ e.cells, u.oneCell' = true := by simp [Site.cells, Value.oneCell']
theorem rest_one (e : Rest) : ∀ u ∈ e.cells, u.oneCell' = true := by simp [Rest.cells, Value.oneCell']
theorem lot_one (e : Lot) : ∀ u ∈ e.cells, u.oneCell' = true := by simp [Lot.cells, Value.oneCell']
theorem berth_one (e : Berth) : ∀ u ∈ e.cells, u.oneCell' = true := by simp [Berth.cells, Value.oneCell']
theorem stay_one (e : Stay) : ∀ u ∈ e.cells, u.oneCell' = true := by simp [Stay.cells, Lot.cells, Value.oneCell']
theorem elTy_of {P : Program} {t e : TypeId} {size bytes : Nat} {z : Value} (ht : P.underlying t = some (.slice e)) (h : (P.info? e).map (fun i => (i.zero, i.size, i.bytes)) = some (some z, size, bytes)) (hz : z.cells.size = size) (hsz : 0 < size) : ElTy P t e size bytes := by
  obtain ⟨i, h1, h2, h3, h4⟩ := info_parts h
  exact ⟨ht, ⟨i, z, h1, h2, h3, h4, hz⟩, hsz⟩
theorem elEvent : ElTy Tryz.prog 41 23 7 72 := elTy_of (z := .agg #[.int .i64 0, .int .i64 0, .string ⟨#[]⟩, .int .i64 0, .string ⟨#[]⟩, .int .i64 0, .bool false]) (by kernel_rfl) (by kernel_rfl) rfl (by decide)
theorem elSite : ElTy Tryz.prog 36 81 6 56 := elTy_of (z := .agg #[.string ⟨#[]⟩, .int .i64 0, .int .i64 0, .int .i64 0, .int .i64 0, .int .i64 0]) (by kernel_rfl) (by kernel_rfl) rfl (by decide)
theorem elRest : ElTy Tryz.prog 37 94 3 24 := elTy_of (z := .agg #[.int .i64 0, .int .i64 0, .int .i64 0]) (by kernel_rfl) (by kernel_rfl) rfl (by decide)
end Go.Proofs.YtpohkolapgofdaaGreatDoor
