/- Walks: the iterator over the free levels of a site. -/
/- Walk: all free levels on a day. -/
import Derived.Test.YtpohkolapgofdaaGreatDoorB6
import Derived.Test.YtpohkolapgofdaaGreatDoorX0
namespace Go.Proofs.YtpohkolapgofdaaGreatDoor
open Go.RowKit Go.Shelf
attribute [local go_sem] World.cell?_alloc_mark ext_size ext_cell ext_frozen lt_add_r lt_add_r2 lt_add_r3 lt_add_r4 lt_add_r5 lt_add_r6 lt_add_r7 lt_add_r8
attribute [local go_sem] Oper.semAt_some

def FreePost (w : World) (bb : Nat) (nm : ByteArray) (kd so d st r co : Int) (e : Ending) (w' : World) : Prop :=
  e = .returned (.func (.func 83) #[] #[.pointer (some ⟨w.heap.size + 1, 0, none⟩), .pointer (some ⟨w.heap.size, 0, none⟩), .pointer (some ⟨w.heap.size + 2, 0, none⟩)]) ∧
  w' = ((w.alloc (.cells #[.pointer (some ⟨bb, 0, none⟩)] 89)).alloc (.cells #[.string nm, .int .i64 kd, .int .i64 so, .int .i64 d, .int .i64 st, .int .i64 r] 81)).alloc (.cells #[.int .i64 co] 3)
set_option maxRecDepth 100000 in
set_option maxHeartbeats 2000000 in
theorem free_any (bb : Nat) (nm : ByteArray) (kd so d st r co : Int) (w : World) :
    Calls Tryz.prog 57 #[.pointer (some ⟨bb, 0, none⟩), .agg #[.string nm, .int .i64 kd, .int .i64 so, .int .i64 d, .int .i64 st, .int .i64 r], .int .i64 co] w (FreePost w bb nm kd so d st r co) := by
  go_enter Tryz.func57, Tryz.ntmps57
  go_wp2_with fail
  go_ret
  exact ⟨rfl, rfl⟩

def freeTo (k : Bk) (ss : List Site) (nm : ByteArray) (co : Int) (j : Nat) : List Int := ((List.range j).filter fun (l : Nat) => placeP k ss nm (l : Int) co == 0).map fun (l : Nat) => (l : Int)
theorem freeTo_succ (k : Bk) (ss : List Site) (nm : ByteArray) (co : Int) (j : Nat) : freeTo k ss nm co (j + 1) = freeTo k ss nm co j ++ (if placeP k ss nm (j : Int) co == 0 then [(j : Int)] else []) := by
  unfold freeTo
  rw [List.range_succ, List.filter_append, List.map_append]
  congr 1
  cases h : (placeP k ss nm (j : Int) co == 0) <;> simp [h]
theorem freeTo_prefix (k : Bk) (ss : List Site) (nm : ByteArray) (co : Int) (j : Nat) : ∀ m, freeTo k ss nm co j <+: freeTo k ss nm co (j + m)
  | 0 => List.prefix_refl _
  | m + 1 => by
    rw [← Nat.add_assoc, freeTo_succ]
    exact (freeTo_prefix k ss nm co j m).trans (List.prefix_append _ _)

/-- What a round of a range over 'free' keeps: what lay below n₀, and the three boxes of the closure. -/
def Kf (n₀ b1 b2 b3 : Nat) (A B : World) : Prop := Below n₀ A B ∧ ∀ b, b = b1 ∨ b = b2 ∨ b = b3 → b < A.heap.size → B.heap[b]? = A.heap[b]?
theorem Kf.refl (n₀ b1 b2 b3 : Nat) (A : World) : Kf n₀ b1 b2 b3 A A := ⟨Below.refl _ _, fun _ _ _ => rfl⟩
theorem Kf.trans {n₀ b1 b2 b3 : Nat} {A B C : World} (h : Kf n₀ b1 b2 b3 A B) (k : Kf n₀ b1 b2 b3 B C) : Kf n₀ b1 b2 b3 A C :=
  ⟨h.1.trans k.1, fun b hb hl => (k.2 b hb (Nat.lt_of_lt_of_le hl h.1.size)).trans (h.2 b hb hl)⟩
theorem Kf.ext {n₀ b1 b2 b3 : Nat} {A : World} (z : Ez) (h : n₀ ≤ A.heap.size) : Kf n₀ b1 b2 b3 A (A.ext z) := ⟨(below_ext A z).mono h, fun b _ hl => ext_heap_lt A z b hl⟩
theorem Kf.blk {n₀ b1 b2 b3 : Nat} {A B : World} (h : Kf n₀ b1 b2 b3 A B) {b : Nat} {o : Obj} (hb : b = b1 ∨ b = b2 ∨ b = b3) (ho : A.heap[b]? = some o) : B.heap[b]? = some o := (h.2 b hb (blk_lt ho)).trans ho
theorem Kf.put {n₀ b1 b2 b3 l : Nat} (W : World) (o o' : Obj) (h0 : n₀ ≤ l) (h1 : b1 < l) (h2 : b2 < l) (h3 : b3 < l) : Kf n₀ b1 b2 b3 W (W.putObj l o') := by
  have hp : ∀ k, k ≠ l → (W.putObj l o').heap[k]? = W.heap[k]? := fun k hk => by
    simp only [World.putObj, Array.getElem?_setIfInBounds]
    rw [if_neg (fun e => hk e.symm)]
  refine ⟨⟨rfl, rfl, rfl, by simp [World.putObj], fun k hk => hp k (by omega)⟩, fun b hb _ => hp b ?_⟩
  rcases hb with rfl | rfl | rfl <;> omega

set_option maxRecDepth 100000 in
set_option maxHeartbeats 2000000 in
theorem free1_in (n : Nat) (hn : 2 ≤ n) (l n₀ base bb b1 b2 b3 : Nat) (k : Bk) (ss : List Site) (rs : List Rest) (nm : ByteArray) (kd so d st r co : Int) (J Jx : List Int → World → Prop) (W : World) (hn₀ : n₀ ≤ W.heap.size)
    (hJ : AbidesFrom W.heap.size J)
    (hY : ∀ pre x W1, J pre W1 → pre.length < (freeTo k ss nm co r.toNat).length → YieldAt Fence.wide (n - 1) Tryz.prog l #[.int .i64 x] W1 fun e W' =>
      (e = .returned (.bool true) ∧ J (pre ++ [x]) W' ∧ Kf n₀ b1 b2 b3 W1 W') ∨ (e = .returned (.bool false) ∧ Jx (pre ++ [x]) W'))
    (henv : ∃ w0, Env w0 base bb k ss rs ∧ w0.heap.size ≤ n₀ ∧ Below n₀ w0 W)
    (x : W.heap[b1]? = some (.cells #[.string nm, .int .i64 kd, .int .i64 so, .int .i64 d, .int .i64 st, .int .i64 r] 81)) (y : W.heap[b2]? = some (.cells #[.pointer (some ⟨bb, 0, none⟩)] 89)) (z : W.heap[b3]? = some (.cells #[.int .i64 co] 3)) (hr : r ≤ 100000) (hc1 : 0 ≤ co) (hc2 : co ≤ 2) (h0 : J [] W) :
    CallsIn Fence.wide n Tryz.prog 83 #[.func (.yield l) #[] #[], .pointer (some ⟨b1, 0, none⟩), .pointer (some ⟨b2, 0, none⟩), .pointer (some ⟨b3, 0, none⟩)] W fun e W' => (∃ v, e = .returned v) ∧
      ((∃ ys, ys = freeTo k ss nm co r.toNat ∧ J ys W') ∨ (∃ pre, pre <+: freeTo k ss nm co r.toNat ∧ Jx pre W')) := by
  obtain ⟨w0, henv, hw0, hB0⟩ := henv
  have x5 : W.cell? ⟨b1, 5, none⟩ = some (.int .i64 r) := by simp [World.cell?, x]
  refine callsIn_of_wp Tryz.func83 rfl trivial ?_ rfl
  simp only [Tryz.ntmps83, List.size_toArray, List.length_cons, List.length_nil, Nat.reduceAdd, Nat.reduceSub, Array.replicate_succ, Array.replicate_zero, List.push_toArray, List.append_toArray, List.nil_append, List.cons_append]
  gi_wp2
  gi_loopw [5, 8] (fun _ i wr => ∃ j : Nat, j ≤ r.toNat ∧ i = .int .i64 j ∧ J (freeTo k ss nm co j) wr ∧ Kf n₀ b1 b2 b3 W wr) (fun _ i _ => r.toNat - (intOf i).toNat)
  case atStart => exact ⟨0, Nat.zero_le _, rfl, h0, Kf.refl _ _ _ _ _⟩
  case round =>
    obtain ⟨j, hj, rfl, hJs, hBr⟩ := hrel
    by_cases hjl : j < r.toNat
    · have hlt : (j : Int) < r := by omega
      have a0 : wr.cell? ⟨b1, 0, none⟩ = some (.string nm) := by simp [World.cell?, hBr.blk (.inl rfl) x]
      have a1 : wr.cell? ⟨b2, 0, none⟩ = some (.pointer (some ⟨bb, 0, none⟩)) := by simp [World.cell?, hBr.blk (.inr (.inl rfl)) y]
      have a2 : wr.cell? ⟨b3, 0, none⟩ = some (.int .i64 co) := by simp [World.cell?, hBr.blk (.inr (.inr rfl)) z]
      have hew : Env wr base bb k ss rs := henv.keep (hB0.trans hBr.1) hw0
      have hT := freeTo_succ k ss nm co j
      have hlen : (freeTo k ss nm co j).length + (if placeP k ss nm (j : Int) co == 0 then 1 else 0) ≤ (freeTo k ss nm co r.toNat).length := by
        have := (freeTo_prefix k ss nm co (j + 1) (r.toNat - (j + 1))).length_le
        rw [show j + 1 + (r.toNat - (j + 1)) = r.toNat by omega, hT] at this
        by_cases ht : (placeP k ss nm (j : Int) co == 0) = true <;> simp [ht] at this ⊢ <;> omega
      have hpre := freeTo_prefix k ss nm co (j + 1) (r.toNat - (j + 1))
      rw [show j + 1 + (r.toNat - (j + 1)) = r.toNat by omega] at hpre
      have HT := Lib.hid hT
      have HPRE := Lib.hid hpre
      clear hT x y z x5 henv hB0 hpre
      cases hp : (placeP k ss nm (j : Int) co == 0)
      · have HP := Lib.hid hp
        gi_wp2_with (refine ⟨trivial, fun _ => (by omega), ?_⟩; gi_at_call 84; refine (callsIn_wide.2 (place_any base bb k ss rs _ _ _ _ hew (by omega) (by omega) hc1 hc2)).mono ?_; rintro e wq ⟨rfl, zq, rfl⟩)
        refine ⟨fun _ h => (by cases h), ?_⟩
        gi_wp2
        go_roundw
        case rel => exact ⟨j + 1, by omega, by go_num, by rw [HT.out, HP.out, if_neg Bool.false_ne_true, List.append_nil]; exact hJ _ _ _ none hJs (grown_ext (World.grownBy.refl _ _) zq) (fun r e => (by cases e)), hBr.trans (Kf.ext zq (Nat.le_trans hn₀ hBr.1.size))⟩
        case measure => simp [intOf]; omega
      · rw [hp, if_pos rfl] at hlen
        have HP := Lib.hid hp
        gi_wp2_with (refine ⟨trivial, fun _ => (by omega), ?_⟩; gi_at_call 84; refine (callsIn_wide.2 (place_any base bb k ss rs _ _ _ _ hew (by omega) (by omega) hc1 hc2)).mono ?_; rintro e wq ⟨rfl, zq, rfl⟩; obtain ⟨fn, tmps, assign, body, hy, hR⟩ := hY _ (j : Int) _ (hJ _ _ _ none hJs (grown_ext (World.grownBy.refl _ _) zq) (fun r e => by cases e)) (by omega))
        refine ⟨fun _ => (by omega), hR.mono ?_⟩
        rintro e W3 (⟨rfl, hJ3, hk3⟩ | ⟨rfl, hJx3⟩)
        · gi_wp2
          go_roundw
          case rel => exact ⟨j + 1, by omega, by go_num, by rw [HT.out, HP.out, if_pos rfl]; exact hJ3, (hBr.trans (Kf.ext zq (Nat.le_trans hn₀ hBr.1.size))).trans hk3⟩
          case measure => simp [intOf]; omega
        · gi_wp2
          refine bodyPost_ret (results_none rfl _ _ _) rfl ?_
          refine ⟨⟨_, rfl⟩, .inr ⟨_, ?_, hJx3⟩⟩
          have hp := HPRE.out
          rw [HT.out, HP.out, if_pos rfl] at hp
          exact hp
    · have hj2 : j = r.toNat := by omega
      subst hj2
      gi_wp2
      go_end0
      exact ⟨⟨_, rfl⟩, .inl ⟨_, rfl, hJs⟩⟩

theorem free1_seq (n : Nat) (hn : 2 ≤ n) (n₀ base bb b1 b2 b3 : Nat) (k : Bk) (ss : List Site) (rs : List Rest) (nm : ByteArray) (kd so d st r co : Int) (w0 w : World) (henv : Env w0 base bb k ss rs) (h0 : w0.heap.size ≤ n₀) (hn₀ : n₀ ≤ w.heap.size) (hb : Below n₀ w0 w)
    (x : w.heap[b1]? = some (.cells #[.string nm, .int .i64 kd, .int .i64 so, .int .i64 d, .int .i64 st, .int .i64 r] 81)) (y : w.heap[b2]? = some (.cells #[.pointer (some ⟨bb, 0, none⟩)] 89)) (z : w.heap[b3]? = some (.cells #[.int .i64 co] 3)) (hr : r ≤ 100000) (hc1 : 0 ≤ co) (hc2 : co ≤ 2) :
    SeqBound Fence.wide n Tryz.prog 83 #[] #[.pointer (some ⟨b1, 0, none⟩), .pointer (some ⟨b2, 0, none⟩), .pointer (some ⟨b3, 0, none⟩)] (fun x : Int => #[.int .i64 x]) (Kf n₀ b1 b2 b3) (fun ys => ys = freeTo k ss nm co r.toNat) (fun pre => pre <+: freeTo k ss nm co r.toNat) (freeTo k ss nm co r.toNat).length w := fun l J Jx W hW hJ _ hY hJ0 =>
  free1_in n hn l n₀ base bb b1 b2 b3 k ss rs nm kd so d st r co J Jx W (Nat.le_trans hn₀ hW.size) hJ hY ⟨w0, henv, h0, hb.trans (hW.mono hn₀)⟩
    ((hW.block b1 (blk_lt x)).trans x) ((hW.block b2 (blk_lt y)).trans y) ((hW.block b3 (blk_lt z)).trans z) hr hc1 hc2 hJ0

/-! ### marks: a function that has ranged over functions, in a loop -/
def marks (Ds : List Nat) : List Deferred := Ds.map fun D => { target := .collected D, args := #[] }
theorem leaves_marks {F : Fence} {n : Nat} {P : Program} {fn : Func} {tmps : Array Value} {R : Ending → World → Prop} {base : Nat} : ∀ (Ds : List Nat) (w : World), Ds.Nodup → (∀ D ∈ Ds, base ≤ D ∧ w.heap[D]? = some (.deferred (some []))) →
    (∀ w', Below base w w' → (∀ (k : Nat) (cs : Array Value) (t : TypeId) (fr : Nat × Nat), w.heap[k]? = some (.cells cs t fr) → w'.heap[k]? = some (.cells cs t fr)) → ∃ v, (results fn tmps).run P w' = .ok v w' ∧ R (.returned v) w') →
    LeavesInM F n P fn tmps R (marks Ds) .returning w
  | [], w, _, _, h => h w (Below.refl _ _) fun _ _ _ _ h => h
  | D :: Ds, w, hnd, hD, h => by
    obtain ⟨hb, hK⟩ := hD D (by simp)
    have hnd' := List.nodup_cons.1 hnd
    refine ⟨by simp, .inl ⟨D, _, rfl, run_takeDeferred hK, ?_⟩⟩
    have hp : ∀ k, k ≠ D → (w.putObj D (.deferred none)).heap[k]? = w.heap[k]? := fun k hk => by
      simp only [World.putObj, Array.getElem?_setIfInBounds]
      rw [if_neg (fun e => hk e.symm)]
    refine leaves_marks Ds (w.putObj D (.deferred none)) hnd'.2 (fun D' hD' => ⟨(hD D' (by simp [hD'])).1, (hp D' (fun e => hnd'.1 (e ▸ hD'))).trans (hD D' (by simp [hD'])).2⟩) fun w' hB hc => ?_
    refine h w' (Below.trans (⟨rfl, rfl, rfl, by simp [World.putObj], fun k hk => hp k (by omega)⟩ : Below base w (w.putObj D (.deferred none))) hB) fun k cs t fr hk => hc k cs t fr ((hp k (fun e => ?_)).trans hk)
    subst e
    rw [hK] at hk
    cases hk
end Go.Proofs.YtpohkolapgofdaaGreatDoor
namespace Go.Proofs.YtpohkolapgofdaaGreatDoor
open Go.RowKit Go.Shelf
attribute [local go_sem] World.cell?_alloc_mark ext_size ext_cell ext_frozen lt_add_r lt_add_r2 lt_add_r3 lt_add_r4 lt_add_r5 lt_add_r6 lt_add_r7 lt_add_r8
attribute [local go_sem] Oper.semAt_some

def freeL (k : Bk) (ss : List Site) (co : Int) (s : Site) : List Berth := (freeTo k ss s.name co s.room.toNat).map fun l => ⟨s.name, l⟩
def freeR (k : Bk) (ss : List Site) (p : Bk × Int) (co day : Int) : List Berth × Int :=
  if p.2 != 0 then ([], p.2) else if !inR co 0 2 || !inR day 0 200000 then ([], 2) else (ss.flatMap (freeL k ss co), 0)
def ListPost (w : World) (t : TypeId) (s : Nat) (r : List Value × Nat) (err : Int) (e : Ending) (w' : World) : Prop :=
  ∃ v, e = .returned (.tuple #[v, .int .i64 err]) ∧ w'.ownsRow w.heap.size t s v r.2 r.1 ∧ ∃ z, w' = w.ext z
theorem ListPost.none {w w' : World} {t : TypeId} {s : Nat} {c : Int} (h : Below w.heap.size w w') : ListPost w t s ([], 0) c (.returned (.tuple #[.slice none 0 0, .int .i64 c])) w' := ⟨_, rfl, World.ownsRow_nil _ _ _ _, ext_below h⟩
theorem leaves_none {F : Fence} {n : Nat} {P : Program} {fn : Func} {tmps : Array Value} {R : Ending → World → Prop} {w : World} (v : Value) (h : (results fn tmps).run P w = .ok v w) (hR : R (.returned v) w) : LeavesInM F n P fn tmps R [] .returning w := ⟨v, h, hR⟩

theorem wpListIn_append_sl {F : Fence} {N : Nat} {P : Program} {α : Type} {f : α → List Value} {t e : TypeId} {size bytes : Nat} {ops : Array Oper} {rest : List Oper} {o : Oper} {a : Act} {Q : Exit → Act → World → Prop} (hgd : o.guard = none) (s x : Operand) (ho : o.op = .call { callee := .builtin .append, args := #[s, x], argTypes := #[t, t] })
    (T : ElTy P t e size bytes) (hlen : ∀ x, (f x).length = size) (hone : ∀ x, ∀ u ∈ f x, u.oneCell' = true) {w : World} {base n m c : Nat} {v : Value} {xs : List Value} (hs : a.eval s = v) (hown : w.ownsRow base e size v n xs)
    {A : Option Addr} {ys : List α} (hx : a.eval x = .slice A m c) (hm : m = ys.length) (hS : Sl w size f A ys) (h63 : n + m ≤ maxLen) (hbytes : (n + m) * bytes ≤ 140737488355328) (hbase : base ≤ w.heap.size)
    (h : ∀ v' w', w'.ownsRow base e size v' (n + m) (xs ++ ys.flatMap f) → w.grownBy w' v.ownBlock → wpListIn F N P ops Q rest (a.put o.dst v') w') : wpListIn F N P ops Q (o :: rest) a w := by
  refine wpListIn_plain hgd fun K hK' => ?_
  obtain ⟨v', w', hrun, r1, r2, _⟩ := run_append_sl (ty := o.type) (c := c) T hlen hone hown hm hS h63 hbytes hbase
  unfold Oper.wpIn
  refine ⟨?_, ?_⟩
  · simp [Oper.about, ho, resolve, Target.leads, Sem.run_pure]
  · rw [Oper.semAt_plain F _ _ (by rw [ho]; intro c hc'; cases hc')]
    simp [execOp, ho, resolve, invoke, builtin, hs, hx, hrun, Result.andThen]
    exact hK' _ _ (h v' w' r1 r2)
theorem keeps_cells {B : Nat} {W W' : World} {row : Option Nat} (hg : W.grownBy W' row) (hrow : ∀ r, row = some r → ∃ cs t fr, W.heap[r]? = some (.cells cs t fr)) : KeepsFrom B W W' :=
  ⟨hg.size, fun k o _ hk ho => (hg.block k (blk_lt hk) (fun e => by
    obtain ⟨cs, t, fr, h⟩ := hrow k e.symm
    rw [hk] at h
    cases h
    cases ho)).trans hk⟩
theorem own_cells {W : World} {base size n : Nat} {e : TypeId} {v : Value} {xs : List Value} (h : W.ownsRow base e size v n xs) : ∀ r, v.ownBlock = some r → ∃ cs t fr, W.heap[r]? = some (.cells cs t fr) := by
  rcases h.2 with ⟨rfl, _⟩ | ⟨g, cap, cur, rfl, _, hh, _⟩
  · intro r hr; cases hr
  · intro r hr
    have : g = r := by simpa [Value.ownBlock] using hr
    subst this
    exact ⟨_, _, _, hh⟩
/-- A box that holds a row of one's own. -/
def OutAt (W : World) (B n₀ : Nat) (T e : TypeId) (size : Nat) (xs : List Value) (k : Nat) : Prop := ∃ v, W.heap[B]? = some (.cells #[v] T (0, 0)) ∧ W.ownsRow n₀ e size v k xs
theorem OutAt.kept {W W' : World} {B n₀ : Nat} {T e : TypeId} {size : Nat} {xs : List Value} {k : Nat} {row : Option Nat} (h : OutAt W B n₀ T e size xs k) (hg : W.grownBy W' row) (hr : ∀ r, row = some r → ∃ o : Obj, W.heap[r]? = some o ∧ o.isCells = false) : OutAt W' B n₀ T e size xs k := by
  obtain ⟨v, h1, h2⟩ := h
  refine ⟨v, blk_own h1 hg hr, h2.kept hg ?_⟩
  rcases hv : v.ownBlock with _ | g
  · exact .inl rfl
  · refine .inr fun e => ?_
    obtain ⟨o, ho, hc⟩ := hr g e.symm
    obtain ⟨cs, t, fr, hh⟩ := own_cells h2 g hv
    rw [ho] at hh
    cases hh
    cases hc
theorem own_of_cells {W W' : World} {base size n : Nat} {e : TypeId} {v : Value} {xs : List Value} (h : W.ownsRow base e size v n xs) (hc : ∀ (k : Nat) (cs : Array Value) (t : TypeId) (fr : Nat × Nat), W.heap[k]? = some (.cells cs t fr) → W'.heap[k]? = some (.cells cs t fr)) : W'.ownsRow base e size v n xs := by
  refine ⟨h.1, ?_⟩
  rcases h.2 with h | ⟨g, cap, cur, e1, e2, e3, e4⟩
  · exact .inl h
  · exact .inr ⟨g, cap, cur, e1, e2, hc _ _ _ _ e3, e4⟩
theorem own_mono' {w : World} {base base' size k : Nat} {e : TypeId} {v : Value} {xs : List Value} (h : w.ownsRow base e size v k xs) (hb : base' ≤ base) : w.ownsRow base' e size v k xs := by
  refine ⟨h.1, ?_⟩
  rcases h.2 with h | ⟨g, cap, cur, e1, e2, e3⟩
  · exact .inl h
  · exact .inr ⟨g, cap, cur, e1, by omega, e3⟩
theorem elBerth : ElTy Tryz.prog 62 115 2 24 := elTy_of (z := .agg #[.string ⟨#[]⟩, .int .i64 0]) (by kernel_rfl) (by kernel_rfl) rfl (by decide)

theorem freeTo_len (k : Bk) (ss : List Site) (nm : ByteArray) (co : Int) (j : Nat) : (freeTo k ss nm co j).length ≤ j := by
  unfold freeTo
  rw [List.length_map]
  refine Nat.le_trans (List.length_filter_le _ _) ?_
  simp
theorem freeL_len (k : Bk) (ss : List Site) (co : Int) (s : Site) (h : s.room ≤ 100000) : (freeL k ss co s).length ≤ 100000 := by
  unfold freeL
  rw [List.length_map]
  have := freeTo_len k ss s.name co s.room.toNat
  omega
theorem flat_bound {α β : Type} (f : α → List β) (m : Nat) : ∀ l : List α, (∀ x ∈ l, (f x).length ≤ m) → (l.flatMap f).length ≤ l.length * m
  | [], _ => by simp
  | x :: l, h => by
    rw [List.flatMap_cons, List.length_append, List.length_cons, Nat.succ_mul]
    have h1 := h x (by simp)
    have h2 := flat_bound f m l (fun y hy => h y (by simp [hy]))
    omega
theorem freeL_bound (k : Bk) (ss : List Site) (co : Int) (hroom : ∀ s ∈ ss, s.room ≤ 100000) (hs : ss.length ≤ 60) (j : Nat) : ((ss.take j).flatMap (freeL k ss co)).length ≤ 6000000 := by
  have h1 := flat_bound (freeL k ss co) 100000 (ss.take j) (fun s hx => freeL_len k ss co s (hroom s (List.mem_of_mem_take hx)))
  have h2 := List.length_take_le j ss
  have h3 : (ss.take j).length ≤ ss.length := by rw [List.length_take]; omega
  omega

theorem sl_berth {w : World} {g : Nat} {nm : ByteArray} {x : Int} {t : TypeId} {fr : Nat × Nat} (h : w.heap[g]? = some (.cells #[.string nm, .int .i64 x] t fr)) : Sl w 2 Berth.cells (some ⟨g, 0, none⟩) [⟨nm, x⟩] := fun _ => by
  refine ⟨g, 0, rfl, blk_lt h, fun k y hy j u hu => ?_⟩
  cases k with
  | zero =>
    simp only [List.getElem?_cons_zero, Option.some.injEq] at hy
    subst hy
    simp only [World.cell?, h, Nat.zero_mul, Nat.zero_add]
    simpa [Berth.cells] using hu
  | succ k => simp at hy
theorem berth_step {W w1 : World} {n₀ : Nat} {A1 : Option Addr} {k1 : Nat} {Lb : List Berth} {nm : ByteArray} {x : Int} {v' : Value} {o : Obj}
    (hv1 : W.heap[n₀]? = some (.cells #[.slice A1 Lb.length k1] 62 (0, 0))) (hv2 : W.ownsRow n₀ 115 2 (.slice A1 Lb.length k1) Lb.length (Lb.flatMap Berth.cells))
    (h1 : w1.ownsRow n₀ 115 2 v' (Lb.length + 1) (Lb.flatMap Berth.cells ++ [(⟨nm, x⟩ : Berth)].flatMap Berth.cells)) (g1 : (W.alloc o).grownBy w1 (Value.slice A1 Lb.length k1).ownBlock) :
    ∃ A2 k2, v' = .slice A2 (Lb.length + 1) k2 ∧ w1.heap[n₀]? = some (.cells #[.slice A1 Lb.length k1] 62 (0, 0)) ∧ w1.frozen? ⟨n₀, 0, none⟩ = false ∧ w1.cell? ⟨n₀, 0, none⟩ = some (.slice A1 Lb.length k1) := by
  have e : (Lb.flatMap Berth.cells ++ [(⟨nm, x⟩ : Berth)].flatMap Berth.cells) = (Lb ++ [(⟨nm, x⟩ : Berth)]).flatMap Berth.cells := by rw [List.flatMap_append]
  have h2 : w1.ownsRow n₀ 115 2 v' (Lb ++ [(⟨nm, x⟩ : Berth)]).length ((Lb ++ [(⟨nm, x⟩ : Berth)]).flatMap Berth.cells) := by rw [← e]; simpa using h1
  obtain ⟨A2, k2, rfl, _, _⟩ := own_sl berth_len h2
  have hh : w1.heap[n₀]? = some (.cells #[.slice A1 Lb.length k1] 62 (0, 0)) := (g1.block n₀ (by simp; have := blk_lt hv1; omega) (own_ne hv2 hv1 (by decide))).trans ((Below.heap_alloc W o n₀ (blk_lt hv1)).trans hv1)
  exact ⟨A2, k2, by simp, hh, by simp [World.frozen?, hh], by simp [World.cell?, hh]⟩

theorem berth_done {W w1 Wu : World} {n₀ q B b2 : Nat} {A1 A2 : Option Addr} {k1 k2 : Nat} {Lb Ln : List Berth} {nm : ByteArray} {kd so d st r co x : Int} {o : Obj} {Ds : List Nat}
    (hv1 : W.heap[n₀]? = some (.cells #[.slice A1 Lb.length k1] 62 (0, 0))) (hv2 : W.ownsRow n₀ 115 2 (.slice A1 Lb.length k1) Lb.length (Lb.flatMap Berth.cells))
    (h1 : w1.ownsRow n₀ 115 2 (.slice A2 (Lb.length + 1) k2) (Lb.length + 1) (Lb.flatMap Berth.cells ++ [(⟨nm, x⟩ : Berth)].flatMap Berth.cells)) (g1 : (W.alloc o).grownBy w1 (Value.slice A1 Lb.length k1).ownBlock)
    (hn1 : w1.heap[n₀]? = some (.cells #[.slice A1 Lb.length k1] 62 (0, 0)))
    (hq : W.heap[q]? = some (.cells #[.string nm, .int .i64 kd, .int .i64 so, .int .i64 d, .int .i64 st, .int .i64 r] 81 (0, 0))) (y1 : W.heap[q + 1]? = some (.cells #[.pointer (some ⟨b2, 0, none⟩)] 89 (0, 0))) (y2 : W.heap[q + 1 + 1]? = some (.cells #[.string nm, .int .i64 kd, .int .i64 so, .int .i64 d, .int .i64 st, .int .i64 r] 81 (0, 0))) (y3 : W.heap[q + 1 + 1 + 1]? = some (.cells #[.int .i64 co] 3 (0, 0)))
    (hD : ∀ D ∈ Ds, W.heap[D]? = some (.deferred (some []))) (hnq : n₀ < q) (hB : Below n₀ Wu W) (hLn : Ln = Lb ++ [(⟨nm, x⟩ : Berth)]) :
    KeepsFrom B W (w1.setCell ⟨n₀, 0, none⟩ (.slice A2 (Lb.length + 1) k2)) ∧ Kf n₀ (q + 1 + 1) (q + 1) (q + 1 + 2) W (w1.setCell ⟨n₀, 0, none⟩ (.slice A2 (Lb.length + 1) k2)) ∧
      OutAt (w1.setCell ⟨n₀, 0, none⟩ (.slice A2 (Lb.length + 1) k2)) n₀ n₀ 62 115 2 (Ln.flatMap Berth.cells) Ln.length ∧ (w1.setCell ⟨n₀, 0, none⟩ (.slice A2 (Lb.length + 1) k2)).heap[q]? = some (.cells #[.string nm, .int .i64 kd, .int .i64 so, .int .i64 d, .int .i64 st, .int .i64 r] 81 (0, 0)) ∧
      ((w1.setCell ⟨n₀, 0, none⟩ (.slice A2 (Lb.length + 1) k2)).heap[q + 1]? = some (.cells #[.pointer (some ⟨b2, 0, none⟩)] 89 (0, 0)) ∧ (w1.setCell ⟨n₀, 0, none⟩ (.slice A2 (Lb.length + 1) k2)).heap[q + 1 + 1]? = some (.cells #[.string nm, .int .i64 kd, .int .i64 so, .int .i64 d, .int .i64 st, .int .i64 r] 81 (0, 0)) ∧ (w1.setCell ⟨n₀, 0, none⟩ (.slice A2 (Lb.length + 1) k2)).heap[q + 1 + 1 + 1]? = some (.cells #[.int .i64 co] 3 (0, 0))) ∧
      (∀ D ∈ Ds, (w1.setCell ⟨n₀, 0, none⟩ (.slice A2 (Lb.length + 1) k2)).heap[D]? = some (.deferred (some []))) ∧ Below n₀ Wu (w1.setCell ⟨n₀, 0, none⟩ (.slice A2 (Lb.length + 1) k2)) := by
  have hcs := own_cells (hv2.alloc o)
  have hlt := hv2.lt
  have keep : ∀ (k : Nat) (ob : Obj), W.heap[k]? = some ob → k ≠ n₀ → some k ≠ (Value.slice A1 Lb.length k1).ownBlock → (w1.setCell ⟨n₀, 0, none⟩ (.slice A2 (Lb.length + 1) k2)).heap[k]? = some ob := fun k ob hk hn ho =>
    (heap_setCell_other w1 ⟨n₀, 0, none⟩ k _ hn).trans ((g1.block k (by simp; have := blk_lt hk; omega) ho).trans ((Below.heap_alloc W o k (blk_lt hk)).trans hk))
  have b1 := keep q _ hq (by omega) (own_ne hv2 hq (by decide))
  have b2 := keep (q + 1) _ y1 (by omega) (own_ne hv2 y1 (by decide))
  have b3 := keep (q + 1 + 1) _ y2 (by omega) (own_ne hv2 y2 (by decide))
  have b4 := keep (q + 1 + 1 + 1) _ y3 (by omega) (own_ne hv2 y3 (by decide))
  have hBW : Below n₀ W (w1.setCell ⟨n₀, 0, none⟩ (.slice A2 (Lb.length + 1) k2)) :=
    B_set (Below.grown (B_alloc (Below.refl _ _) o (Nat.le_of_lt (blk_lt hv1))) g1 (by simp; have := blk_lt hv1; omega) (fun k hk => (hlt k hk).1)) (Nat.le_refl _) _
  refine ⟨(((KeepsOthers.alloc W o).from B).trans (keeps_cells g1 hcs)).trans ((KeepsOthers.setCell w1 _ _).from B), ⟨hBW, ?_⟩, ?_, b1, ⟨b2, b3, b4⟩, ?_, hB.trans hBW⟩
  · intro b hb _
    rcases hb with rfl | rfl | rfl
    · rw [b3, y2]
    · rw [b2, y1]
    · exact b4.trans y3.symm
  · subst hLn
    refine ⟨.slice A2 (Lb.length + 1) k2, by simpa using Joins.block_setCell (i := 0) hn1 (.slice A2 (Lb.length + 1) k2), ?_⟩
    have e : (Lb ++ [(⟨nm, x⟩ : Berth)]).flatMap Berth.cells = Lb.flatMap Berth.cells ++ [(⟨nm, x⟩ : Berth)].flatMap Berth.cells := by rw [List.flatMap_append]
    rw [e, List.length_append]
    exact h1.kept (grown_set w1 n₀ 0 _) (.inr (Ne.symm (own_ne h1 hn1 (by decide))))
  · intro D hDD
    have hk := hD D hDD
    refine keep D _ hk (fun e => ?_) (fun e => ?_)
    · subst e
      rw [hk] at hv1
      cases hv1
    · obtain ⟨cs, t, fr, hh⟩ := own_cells hv2 D e.symm
      rw [hk] at hh
      cases hh

set_option maxRecDepth 100000 in
set_option maxHeartbeats 2000000 in
theorem gFree_in (ss : List Site) (rs : List Rest) (A R : Option Addr) (n c rn rc : Nat) (c0 c1 c2 : Int) (es : List Event) (L : Option Addr) (ln lc : Nat) (co day : Int) (w : World) (hy : YardIn w ss rs A n c R rn rc) (hev : EventsIn w es L ln) (hroom : ∀ s ∈ ss, s.room ≤ 100000) :
    CallsIn Fence.wide 9 Tryz.prog 26 #[.agg #[.slice A n c, .slice R rn rc, .int .i64 c0, .int .i64 c1, .int .i64 c2], .slice L ln lc, .int .i64 co, .int .i64 day] w (ListPost w 115 2
      (((freeR (upToP ss rs day (bk0 A n c R rn rc c0 c1 c2) es) ss (readP ss rs (bk0 A n c R rn rc c0 c1 c2) es) co day).1.flatMap Berth.cells), (freeR (upToP ss rs day (bk0 A n c R rn rc c0 c1 c2) es) ss (readP ss rs (bk0 A n c R rn rc c0 c1 c2) es) co day).1.length)
      (freeR (upToP ss rs day (bk0 A n c R rn rc c0 c1 c2) es) ss (readP ss rs (bk0 A n c R rn rc c0 c1 c2) es) co day).2) := by
  have HR := fun W h1 h2 => read_any ss rs A R n c rn rc c0 c1 c2 es L ln lc W h1 h2
  have HU := fun W h1 h2 h3 h4 h5 => upTo_any ss rs A R n c rn rc c0 c1 c2 es L ln lc day W h1 h2 h3 h4 h5
  have hsm : (readP ss rs (bk0 A n c R rn rc c0 c1 c2) es).2 = 0 → ss.length ≤ 60 ∧ rs.length ≤ 40 ∧ es.length ≤ 300 := readP_small
  have hln := hev.hn
  subst hln
  generalize (readP ss rs (bk0 A n c R rn rc c0 c1 c2) es) = p at *
  generalize upToP ss rs day (bk0 A n c R rn rc c0 c1 c2) es = u at *
  obtain ⟨k, er⟩ := p
  refine callsIn_of_wp_marks Tryz.func26 rfl trivial ?_ rfl
  simp only [Tryz.ntmps26, List.size_toArray, List.length_cons, List.length_nil, Nat.reduceAdd, Nat.reduceSub, Array.replicate_succ, Array.replicate_zero, List.push_toArray, List.append_toArray, List.nil_append, List.cons_append]
  cases hq : (er != 0)
  · have HQ := Lib.hid hq
    have HSM := Lib.hid hsm
    clear hq hsm
    have hiso : ∀ o o', Go.Value.int o o' = Go.Value.int o o' := fun _ _ => rfl
    clear hiso
    cases hg1 : inR co 0 2
    · have hX : freeR u ss (k, er) co day = ([], 2) := by rw [freeR, if_neg (by rw [HQ.out]; exact Bool.false_ne_true), if_pos (by simp [hg1])]
      rw [hX]
      clear hX
      gi_wp2_with (first
        | (refine ⟨trivial, ?_⟩; gi_at_call 48; refine (callsIn_wide.2 (HR _ (hy.keep (by repeat (first | exact B_refl | exact Below.refl _ _ | assumption | with_reducible refine B_alloc ?_ _ | with_reducible refine B_ext ?_ _ | with_reducible refine B_drew ?_ | with_reducible refine B_drewN ?_ _ | with_reducible refine B_set ?_ (by simp; omega) _))) (hev.keep (by repeat (first | exact B_refl | exact Below.refl _ _ | assumption | with_reducible refine B_alloc ?_ _ | with_reducible refine B_ext ?_ _ | with_reducible refine B_drew ?_ | with_reducible refine B_drewN ?_ _ | with_reducible refine B_set ?_ (by simp; omega) _))))).mono ?_; intro e wq hpq; obtain ⟨base, bb, rfl, hbs, henv, zq, rfl⟩ := hpq.ok HQ.out; clear hpq)
        | (refine ⟨trivial, ?_⟩; gi_at_call 43; refine (callsIn_wide.2 (isContainer_any _ _)).mono ?_; rintro e wq ⟨rfl, rfl⟩; rw [hg1])
        | (refine ⟨trivial, ?_⟩; gi_wp2))
      refine leaves_none (.tuple #[.slice none 0 0, .int .i64 2]) (by simp [results, Tryz.f26]) ?_
      exact ListPost.none (by repeat (first | exact B_refl | exact Below.refl _ _ | assumption | with_reducible refine B_alloc ?_ _ | with_reducible refine B_ext ?_ _ | with_reducible refine B_drew ?_ | with_reducible refine B_drewN ?_ _ | with_reducible refine B_set ?_ (by simp; omega) _))
    cases hg2 : inR day 0 200000
    · have hX : freeR u ss (k, er) co day = ([], 2) := by rw [freeR, if_neg (by rw [HQ.out]; exact Bool.false_ne_true), if_pos (by simp [hg2])]
      rw [hX]
      clear hX
      gi_wp2_with (first
        | (refine ⟨trivial, ?_⟩; gi_at_call 48; refine (callsIn_wide.2 (HR _ (hy.keep (by repeat (first | exact B_refl | exact Below.refl _ _ | assumption | with_reducible refine B_alloc ?_ _ | with_reducible refine B_ext ?_ _ | with_reducible refine B_drew ?_ | with_reducible refine B_drewN ?_ _ | with_reducible refine B_set ?_ (by simp; omega) _))) (hev.keep (by repeat (first | exact B_refl | exact Below.refl _ _ | assumption | with_reducible refine B_alloc ?_ _ | with_reducible refine B_ext ?_ _ | with_reducible refine B_drew ?_ | with_reducible refine B_drewN ?_ _ | with_reducible refine B_set ?_ (by simp; omega) _))))).mono ?_; intro e wq hpq; obtain ⟨base, bb, rfl, hbs, henv, zq, rfl⟩ := hpq.ok HQ.out; clear hpq)
        | (refine ⟨trivial, ?_⟩; gi_at_call 43; refine (callsIn_wide.2 (isContainer_any _ _)).mono ?_; rintro e wq ⟨rfl, rfl⟩; rw [hg1])
        | (refine ⟨trivial, ?_⟩; gi_at_call 40; refine (callsIn_wide.2 (isDay_any _ _)).mono ?_; rintro e wq ⟨rfl, rfl⟩; rw [hg2]))
      refine leaves_none (.tuple #[.slice none 0 0, .int .i64 2]) (by simp [results, Tryz.f26]) ?_
      exact ListPost.none (by repeat (first | exact B_refl | exact Below.refl _ _ | assumption | with_reducible refine B_alloc ?_ _ | with_reducible refine B_ext ?_ _ | with_reducible refine B_drew ?_ | with_reducible refine B_drewN ?_ _ | with_reducible refine B_set ?_ (by simp; omega) _))
    have hX : freeR u ss (k, er) co day = (ss.flatMap (freeL u ss co), 0) := by rw [freeR, if_neg (by rw [HQ.out]; exact Bool.false_ne_true), if_neg (by simp [hg1, hg2])]
    rw [hX]
    clear hX
    obtain ⟨hs1, hs2, hs3⟩ := HSM.out (by simpa using HQ.out)
    have HC := Lib.hid (show 0 ≤ co ∧ co ≤ 2 by simpa [inR] using hg1)
    gi_wp2_with (first
      | (refine ⟨trivial, ?_⟩; gi_at_call 48; refine (callsIn_wide.2 (HR _ (hy.keep (by repeat (first | exact B_refl | exact Below.refl _ _ | assumption | with_reducible refine B_alloc ?_ _ | with_reducible refine B_ext ?_ _ | with_reducible refine B_drew ?_ | with_reducible refine B_drewN ?_ _ | with_reducible refine B_set ?_ (by simp; omega) _))) (hev.keep (by repeat (first | exact B_refl | exact Below.refl _ _ | assumption | with_reducible refine B_alloc ?_ _ | with_reducible refine B_ext ?_ _ | with_reducible refine B_drew ?_ | with_reducible refine B_drewN ?_ _ | with_reducible refine B_set ?_ (by simp; omega) _))))).mono ?_; intro e wq hpq; obtain ⟨base, bb, rfl, hbs, henv, zq, rfl⟩ := hpq.ok HQ.out; clear hpq)
      | (refine ⟨trivial, ?_⟩; gi_at_call 43; refine (callsIn_wide.2 (isContainer_any _ _)).mono ?_; rintro e wq ⟨rfl, rfl⟩; rw [hg1])
      | (refine ⟨trivial, ?_⟩; gi_at_call 40; refine (callsIn_wide.2 (isDay_any _ _)).mono ?_; rintro e wq ⟨rfl, rfl⟩; rw [hg2])
      | (refine ⟨trivial, ?_⟩; gi_at_call 56; refine (callsIn_wide.2 (HU _ (hy.keep (by repeat (first | exact B_refl | exact Below.refl _ _ | assumption | with_reducible refine B_alloc ?_ _ | with_reducible refine B_ext ?_ _ | with_reducible refine B_drew ?_ | with_reducible refine B_drewN ?_ _ | with_reducible refine B_set ?_ (by simp; omega) _))) (hev.keep (by repeat (first | exact B_refl | exact Below.refl _ _ | assumption | with_reducible refine B_alloc ?_ _ | with_reducible refine B_ext ?_ _ | with_reducible refine B_drew ?_ | with_reducible refine B_drewN ?_ _ | with_reducible refine B_set ?_ (by simp; omega) _))) hs1 hs2 hs3)).mono ?_; rintro e wq ⟨base2, b2, rfl, hbs2, henv2, z2, rfl⟩))
    have hn := hy.hn
    subst hn
    generalize hWu : World.ext (World.ext (w.alloc (.cells #[.slice A ss.length c, .slice R rn rc, .int .i64 c0, .int .i64 c1, .int .i64 c2] 40)) zq) z2 = Wu at henv2 ⊢
    have hB : Below w.heap.size w Wu := by rw [← hWu]; repeat (first | exact B_refl | exact Below.refl _ _ | assumption | with_reducible refine B_alloc ?_ _ | with_reducible refine B_ext ?_ _ | with_reducible refine B_drew ?_ | with_reducible refine B_drewN ?_ _ | with_reducible refine B_set ?_ (by simp; omega) _)
    generalize hn₀ : Wu.heap.size = n₀
    have hsz : w.heap.size + 1 + zq.os.size + z2.os.size = n₀ := by rw [← hn₀, ← hWu]; simp [ext_size]
    simp only [hsz]
    have hwn : w.heap.size ≤ n₀ := by rw [← hn₀]; exact hB.size
    clear hWu hsz HR HU hbs hbs2 henv HSM hev
    refine wpIn_loop (fun a' w' => ∃ (j : Nat) (Ds : List Nat) (u15 u16 u42 u43 u44 u45 u46 u47 u48 u49 u50 u51 u52 u53 u54 u55 u56 u57 u58 : Value), (j ≤ ss.length ∧ OutAt w' n₀ n₀ 62 115 2 (((ss.take j).flatMap (freeL u ss co)).flatMap Berth.cells) ((ss.take j).flatMap (freeL u ss co)).length ∧ Below n₀ Wu w' ∧ Ds.Nodup ∧ ∀ D ∈ Ds, n₀ ≤ D ∧ w'.heap[D]? = some (.deferred (some []))) ∧ a' = { tmps := #[.agg #[.slice A ss.length c, .slice R rn rc, .int .i64 c0, .int .i64 c1, .int .i64 c2], .slice L es.length lc, .int .i64 co, .int .i64 day, .pointer (some ⟨w.heap.size, 0, none⟩), undef, undef, undef, .slice none 0 0, .int .i64 0, .pointer (some ⟨bb, 0, none⟩), .int .i64 0, .pointer (some ⟨b2, 0, none⟩), .pointer (some ⟨n₀, 0, none⟩), undef, u15, u16, .tuple #[.pointer (some ⟨bb, 0, none⟩), .int .i64 0], .agg #[.slice A ss.length c, .slice R rn rc, .int .i64 c0, .int .i64 c1, .int .i64 c2], .slice L es.length lc, .tuple #[.pointer (some ⟨bb, 0, none⟩), .int .i64 0], .pointer (some ⟨bb, 0, none⟩), .int .i64 0, .int .i64 0, .bool false, undef, .int .i64 co, .bool true, .bool false, .bool false, .int .i64 day, .bool true, .bool false, .bool false, .agg #[.slice A ss.length c, .slice R rn rc, .int .i64 c0, .int .i64 c1, .int .i64 c2], .slice L es.length lc, .int .i64 day, .pointer (some ⟨b2, 0, none⟩), .pointer (some ⟨w.heap.size, 0, none⟩), .slice A ss.length c, .int .i64 ss.length, .int .i64 j, u42, u43, u44, u45, u46, u47, u48, u49, u50, u51, u52, u53, u54, u55, u56, u57, u58], defers := marks Ds }) (fun a' _ => ss.length - (intOf (a'.tmps.getD 41 undef)).toNat) ?_ ?_
    · exact ⟨0, [], _, _, _, _, _, _, _, _, _, _, _, _, _, _, _, _, _, _, _, ⟨Nat.zero_le _, ⟨.slice none 0 0, by rw [← hn₀]; exact heap_alloc_new Wu _, World.ownsRow_nil _ _ _ _⟩, by rw [← hn₀]; exact B_alloc (Below.refl _ _) _ (Nat.le_refl _), List.nodup_nil, fun D h => (by cases h)⟩, rfl⟩
    · rintro a' wr ⟨j, Ds, u15, u16, u42, u43, u44, u45, u46, u47, u48, u49, u50, u51, u52, u53, u54, u55, u56, u57, u58, ⟨hj, hout, hBr, hnd, hDs⟩, rfl⟩
      dsimp only
      by_cases hlt : j < ss.length
      · obtain ⟨b, off, rfl, hb, hc⟩ := (hy.sl.keep (n := w.heap.size) (hB.trans (hBr.mono hwn))).at hlt
        have x0 : wr.cell? ⟨b, off + j * 6, none⟩ = some (.string ss[j].name) := hc 0 _ rfl
        have x1 : wr.cell? ⟨b, off + j * 6 + 1, none⟩ = some (.int .i64 ss[j].kind) := hc 1 _ rfl
        have x2 : wr.cell? ⟨b, off + j * 6 + 2, none⟩ = some (.int .i64 ss[j].soil) := hc 2 _ rfl
        have x3 : wr.cell? ⟨b, off + j * 6 + 3, none⟩ = some (.int .i64 ss[j].depth) := hc 3 _ rfl
        have x4 : wr.cell? ⟨b, off + j * 6 + 4, none⟩ = some (.int .i64 ss[j].step) := hc 4 _ rfl
        have x5 : wr.cell? ⟨b, off + j * 6 + 5, none⟩ = some (.int .i64 ss[j].room) := hc 5 _ rfl
        have hrm := hroom _ (List.getElem_mem hlt)
        have ht1 : ss.take (j + 1) = ss.take j ++ [ss[j]] := List.take_succ_eq_append_getElem hlt
        have HT1 := Lib.hid ht1
        clear hc ht1
        generalize ss[j] = s at *
        obtain ⟨nm, kd, so, d, st, r⟩ := s
        dsimp only at x0 x1 x2 x3 x4 x5 hrm HT1
        have hlt2 : (j : Int) < (ss.length : Int) := by omega
        gi_wp2_with (refine ⟨trivial, ?_⟩; gi_at_call 57; refine (callsIn_wide.2 (free_any _ _ _ _ _ _ _ _ _)).mono ?_; rintro e wq ⟨rfl, rfl⟩)
        generalize hW3 : (((wr.alloc (.cells #[.string nm, .int .i64 kd, .int .i64 so, .int .i64 d, .int .i64 st, .int .i64 r] 81)).alloc (.cells #[.pointer (some ⟨b2, 0, none⟩)] 89)).alloc (.cells #[.string nm, .int .i64 kd, .int .i64 so, .int .i64 d, .int .i64 st, .int .i64 r] 81)).alloc (.cells #[.int .i64 co] 3) = W3
        obtain ⟨v0, hv1, hv2⟩ := hout
        have hqn := blk_lt hv1
        generalize hqd : wr.heap.size = q at *
        have hz3 : W3.heap.size = q + 4 := by rw [← hW3]; simp [hqd]
        have s0 : W3.heap[q]? = some (.cells #[.string nm, .int .i64 kd, .int .i64 so, .int .i64 d, .int .i64 st, .int .i64 r] 81 (0, 0)) := by rw [← hW3]; simp only [alloc_get, World.size_alloc, hqd]; rw [if_neg (by omega), if_neg (by omega), if_neg (by omega), if_pos trivial]
        have s1 : W3.heap[q + 1]? = some (.cells #[.pointer (some ⟨b2, 0, none⟩)] 89 (0, 0)) := by rw [← hW3]; simp only [alloc_get, World.size_alloc, hqd]; rw [if_neg (by omega), if_neg (by omega), if_pos trivial]
        have s2 : W3.heap[q + 1 + 1]? = some (.cells #[.string nm, .int .i64 kd, .int .i64 so, .int .i64 d, .int .i64 st, .int .i64 r] 81 (0, 0)) := by rw [← hW3]; simp only [alloc_get, World.size_alloc, hqd]; rw [if_neg (by omega), if_pos trivial]
        have s3 : W3.heap[q + 1 + 1 + 1]? = some (.cells #[.int .i64 co] 3 (0, 0)) := by rw [← hW3]; simp only [alloc_get, World.size_alloc, hqd]; rw [if_pos trivial]
        have hBq : Below q wr W3 := by rw [← hW3, ← hqd]; repeat (first | exact B_refl | exact Below.refl _ _ | assumption | with_reducible refine B_alloc ?_ _ | with_reducible refine B_ext ?_ _ | with_reducible refine B_drew ?_ | with_reducible refine B_drewN ?_ _ | with_reducible refine B_set ?_ (by simp; omega) _)
        have hB3 : Below n₀ Wu W3 := hBr.trans (hBq.mono (by omega))
        have out3 : OutAt W3 n₀ n₀ 62 115 2 (((ss.take j).flatMap (freeL u ss co)).flatMap Berth.cells) ((ss.take j).flatMap (freeL u ss co)).length := ⟨v0, (hBq.block n₀ hqn).trans hv1, own_keep hv2 hBq (by omega)⟩
        have hD3 : ∀ D ∈ Ds, W3.heap[D]? = some (.deferred (some [])) := fun D hD => (hBq.block D (by have := blk_lt (hDs D hD).2; omega)).trans (hDs D hD).2
        have hdn : ((ss.take j).flatMap (freeL u ss co)).length ≤ 6000000 := freeL_bound u ss co hroom hs1 j
        have HN2 := Lib.hid hn₀
        have HD0 := Lib.hid hDs
        clear hv1 hv2 hW3 hBq x0 x1 x2 x3 x4 x5 hDs
        generalize hdd : (ss.take j).flatMap (freeL u ss co) = dn at *
        obtain ⟨hc1, hc2⟩ := HC.out
        refine wpIn_range_bound rfl (by omega) (gf := 83) (lf := #[]) (lb := #[.pointer (some ⟨q + 1 + 1, 0, none⟩), .pointer (some ⟨q + 1, 0, none⟩), .pointer (some ⟨q + 1 + 2, 0, none⟩)]) rfl trivial (enters_of Tryz.func83 (by kernel_rfl) rfl)
          (free1_seq (9 - 1) (by omega) n₀ base2 b2 (q + 1 + 1) (q + 1) (q + 1 + 2) u ss rs nm kd so d st r co Wu W3 henv2 (by have := HN2.out; omega) (by omega) hB3 s2 s1 s3 hrm hc1 hc2) Kf.trans
          (fun W l o o' hl ho _ _ => Kf.put W o o' (by omega) (by omega) (by omega) (by omega)) (Below.refl _ _) (fun _ => rfl)
          (fun pre W => OutAt W n₀ n₀ 62 115 2 ((dn ++ pre.map fun l => (⟨nm, l⟩ : Berth)).flatMap Berth.cells) (dn ++ pre.map fun l => (⟨nm, l⟩ : Berth)).length ∧ W.heap[q]? = some (.cells #[.string nm, .int .i64 kd, .int .i64 so, .int .i64 d, .int .i64 st, .int .i64 r] 81 (0, 0)) ∧ (W.heap[q + 1]? = some (.cells #[.pointer (some ⟨b2, 0, none⟩)] 89 (0, 0)) ∧ W.heap[q + 1 + 1]? = some (.cells #[.string nm, .int .i64 kd, .int .i64 so, .int .i64 d, .int .i64 st, .int .i64 r] 81 (0, 0)) ∧ W.heap[q + 1 + 1 + 1]? = some (.cells #[.int .i64 co] 3 (0, 0))) ∧ (∀ D ∈ Ds, W.heap[D]? = some (.deferred (some []))) ∧ Below n₀ Wu W)
          (fun _ _ _ => False)
          (fun s A B row hs hg hr => ⟨hs.1.kept hg (fun r e => (hr r e).2), blk_own hs.2.1 hg (fun r e => (hr r e).2), ⟨blk_own hs.2.2.1.1 hg (fun r e => (hr r e).2), blk_own hs.2.2.1.2.1 hg (fun r e => (hr r e).2), blk_own hs.2.2.1.2.2 hg (fun r e => (hr r e).2)⟩, fun D hD => (hg.block D (blk_lt (hs.2.2.2.1 D hD)) (fun e => by have h1 := (hr D e.symm).1; have h2 := blk_lt (hD3 D hD); omega)).trans (hs.2.2.2.1 D hD),
            hs.2.2.2.2.grown hg (by have := hs.2.2.2.2.size; have := HN2.out; omega) (fun r e => by have := (hr r e).1; omega)⟩)
          (fun _ s A B row hs _ _ => hs.elim) ⟨by simpa using out3, s0, ⟨s1, s2, s3⟩, hD3, hB3⟩
          (fun x a' _ => a' = { tmps := #[.agg #[.slice (some ⟨b, off, none⟩) ss.length c, .slice R rn rc, .int .i64 c0, .int .i64 c1, .int .i64 c2], .slice L es.length lc, .int .i64 co, .int .i64 day, .pointer (some ⟨w.heap.size, 0, none⟩), undef, undef, undef, .slice none 0 0, .int .i64 0, .pointer (some ⟨bb, 0, none⟩), .int .i64 0, .pointer (some ⟨b2, 0, none⟩), .pointer (some ⟨n₀, 0, none⟩), undef, .pointer (some ⟨q, 0, none⟩), .int .i64 x, .tuple #[.pointer (some ⟨bb, 0, none⟩), .int .i64 0], .agg #[.slice (some ⟨b, off, none⟩) ss.length c, .slice R rn rc, .int .i64 c0, .int .i64 c1, .int .i64 c2], .slice L es.length lc, .tuple #[.pointer (some ⟨bb, 0, none⟩), .int .i64 0], .pointer (some ⟨bb, 0, none⟩), .int .i64 0, .int .i64 0, .bool false, undef, .int .i64 co, .bool true, .bool false, .bool false, .int .i64 day, .bool true, .bool false, .bool false, .agg #[.slice (some ⟨b, off, none⟩) ss.length c, .slice R rn rc, .int .i64 c0, .int .i64 c1, .int .i64 c2], .slice L es.length lc, .int .i64 day, .pointer (some ⟨b2, 0, none⟩), .pointer (some ⟨w.heap.size, 0, none⟩), .slice (some ⟨b, off, none⟩) ss.length c, .int .i64 ss.length, .int .i64 j, .bool true, .pointer (some ⟨b, off + j * 6, none⟩), .agg #[.string nm, .int .i64 kd, .int .i64 so, .int .i64 d, .int .i64 st, .int .i64 r], .pointer (some ⟨b2, 0, none⟩), .agg #[.string nm, .int .i64 kd, .int .i64 so, .int .i64 d, .int .i64 st, .int .i64 r], .int .i64 co, .func (.func 83) #[] #[.pointer (some ⟨q + 1 + 1, 0, none⟩), .pointer (some ⟨q + 1, 0, none⟩), .pointer (some ⟨q + 1 + 2, 0, none⟩)], .int .i64 x, u50, u51, u52, u53, u54, u55, u56, u57, u58], defers := [] }) (fun x a' s A B row hs _ _ => hs) ?assign ?body ?done ?stop
        case assign =>
          rintro l pre x W K hi hK
          gi_wp2
          exact hK _ _ (KeepsFrom.refl _ _) (Kf.refl _ _ _ _ _) hi rfl
        case body =>
          rintro l pre x a' W hWl _ ⟨⟨v, hv1, hv2⟩, hq, hbx, hDW, hBW⟩ rfl hlen
          obtain ⟨A1, k1, rfl, _, _⟩ := own_sl berth_len hv2
          have hbl := freeTo_len u ss nm co r.toNat
          have hbd : (dn ++ pre.map fun l => (⟨nm, l⟩ : Berth)).length ≤ 7000000 := by simp; omega
          have hnx : dn ++ (pre ++ [x]).map (fun l => (⟨nm, l⟩ : Berth)) = (dn ++ pre.map fun l => (⟨nm, l⟩ : Berth)) ++ [⟨nm, x⟩] := by simp
          have HNX := Lib.hid hnx
          have HDW := Lib.hid hDW
          have HBX := Lib.hid hbx
          clear hbx
          have HH0 := Lib.hid hD3
          clear hnx hDW hD3 hdd
          generalize (dn ++ pre.map fun l => (⟨nm, l⟩ : Berth)) = Lb at *
          have hvc : W.cell? ⟨n₀, 0, none⟩ = some (.slice A1 Lb.length k1) := by simp [World.cell?, hv1]
          have hqc : W.cell? ⟨q, 0, none⟩ = some (.string nm) := by simp [World.cell?, hq]
          have hnW := blk_lt hv1
          have hqW := blk_lt hq
          gi_wp2_with (gi_at_builtin; refine wpListIn_append_sl rfl _ _ rfl elBerth berth_len berth_one (base := n₀) (n := Lb.length) (m := 1) (v := .slice A1 Lb.length k1) rfl (hv2.alloc _) rfl (ys := [⟨nm, x⟩]) rfl (sl_berth (t := 115) (fr := (0, 0)) (heap_alloc_new W _)) (by simp [maxLen]; omega) (by omega) (by simp; omega) ?_; intro v' w1 h1 g1; obtain ⟨A2, k2, rfl, hn1, hf1, hc1⟩ := berth_step hv1 hv2 h1 g1)
          obtain ⟨y1, y2, y3⟩ := HBX.out
          refine berth_done (o := .cells #[.string nm, .int .i64 x] 115) hv1 hv2 h1 g1 hn1 hq y1 y2 y3 HDW.out (by omega) hBW HNX.out
        case done =>
          rintro D ys W hD rfl ⟨hout, hq, _, hDW, hBW⟩ hK
          gi_wp2
          refine ⟨⟨j + 1, D :: Ds, _, _, _, _, _, _, _, _, _, _, _, _, _, _, _, _, _, _, _, ⟨by omega, ?_, hBW, ?_, ?_⟩, rfl⟩, ?_⟩
          · rw [HT1.out, List.flatMap_append, hdd]
            simpa [freeL] using hout
          · exact List.nodup_cons.2 ⟨fun h => by have := blk_lt (hD3 D h); omega, hnd⟩
          · intro D' hD'
            rcases List.mem_cons.1 hD' with rfl | h
            · exact ⟨by omega, hK⟩
            · exact ⟨(HD0.out D' h).1, hDW D' h⟩
          · simp [intOf]; omega
        case stop =>
          rintro D cc pre W _ _ h _
          exact h.elim
      · have hj2 : j = ss.length := by omega
        obtain ⟨v, hv1, hv2⟩ := hout
        rw [hj2, List.take_length] at hv2
        obtain ⟨A', c', rfl, _, _⟩ := own_sl berth_len hv2
        have hvc : wr.cell? ⟨n₀, 0, none⟩ = some (.slice A' (ss.flatMap (freeL u ss co)).length c') := by simp [World.cell?, hv1]
        clear hj2
        have HDS := Lib.hid hDs
        have HV := Lib.hid hv2
        clear hDs hv2
        generalize ss.flatMap (freeL u ss co) = L at *
        gi_wp2
        refine leaves_marks (base := w.heap.size) Ds wr hnd (fun D hD => ⟨by have := (HDS.out D hD).1; omega, (HDS.out D hD).2⟩) fun w' hB' hc' => ⟨.tuple #[.slice A' L.length c', .int .i64 0], by simp [results, Tryz.f26], _, rfl, own_mono' (own_of_cells HV.out hc') hwn, ext_below ((hB.trans (hBr.mono hwn)).trans hB')⟩
  · have HQ := Lib.hid hq
    clear hsm
    have hX : freeR u ss (k, er) co day = ([], er) := by rw [freeR, if_pos HQ.out]
    rw [hX]
    clear hX
    gi_wp2_with (refine ⟨trivial, ?_⟩; gi_at_call 48; refine (callsIn_wide.2 (HR _ (hy.keep (by repeat (first | exact B_refl | exact Below.refl _ _ | assumption | with_reducible refine B_alloc ?_ _ | with_reducible refine B_ext ?_ _ | with_reducible refine B_drew ?_ | with_reducible refine B_drewN ?_ _ | with_reducible refine B_set ?_ (by simp; omega) _))) (hev.keep (by repeat (first | exact B_refl | exact Below.refl _ _ | assumption | with_reducible refine B_alloc ?_ _ | with_reducible refine B_ext ?_ _ | with_reducible refine B_drew ?_ | with_reducible refine B_drewN ?_ _ | with_reducible refine B_set ?_ (by simp; omega) _))))).mono ?_; intro e wq hpq; obtain ⟨rfl, zq, rfl⟩ := hpq.bad HQ.out; clear hpq)
    refine leaves_none (.tuple #[.slice none 0 0, .int .i64 er]) (by simp [results, Tryz.f26]) ?_
    exact ListPost.none (by repeat (first | exact B_refl | exact Below.refl _ _ | assumption | with_reducible refine B_alloc ?_ _ | with_reducible refine B_ext ?_ _ | with_reducible refine B_drew ?_ | with_reducible refine B_drewN ?_ _ | with_reducible refine B_set ?_ (by simp; omega) _))
end Go.Proofs.YtpohkolapgofdaaGreatDoor
