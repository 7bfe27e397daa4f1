/- Walks: the iterator over the free levels of a site. -/
import Derived.Test.YtpohkolapgofdaaGreatB6
namespace Go.Proofs.YtpohkolapgofdaaGreat
open Go.RowKit Go.Shelf
attribute [local go_sem] World.cell?_alloc_mark ext_size ext_cell ext_frozen lt_add_r lt_add_r2 lt_add_r3 lt_add_r4 lt_add_r5 lt_add_r6 lt_add_r7 lt_add_r8
attribute [local go_sem] Oper.semAt_some

def FreePost (w : World) (bb : Nat) (nm : ByteArray) (kd so d st r co : Int) (e : Ending) (w' : World) : Prop :=
  e = .returned (.func (.func 80) #[] #[.pointer (some ⟨w.heap.size + 1, 0, none⟩), .pointer (some ⟨w.heap.size, 0, none⟩), .pointer (some ⟨w.heap.size + 2, 0, none⟩)]) ∧
  w' = ((w.alloc (.cells #[.pointer (some ⟨bb, 0, none⟩)] 79)).alloc (.cells #[.string nm, .int .i64 kd, .int .i64 so, .int .i64 d, .int .i64 st, .int .i64 r] 78)).alloc (.cells #[.int .i64 co] 3)
set_option maxRecDepth 100000 in
set_option maxHeartbeats 2000000 in
theorem free_any (bb : Nat) (nm : ByteArray) (kd so d st r co : Int) (w : World) :
    Calls Tryz.prog 56 #[.pointer (some ⟨bb, 0, none⟩), .agg #[.string nm, .int .i64 kd, .int .i64 so, .int .i64 d, .int .i64 st, .int .i64 r], .int .i64 co] w (FreePost w bb nm kd so d st r co) := by
  go_enter Tryz.func56, Tryz.ntmps56
  go_wp2_with fail
  go_ret
  exact ⟨rfl, rfl⟩

def freeTo (k : Bk) (ss : List Site) (nm : ByteArray) (co : Int) (j : Nat) : List Int := ((List.range j).filter fun (l : Nat) => placeP k ss nm (l : Int) co == 0).map fun (l : Nat) => (l : Int)
theorem freeTo_succ (k : Bk) (ss : List Site) (nm : ByteArray) (co : Int) (j : Nat) : freeTo k ss nm co (j + 1) = freeTo k ss nm co j ++ (if placeP k ss nm (j : Int) co == 0 then [(j : Int)] else []) := by
  unfold freeTo
  rw [List.range_succ, List.filter_append, List.map_append]
  congr 1
  cases h : (placeP k ss nm (j : Int) co == 0) <;> simp [h]
theorem freeTo_prefix (k : Bk) (ss : List Site) (nm : ByteArray) (co : Int) (j : Nat) : ∀ m, freeTo k ss nm co j <+: freeTo k ss nm co (j + m)
  | 0 => List.prefix_refl _
  | m + 1 => by
    rw [← Nat.add_assoc, freeTo_succ]
    exact (freeTo_prefix k ss nm co j m).trans (List.prefix_append _ _)

/-- What a round of a range over 'free' keeps: what lay below n₀, and the three boxes of the closure. -/
def Kf (n₀ b1 b2 b3 : Nat) (A B : World) : Prop := Below n₀ A B ∧ ∀ b, b = b1 ∨ b = b2 ∨ b = b3 → b < A.heap.size → B.heap[b]? = A.heap[b]?
theorem Kf.refl (n₀ b1 b2 b3 : Nat) (A : World) : Kf n₀ b1 b2 b3 A A := ⟨Below.refl _ _, fun _ _ _ => rfl⟩
theorem Kf.trans {n₀ b1 b2 b3 : Nat} {A B C : World} (h : Kf n₀ b1 b2 b3 A B) (k : Kf n₀ b1 b2 b3 B C) : Kf n₀ b1 b2 b3 A C :=
  ⟨h.1.trans k.1, fun b hb hl => (k.2 b hb (Nat.lt_of_lt_of_le hl h.1.size)).trans (h.2 b hb hl)⟩
theorem Kf.ext {n₀ b1 b2 b3 : Nat} {A : World} (z : Ez) (h : n₀ ≤ A.heap.size) : Kf n₀ b1 b2 b3 A (A.ext z) := ⟨(below_ext A z).mono h, fun b _ hl => ext_heap_lt A z b hl⟩
theorem Kf.blk {n₀ b1 b2 b3 : Nat} {A B : World} (h : Kf n₀ b1 b2 b3 A B) {b : Nat} {o : Obj} (hb : b = b1 ∨ b = b2 ∨ b = b3) (ho : A.heap[b]? = some o) : B.heap[b]? = some o := (h.2 b hb (blk_lt ho)).trans ho
theorem Kf.put {n₀ b1 b2 b3 l : Nat} (W : World) (o o' : Obj) (h0 : n₀ ≤ l) (h1 : b1 < l) (h2 : b2 < l) (h3 : b3 < l) : Kf n₀ b1 b2 b3 W (W.putObj l o') := by
  have hp : ∀ k, k ≠ l → (W.putObj l o').heap[k]? = W.heap[k]? := fun k hk => by
    simp only [World.putObj, Array.getElem?_setIfInBounds]
    rw [if_neg (fun e => hk e.symm)]
  refine ⟨⟨rfl, rfl, rfl, by simp [World.putObj], fun k hk => hp k (by omega)⟩, fun b hb _ => hp b ?_⟩
  rcases hb with rfl | rfl | rfl <;> omega

set_option maxRecDepth 100000 in
set_option maxHeartbeats 2000000 in
theorem free1_in (n : Nat) (hn : 2 ≤ n) (l n₀ base bb b1 b2 b3 : Nat) (k : Bk) (ss : List Site) (rs : List Rest) (nm : ByteArray) (kd so d st r co : Int) (J Jx : List Int → World → Prop) (W : World) (hn₀ : n₀ ≤ W.heap.size)
    (hJ : AbidesFrom W.heap.size J)
    (hY : ∀ pre x W1, J pre W1 → pre.length < (freeTo k ss nm co r.toNat).length → YieldAt Fence.wide (n - 1) Tryz.prog l #[.int .i64 x] W1 fun e W' =>
      (e = .returned (.bool true) ∧ J (pre ++ [x]) W' ∧ Kf n₀ b1 b2 b3 W1 W') ∨ (e = .returned (.bool false) ∧ Jx (pre ++ [x]) W'))
    (henv : ∃ w0, Env w0 base bb k ss rs ∧ w0.heap.size ≤ n₀ ∧ Below n₀ w0 W)
    (x : W.heap[b1]? = some (.cells #[.string nm, .int .i64 kd, .int .i64 so, .int .i64 d, .int .i64 st, .int .i64 r] 78)) (y : W.heap[b2]? = some (.cells #[.pointer (some ⟨bb, 0, none⟩)] 79)) (z : W.heap[b3]? = some (.cells #[.int .i64 co] 3)) (hr : r ≤ 100000) (hc1 : 0 ≤ co) (hc2 : co ≤ 2) (h0 : J [] W) :
    CallsIn Fence.wide n Tryz.prog 80 #[.func (.yield l) #[] #[], .pointer (some ⟨b1, 0, none⟩), .pointer (some ⟨b2, 0, none⟩), .pointer (some ⟨b3, 0, none⟩)] W fun e W' => (∃ v, e = .returned v) ∧
      ((∃ ys, ys = freeTo k ss nm co r.toNat ∧ J ys W') ∨ (∃ pre, pre <+: freeTo k ss nm co r.toNat ∧ Jx pre W')) := by
  obtain ⟨w0, henv, hw0, hB0⟩ := henv
  have x5 : W.cell? ⟨b1, 5, none⟩ = some (.int .i64 r) := by simp [World.cell?, x]
  refine callsIn_of_wp Tryz.func80 rfl trivial ?_ rfl
  simp only [Tryz.ntmps80, List.size_toArray, List.length_cons, List.length_nil, Nat.reduceAdd, Nat.reduceSub, Array.replicate_succ, Array.replicate_zero, List.push_toArray, List.append_toArray, List.nil_append, List.cons_append]
  gi_wp2
  gi_loopw [5, 8] (fun _ i wr => ∃ j : Nat, j ≤ r.toNat ∧ i = .int .i64 j ∧ J (freeTo k ss nm co j) wr ∧ Kf n₀ b1 b2 b3 W wr) (fun _ i _ => r.toNat - (intOf i).toNat)
  case atStart => exact ⟨0, Nat.zero_le _, rfl, h0, Kf.refl _ _ _ _ _⟩
  case round =>
    obtain ⟨j, hj, rfl, hJs, hBr⟩ := hrel
    by_cases hjl : j < r.toNat
    · have hlt : (j : Int) < r := by omega
      have a0 : wr.cell? ⟨b1, 0, none⟩ = some (.string nm) := by simp [World.cell?, hBr.blk (.inl rfl) x]
      have a1 : wr.cell? ⟨b2, 0, none⟩ = some (.pointer (some ⟨bb, 0, none⟩)) := by simp [World.cell?, hBr.blk (.inr (.inl rfl)) y]
      have a2 : wr.cell? ⟨b3, 0, none⟩ = some (.int .i64 co) := by simp [World.cell?, hBr.blk (.inr (.inr rfl)) z]
      have hew : Env wr base bb k ss rs := henv.keep (hB0.trans hBr.1) hw0
      have hT := freeTo_succ k ss nm co j
      have hlen : (freeTo k ss nm co j).length + (if placeP k ss nm (j : Int) co == 0 then 1 else 0) ≤ (freeTo k ss nm co r.toNat).length := by
        have := (freeTo_prefix k ss nm co (j + 1) (r.toNat - (j + 1))).length_le
        rw [show j + 1 + (r.toNat - (j + 1)) = r.toNat by omega, hT] at this
        by_cases ht : (placeP k ss nm (j : Int) co == 0) = true <;> simp [ht] at this ⊢ <;> omega
      have hpre := freeTo_prefix k ss nm co (j + 1) (r.toNat - (j + 1))
      rw [show j + 1 + (r.toNat - (j + 1)) = r.toNat by omega] at hpre
      have HT := Lib.hid hT
      have HPRE := Lib.hid hpre
      clear hT x y z x5 henv hB0 hpre
      cases hp : (placeP k ss nm (j : Int) co == 0)
      · have HP := Lib.hid hp
        gi_wp2_with (refine ⟨trivial, fun _ => (by omega), ?_⟩; gi_at_call 81; refine (callsIn_wide.2 (place_any base bb k ss rs _ _ _ _ hew (by omega) (by omega) hc1 hc2)).mono ?_; rintro e wq ⟨rfl, zq, rfl⟩)
        refine ⟨fun _ h => (by cases h), ?_⟩
        gi_wp2
        go_roundw
        case rel => exact ⟨j + 1, by omega, by go_num, by rw [HT.out, HP.out, if_neg Bool.false_ne_true, List.append_nil]; exact hJ _ _ _ none hJs (grown_ext (World.grownBy.refl _ _) zq) (fun r e => (by cases e)), hBr.trans (Kf.ext zq (Nat.le_trans hn₀ hBr.1.size))⟩
        case measure => simp [intOf]; omega
      · rw [hp, if_pos rfl] at hlen
        have HP := Lib.hid hp
        gi_wp2_with (refine ⟨trivial, fun _ => (by omega), ?_⟩; gi_at_call 81; refine (callsIn_wide.2 (place_any base bb k ss rs _ _ _ _ hew (by omega) (by omega) hc1 hc2)).mono ?_; rintro e wq ⟨rfl, zq, rfl⟩; obtain ⟨fn, tmps, assign, body, hy, hR⟩ := hY _ (j : Int) _ (hJ _ _ _ none hJs (grown_ext (World.grownBy.refl _ _) zq) (fun r e => by cases e)) (by omega))
        refine ⟨fun _ => (by omega), hR.mono ?_⟩
        rintro e W3 (⟨rfl, hJ3, hk3⟩ | ⟨rfl, hJx3⟩)
        · gi_wp2
          go_roundw
          case rel => exact ⟨j + 1, by omega, by go_num, by rw [HT.out, HP.out, if_pos rfl]; exact hJ3, (hBr.trans (Kf.ext zq (Nat.le_trans hn₀ hBr.1.size))).trans hk3⟩
          case measure => simp [intOf]; omega
        · gi_wp2
          refine bodyPost_ret (results_none rfl _ _ _) rfl ?_
          refine ⟨⟨_, rfl⟩, .inr ⟨_, ?_, hJx3⟩⟩
          have hp := HPRE.out
          rw [HT.out, HP.out, if_pos rfl] at hp
          exact hp
    · have hj2 : j = r.toNat := by omega
      subst hj2
      gi_wp2
      go_end0
      exact ⟨⟨_, rfl⟩, .inl ⟨_, rfl, hJs⟩⟩

theorem free1_seq (n : Nat) (hn : 2 ≤ n) (n₀ base bb b1 b2 b3 : Nat) (k : Bk) (ss : List Site) (rs : List Rest) (nm : ByteArray) (kd so d st r co : Int) (w0 w : World) (henv : Env w0 base bb k ss rs) (h0 : w0.heap.size ≤ n₀) (hn₀ : n₀ ≤ w.heap.size) (hb : Below n₀ w0 w)
    (x : w.heap[b1]? = some (.cells #[.string nm, .int .i64 kd, .int .i64 so, .int .i64 d, .int .i64 st, .int .i64 r] 78)) (y : w.heap[b2]? = some (.cells #[.pointer (some ⟨bb, 0, none⟩)] 79)) (z : w.heap[b3]? = some (.cells #[.int .i64 co] 3)) (hr : r ≤ 100000) (hc1 : 0 ≤ co) (hc2 : co ≤ 2) :
    SeqBound Fence.wide n Tryz.prog 80 #[] #[.pointer (some ⟨b1, 0, none⟩), .pointer (some ⟨b2, 0, none⟩), .pointer (some ⟨b3, 0, none⟩)] (fun x : Int => #[.int .i64 x]) (Kf n₀ b1 b2 b3) (fun ys => ys = freeTo k ss nm co r.toNat) (fun pre => pre <+: freeTo k ss nm co r.toNat) (freeTo k ss nm co r.toNat).length w := fun l J Jx W hW hJ _ hY hJ0 =>
  free1_in n hn l n₀ base bb b1 b2 b3 k ss rs nm kd so d st r co J Jx W (Nat.le_trans hn₀ hW.size) hJ hY ⟨w0, henv, h0, hb.trans (hW.mono hn₀)⟩
    ((hW.block b1 (blk_lt x)).trans x) ((hW.block b2 (blk_lt y)).trans y) ((hW.block b3 (blk_lt z)).trans z) hr hc1 hc2 hJ0

/-! ### marks: a function that has ranged over functions, in a loop -/
def marks (Ds : List Nat) : List Deferred := Ds.map fun D => { target := .collected D, args := #[] }
theorem leaves_marks {F : Fence} {n : Nat} {P : Program} {fn : Func} {tmps : Array Value} {R : Ending → World → Prop} {base : Nat} : ∀ (Ds : List Nat) (w : World), Ds.Nodup → (∀ D ∈ Ds, base ≤ D ∧ w.heap[D]? = some (.deferred (some []))) →
    (∀ w', Below base w w' → (∀ (k : Nat) (cs : Array Value) (t : TypeId) (fr : Nat × Nat), w.heap[k]? = some (.cells cs t fr) → w'.heap[k]? = some (.cells cs t fr)) → ∃ v, (results fn tmps).run P w' = .ok v w' ∧ R (.returned v) w') →
    LeavesInM F n P fn tmps R (marks Ds) .returning w
  | [], w, _, _, h => h w (Below.refl _ _) fun _ _ _ _ h => h
  | D :: Ds, w, hnd, hD, h => by
    obtain ⟨hb, hK⟩ := hD D (by simp)
    have hnd' := List.nodup_cons.1 hnd
    refine ⟨by simp, .inl ⟨D, _, rfl, run_takeDeferred hK, ?_⟩⟩
    have hp : ∀ k, k ≠ D → (w.putObj D (.deferred none)).heap[k]? = w.heap[k]? := fun k hk => by
      simp only [World.putObj, Array.getElem?_setIfInBounds]
      rw [if_neg (fun e => hk e.symm)]
    refine leaves_marks Ds (w.putObj D (.deferred none)) hnd'.2 (fun D' hD' => ⟨(hD D' (by simp [hD'])).1, (hp D' (fun e => hnd'.1 (e ▸ hD'))).trans (hD D' (by simp [hD'])).2⟩) fun w' hB hc => ?_
    refine h w' (Below.trans (⟨rfl, rfl, rfl, by simp [World.putObj], fun k hk => hp k (by omega)⟩ : Below base w (w.putObj D (.deferred none))) hB) fun k cs t fr hk => hc k cs t fr ((hp k (fun e => ?_)).trans hk)
    subst e
    rw [hK] at hk
    cases hk
end Go.Proofs.YtpohkolapgofdaaGreat
