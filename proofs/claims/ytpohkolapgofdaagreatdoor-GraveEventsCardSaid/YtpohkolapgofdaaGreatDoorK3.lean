/- The book: a yard behind some events, in memory; its iterator. -/
/- Words for a book that is written: its block, its row of stays. -/
import Derived.Test.YtpohkolapgofdaaGreatDoorM0
import Derived.Test.YtpohkolapgofdaaGreatDoorR0
import Derived.Lib.SmallJoins
import Derived.Deep.AppendLies
namespace Go.Proofs.YtpohkolapgofdaaGreatDoor
open Go.RowKit Go.Shelf
attribute [local go_sem] World.cell?_alloc_mark ext_size ext_cell ext_frozen lt_add_r lt_add_r2 lt_add_r3 lt_add_r4 lt_add_r5 lt_add_r6 lt_add_r7 lt_add_r8
attribute [local go_sem] Oper.semAt_some

theorem alloc_get (w : World) (o : Obj) (k : Nat) : (w.alloc o).heap[k]? = if k = w.heap.size then some o else w.heap[k]? := by
  show (w.heap.push o)[k]? = _
  rw [Array.getElem?_push]

structure Bk where
  A : Option Addr
  n : Nat
  c : Nat
  R : Option Addr
  rn : Nat
  rc : Nat
  c0 : Int
  c1 : Int
  c2 : Int
  st : List Stay
  m : List (ByteArray × Int)
  day : Int

/-- Block bb is the book k; its own memory lies from base on. -/
def BookAt (w : World) (base bb : Nat) (k : Bk) : Prop := ∃ (v : Value) (bm : Nat),
  w.heap[bb]? = some (.cells #[.slice k.A k.n k.c, .slice k.R k.rn k.rc, .int .i64 k.c0, .int .i64 k.c1, .int .i64 k.c2, v, .map (some bm), .int .i64 k.day] 142) ∧
  w.ownsRow base 144 7 v k.st.length (k.st.flatMap Stay.cells) ∧ MapAt w bm ekS evI k.m ∧ base ≤ bb ∧ base ≤ bm

theorem BookAt.lt {w : World} {base bb : Nat} {k : Bk} (h : BookAt w base bb k) : bb < w.heap.size := by
  obtain ⟨v, bm, hb, _⟩ := h
  exact (Array.getElem?_eq_some_iff.1 hb).1
theorem BookAt.keep {w W : World} {base bb : Nat} {k : Bk} (h : BookAt w base bb k) {n : Nat} (hb : Below n w W) (hn : w.heap.size ≤ n := by first | exact Nat.le_refl _ | omega) : BookAt W base bb k := by
  obtain ⟨v, bm, h1, h2, h3, h4, h5⟩ := h
  have hg : w.grownBy W none := ⟨hb.os, hb.tape, hb.output, hb.size, fun i hi _ => hb.block i (Nat.lt_of_lt_of_le hi hn)⟩
  refine ⟨v, bm, (hb.block bb (Nat.lt_of_lt_of_le (Array.getElem?_eq_some_iff.1 h1).1 hn)).trans h1, h2.kept hg ?_, h3.keep (hb.block bm (Nat.lt_of_lt_of_le h3.lt hn)), h4, h5⟩
  rcases hv : v.ownBlock with _ | g
  · exact .inl rfl
  · exact .inr (by simp)

theorem add_at (g n : Nat) : (⟨g, 0, none⟩ : Addr).add n = ⟨g, n, none⟩ := by
  unfold Addr.add
  split
  · rename_i h; rw [h]
  · simp
theorem flat_at {α : Type} (f : α → List Value) (s : Nat) (hlen : ∀ x, (f x).length = s) : ∀ (xs : List α) (k : Nat) (x : α), xs[k]? = some x → ∀ j u, (f x)[j]? = some u → (xs.flatMap f)[k * s + j]? = some u
  | [], _, _, h, _, _, _ => by simp at h
  | y :: xs, 0, x, h, j, u, hu => by
    have hj : j < s := by have := (List.getElem?_eq_some_iff.1 hu).1; rw [hlen] at this; exact this
    simp at h
    subst h
    rw [List.flatMap_cons, List.getElem?_append_left (by rw [hlen]; omega)]
    simpa using hu
  | y :: xs, k + 1, x, h, j, u, hu => by
    rw [List.flatMap_cons, List.getElem?_append_right (by rw [hlen, Nat.succ_mul]; omega), hlen, show (k + 1) * s + j - s = k * s + j from by rw [Nat.succ_mul]; omega]
    exact flat_at f s hlen xs k x (by simpa using h) j u hu
/-- A row of one's own, as it reads. -/
theorem own_sl {α : Type} {w : World} {base : Nat} {e : TypeId} {s : Nat} {f : α → List Value} (hlen : ∀ x, (f x).length = s) {v : Value} {xs : List α} (h : w.ownsRow base e s v xs.length (xs.flatMap f)) :
    ∃ A c, v = .slice A xs.length c ∧ Sl w s f A xs ∧ xs.length ≤ c := by
  rcases h.2 with ⟨rfl, h0⟩ | ⟨g, cap, cur, rfl, hb, hh, hnc, _⟩
  · rw [h0]
    exact ⟨none, 0, rfl, fun hp => by omega, Nat.le_refl _⟩
  · refine ⟨some ⟨g, 0, none⟩, cap, rfl, fun _ => ⟨g, 0, rfl, (Array.getElem?_eq_some_iff.1 hh).1, fun k x hx j u hu => ?_⟩, hnc⟩
    have hc := h.cells (g := g) rfl (k * s + j) u (flat_at f s hlen xs k x hx j u hu)
    rw [add_at] at hc
    rw [Nat.zero_add]; exact hc
theorem stay_len (s : Stay) : s.cells.length = 7 := rfl

def lotsNow (st : List Stay) : List Lot := (st.filter fun s => decide (s.till < 0)).map (·.lot)
theorem lotsNow_snoc (st : List Stay) (s : Stay) : lotsNow (st ++ [s]) = lotsNow st ++ (if s.till < 0 then [s.lot] else []) := by
  unfold lotsNow
  rw [List.filter_append, List.map_append]
  congr 1
  by_cases h : s.till < 0 <;> simp [h]
theorem lotsNow_take {st : List Stay} {k : Nat} (h : k < st.length) : lotsNow (st.take (k + 1)) = lotsNow (st.take k) ++ (if st[k].till < 0 then [st[k].lot] else []) := by
  rw [List.take_succ_eq_append_getElem h, lotsNow_snoc]
theorem lotsNow_prefix (st : List Stay) (k : Nat) : lotsNow (st.take k) <+: lotsNow st := by
  conv => rhs; rw [← List.take_append_drop k st]
  unfold lotsNow
  rw [List.filter_append, List.map_append]
  exact List.prefix_append _ _
def Lot.v (l : Lot) : Value := .agg #[.string l.remain, .int .i64 l.state, .string l.site, .int .i64 l.level, .int .i64 l.container, .int .i64 l.since]

set_option maxRecDepth 100000 in
set_option maxHeartbeats 2000000 in
theorem lots_in (n : Nat) (hn : 1 ≤ n) (l n₀ base bb : Nat) (k : Bk) (J Jx : List Lot → World → Prop) (W : World) (hn₀ : n₀ ≤ W.heap.size)
    (hJ : AbidesFrom W.heap.size J)
    (hY : ∀ pre x W1, J pre W1 → pre.length < (lotsNow k.st).length → YieldAt Fence.wide (n - 1) Tryz.prog l #[x.v] W1 fun e W' =>
      (e = .returned (.bool true) ∧ J (pre ++ [x]) W' ∧ Below n₀ W1 W') ∨ (e = .returned (.bool false) ∧ Jx (pre ++ [x]) W'))
    (hbk : ∃ w0, BookAt w0 base bb k ∧ w0.heap.size ≤ n₀ ∧ Below n₀ w0 W) (hl : k.st.length ≤ 100000) (h0 : J [] W) :
    CallsIn Fence.wide n Tryz.prog 124 #[.pointer (some ⟨bb, 0, none⟩), .func (.yield l) #[] #[]] W fun e W' => (∃ v, e = .returned v) ∧
      ((∃ ys, ys = lotsNow k.st ∧ J ys W') ∨ (∃ pre, pre <+: lotsNow k.st ∧ Jx pre W')) := by
  obtain ⟨w0, hbk, hw0, hB0⟩ := hbk
  obtain ⟨v, bm, hblk, hown, hm, hbb, hbm⟩ := hbk
  obtain ⟨A, c, rfl, hS, hcap⟩ := own_sl stay_len hown
  have hlt : bb < w0.heap.size := (Array.getElem?_eq_some_iff.1 hblk).1
  have g5 : W.cell? ⟨bb, 5, none⟩ = some (.slice A k.st.length c) := (hB0.cell (p := ⟨bb, 5, none⟩) (show bb < n₀ by omega)).trans (by simp [World.cell?, hblk])
  clear hown hm hblk
  refine callsIn_of_wp Tryz.func124 rfl trivial ?_ rfl
  simp only [Tryz.ntmps124, List.size_toArray, List.length_cons, List.length_nil, Nat.reduceAdd, Nat.reduceSub, Array.replicate_succ, Array.replicate_zero, List.push_toArray, List.append_toArray, List.nil_append, List.cons_append]
  gi_wp2
  gi_loopw [5, 11] (fun _ i wr => ∃ j : Nat, j ≤ k.st.length ∧ i = .int .i64 j ∧ J (lotsNow (k.st.take j)) wr ∧ Below n₀ W wr) (fun _ i _ => k.st.length - (intOf i).toNat)
  case atStart => exact ⟨0, Nat.zero_le _, rfl, h0, Below.refl _ _⟩
  case round =>
    obtain ⟨j, hj, rfl, hJs, hBr⟩ := hrel
    by_cases hjl : j < k.st.length
    · have hT := lotsNow_take hjl
      have hlen : (lotsNow (k.st.take j)).length + (if k.st[j].till < 0 then 1 else 0) ≤ (lotsNow k.st).length := by
        have := (lotsNow_prefix k.st (j + 1)).length_le
        rw [hT] at this
        by_cases ht : k.st[j].till < 0 <;> simp [ht] at this ⊢ <;> omega
      obtain ⟨b, off, rfl, hb, hc⟩ := hS.at hjl
      have hcw : ∀ o u, w0.cell? ⟨b, o, none⟩ = some u → wr.cell? ⟨b, o, none⟩ = some u := fun o u h => ((hB0.trans hBr).cell (p := ⟨b, o, none⟩) (show b < n₀ by omega)).trans h
      have h0' : wr.cell? ⟨b, off + j * 7, none⟩ = some (.string k.st[j].lot.remain) := hcw _ _ (hc 0 _ rfl)
      have h1 : wr.cell? ⟨b, off + j * 7 + 1, none⟩ = some (.int .i64 k.st[j].lot.state) := hcw _ _ (hc 1 _ rfl)
      have h2 : wr.cell? ⟨b, off + j * 7 + 2, none⟩ = some (.string k.st[j].lot.site) := hcw _ _ (hc 2 _ rfl)
      have h3 : wr.cell? ⟨b, off + j * 7 + 3, none⟩ = some (.int .i64 k.st[j].lot.level) := hcw _ _ (hc 3 _ rfl)
      have h4 : wr.cell? ⟨b, off + j * 7 + 4, none⟩ = some (.int .i64 k.st[j].lot.container) := hcw _ _ (hc 4 _ rfl)
      have h5 : wr.cell? ⟨b, off + j * 7 + 5, none⟩ = some (.int .i64 k.st[j].lot.since) := hcw _ _ (hc 5 _ rfl)
      have h6 : wr.cell? ⟨b, off + j * 7 + 6, none⟩ = some (.int .i64 k.st[j].till) := hcw _ _ (hc 6 _ rfl)
      clear hc hcw hS
      have HT := Lib.hid hT
      clear hT
      generalize k.st[j] = s at *
      obtain ⟨⟨rm, sta, si, lv, co, sc⟩, ti⟩ := s
      dsimp only at h0' h1 h2 h3 h4 h5 h6 hlen HT
      have hJa := hJ _ _ _ none hJs (World.grownBy_alloc wr (.cells #[.string rm, .int .i64 sta, .string si, .int .i64 lv, .int .i64 co, .int .i64 sc, .int .i64 ti] 144) none) (fun r e => by cases e)
      by_cases ht : ti < 0
      · rw [if_pos ht] at hlen
        obtain ⟨fn, tmps, assign, body, hy, hR⟩ := hY _ ⟨rm, sta, si, lv, co, sc⟩ _ hJa (by omega)
        dsimp only [Lot.v] at hy
        gi_wp2
        refine hR.mono ?_
        rintro e W3 (⟨rfl, hJ3, hk3⟩ | ⟨rfl, hJx3⟩)
        · gi_wp2
          go_roundw
          case rel => exact ⟨j + 1, by omega, by go_num, by rw [HT.out, if_pos ht]; exact hJ3, (hBr.alloc (Nat.le_trans hn₀ hBr.size) _).trans hk3⟩
          case measure => simp [intOf]; omega
        · gi_wp2
          refine bodyPost_ret (results_none rfl _ _ _) rfl ?_
          refine ⟨⟨_, rfl⟩, .inr ⟨_, ?_, hJx3⟩⟩
          have hp := lotsNow_prefix k.st (j + 1)
          rw [HT.out, if_pos ht] at hp
          exact hp
      · gi_wp2
        refine ⟨fun _ h => (by cases h), ?_⟩
        gi_wp2
        go_roundw
        case rel => exact ⟨j + 1, by omega, by go_num, by rw [HT.out, if_neg (by omega), List.append_nil]; exact hJa, hBr.alloc (Nat.le_trans hn₀ hBr.size) _⟩
        case measure => simp [intOf]; omega
    · have hj2 : j = k.st.length := by omega
      subst hj2
      rw [List.take_length] at hJs
      gi_wp2
      go_end0
      exact ⟨⟨_, rfl⟩, .inl ⟨_, rfl, hJs⟩⟩

theorem lots_seq (n : Nat) (hn : 1 ≤ n) (n₀ base bb : Nat) (k : Bk) (w0 w : World) (hbk : BookAt w0 base bb k) (h0 : w0.heap.size ≤ n₀) (hn₀ : n₀ ≤ w.heap.size) (hb : Below n₀ w0 w) (hl : k.st.length ≤ 100000) :
    SeqBound Fence.wide n Tryz.prog 124 #[.pointer (some ⟨bb, 0, none⟩)] #[] (fun x : Lot => #[x.v]) (Below n₀) (fun ys => ys = lotsNow k.st) (fun pre => pre <+: lotsNow k.st) (lotsNow k.st).length w := fun l J Jx W hW hJ _ hY hJ0 =>
  lots_in n hn l n₀ base bb k J Jx W (Nat.le_trans hn₀ hW.size) hJ hY ⟨w0, hbk, h0, hb.trans (hW.mono hn₀)⟩ hl hJ0

/-- The lot that a remain has. -/
def lotK (k : Bk) (nm : ByteArray) : Option Lot := (mget eqS nm k.m).bind fun i => (k.st[i.toNat]?).map (·.lot)
/-- A book, and the yard that it is about. -/
structure Env (w : World) (base bb : Nat) (k : Bk) (ss : List Site) (rs : List Rest) : Prop where
  bk : BookAt w base bb k
  sl : Sl w 6 Site.cells k.A ss
  sr : Sl w 3 Rest.cells k.R rs
  hn : k.n = ss.length
  hrn : k.rn = rs.length
  cap : ss.length ≤ k.c
  l1 : ss.length ≤ 60
  l2 : rs.length ≤ 40
  l3 : k.st.length ≤ 1000
  good : ∀ nm i, mget eqS nm k.m = some i → ∃ j : Nat, i = (j : Int) ∧ j < k.st.length
  short : ∀ s ∈ ss, s.name.size ≤ 100000
  lies : ∀ nm l, lotK k nm = some l → l.state = 1 → (∃ s, findSite l.site ss = some s) ∧ 0 ≤ l.level ∧ l.level ≤ 11
theorem Env.keep {w W : World} {base bb : Nat} {k : Bk} {ss : List Site} {rs : List Rest} (h : Env w base bb k ss rs) {n : Nat} (hb : Below n w W) (hn : w.heap.size ≤ n := by first | exact Nat.le_refl _ | omega) : Env W base bb k ss rs :=
  ⟨h.bk.keep hb hn, h.sl.keep hb hn, h.sr.keep hb hn, h.hn, h.hrn, h.cap, h.l1, h.l2, h.l3, h.good, h.short, h.lies⟩
def zeroLot : Lot := ⟨⟨#[]⟩, 0, ⟨#[]⟩, 0, 0, 0⟩
def retLot (r : Option Lot) : Value := .tuple #[(r.getD zeroLot).v, .bool r.isSome]

end Go.Proofs.YtpohkolapgofdaaGreatDoor
namespace Go.Proofs.YtpohkolapgofdaaGreatDoor
open Go.RowKit

theorem flat_set (dy : Int) : ∀ (xs : List Stay) (j : Nat), j < xs.length → (xs.flatMap Stay.cells).set (j * 7 + 6) (.int .i64 dy) = (xs.modify j fun s => { s with till := dy }).flatMap Stay.cells
  | [], _, h => absurd h (by simp)
  | y :: ys, 0, _ => by simp [Stay.cells, Lot.cells]
  | y :: ys, j + 1, h => by
    have hj : j < ys.length := by simpa using h
    rw [List.flatMap_cons, List.set_append_right _ _ (by rw [stay_len]; omega), stay_len, show (j + 1) * 7 + 6 - 7 = j * 7 + 6 by omega, flat_set dy ys j hj]
    simp
theorem own_ne {W : World} {base size n : Nat} {e t : TypeId} {v : Value} {xs : List Value} (hown : W.ownsRow base e size v n xs) {b : Nat} {cs : Array Value} {fr : Nat × Nat} (hb : W.heap[b]? = some (.cells cs t fr)) (ht : t ≠ e) : some b ≠ v.ownBlock := by
  rcases hown.2 with ⟨rfl, _⟩ | ⟨g, cap, cur, rfl, _, hh, _⟩
  · simp [Value.ownBlock]
  · intro h
    have hg : b = g := by simpa [Value.ownBlock] using h
    rw [← hg, hb] at hh
    simp only [Option.some.injEq, Obj.cells.injEq] at hh
    exact ht hh.2.1
theorem own_ne_map {W : World} {base size n : Nat} {e : TypeId} {v : Value} {xs : List Value} (hown : W.ownsRow base e size v n xs) {b : Nat} {K V : Type} {ek : K → Value} {ev : V → Value} {m : List (K × V)} (hm : MapAt W b ek ev m) : some b ≠ v.ownBlock := by
  obtain ⟨es, c, hb, _⟩ := hm
  rcases hown.2 with ⟨rfl, _⟩ | ⟨g, cap, cur, rfl, _, hh, _⟩
  · simp [Value.ownBlock]
  · intro h
    have hg : b = g := by simpa [Value.ownBlock] using h
    rw [← hg, hb] at hh
    simp at hh
theorem blk_ne_map {W : World} {b c : Nat} {cs : Array Value} {t : TypeId} {fr : Nat × Nat} {K V : Type} {ek : K → Value} {ev : V → Value} {m : List (K × V)} (hb : W.heap[b]? = some (.cells cs t fr)) (hm : MapAt W c ek ev m) : b ≠ c := by
  obtain ⟨es, k, hc, _⟩ := hm
  rintro rfl
  rw [hb] at hc
  simp at hc
theorem own_keep {w W : World} {base size k : Nat} {e : TypeId} {v : Value} {xs : List Value} (h : w.ownsRow base e size v k xs) {n : Nat} (hb : Below n w W) (hn : w.heap.size ≤ n := by first | exact Nat.le_refl _ | omega) : W.ownsRow base e size v k xs := by
  have hg : w.grownBy W none := ⟨hb.os, hb.tape, hb.output, hb.size, fun i hi _ => hb.block i (Nat.lt_of_lt_of_le hi hn)⟩
  refine h.kept hg ?_
  rcases hv : v.ownBlock with _ | g
  · exact .inl rfl
  · exact .inr (by simp)
theorem own_ext {w : World} {base size k : Nat} {e : TypeId} {v : Value} {xs : List Value} (h : w.ownsRow base e size v k xs) (z : Ez) : (w.ext z).ownsRow base e size v k xs := own_keep h (below_ext w z)
theorem blk_lt {W : World} {b : Nat} {o : Obj} (hb : W.heap[b]? = some o) : b < W.heap.size := (Array.getElem?_eq_some_iff.1 hb).1
theorem grown_set (w : World) (b i : Nat) (u : Value) : w.grownBy (w.setCell ⟨b, i, none⟩ u) (some b) :=
  ⟨rfl, rfl, rfl, by simp, fun k _ hk => heap_setCell_other w ⟨b, i, none⟩ k u (fun e => hk (by simp [e]))⟩

/-- A book's block behind the two last stores of 'add'. -/
theorem book_stored {w : World} {base bb bm : Nat} {k : Bk} {v v0 : Value} {st : List Stay} {m : List (ByteArray × Int)} {d dy : Int}
    (hblk : w.heap[bb]? = some (.cells #[.slice k.A k.n k.c, .slice k.R k.rn k.rc, .int .i64 k.c0, .int .i64 k.c1, .int .i64 k.c2, v0, .map (some bm), .int .i64 d] 142))
    (hown : w.ownsRow base 144 7 v st.length (st.flatMap Stay.cells)) (hm : MapAt w bm ekS evI m) (hb : base ≤ bb) (hbm : base ≤ bm) :
    BookAt ((w.setCell ⟨bb, 5, none⟩ v).setCell ⟨bb, 7, none⟩ (.int .i64 dy)) base bb { k with st := st, m := m, day := dy } := by
  have h1 := Joins.block_setCell (i := 5) hblk v
  have h2 := Joins.block_setCell (i := 7) h1 (.int .i64 dy)
  have hg := grown_trans (grown_set w bb 5 v) (grown_set _ bb 7 (.int .i64 dy))
  have hne := own_ne hown hblk (by decide)
  refine ⟨v, bm, by simpa using h2, hown.kept hg (.inr (Ne.symm hne)), hm.keep (hg.block bm hm.lt ?_), hb, hbm⟩
  have := blk_ne_map hblk hm
  simpa using this.symm
end Go.Proofs.YtpohkolapgofdaaGreatDoor
