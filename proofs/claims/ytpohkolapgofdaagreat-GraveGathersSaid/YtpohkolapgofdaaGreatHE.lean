/- Walk: the first lot that does not lie; the library's IndexFunc at the closure of lying. -/
/- Walk: the library's DeleteFunc at the closure of lying: what does not lie is struck. -/
/- Walk: the closure of resting. -/
/- Walk: IndexFunc and ContainsFunc at the closure of resting. -/
/- Walk: whether the rest of something is not over on a day. -/
/- Walk: what lies at a site, by levels. -/
import Derived.Test.YtpohkolapgofdaaGreatQE
import Derived.Lib.SlKept
import Derived.Test.YtpohkolapgofdaaGreatL3
namespace Go.Proofs.YtpohkolapgofdaaGreat
open Go.RowKit Go.Shelf
attribute [local go_sem] World.cell?_alloc_mark ext_size ext_cell ext_frozen lt_add_r lt_add_r2 lt_add_r3 lt_add_r4 lt_add_r5 lt_add_r6 lt_add_r7 lt_add_r8

def idxGo (p : Lot → Bool) : List Lot → Int → Int
  | [], _ => -1
  | l :: r, i => if p l then i else idxGo p r (i + 1)
def idxP (p : Lot → Bool) (ls : List Lot) : Int := idxGo p ls 0
def notLies (l : Lot) : Bool := l.state != 1
set_option maxRecDepth 100000 in
set_option maxHeartbeats 2000000 in
theorem lying1_any (rm : ByteArray) (st : Int) (si : ByteArray) (lv co sc : Int) (w : World) :
    Calls Tryz.prog 74 #[.agg #[.string rm, .int .i64 st, .string si, .int .i64 lv, .int .i64 co, .int .i64 sc]] w (Ret w (.bool (notLies ⟨rm, st, si, lv, co, sc⟩))) := by
  go_enter Tryz.func74, Tryz.ntmps74
  go_wp2_with fail
  go_ret
  exact Ret.of (by simp [notLies]) (by repeat (first | exact B_refl | exact Below.refl _ _ | assumption | with_reducible refine B_alloc ?_ _ | with_reducible refine B_ext ?_ _ | with_reducible refine B_drew ?_ | with_reducible refine B_drewN ?_ _ | with_reducible refine B_set ?_ (by simp; omega) _))
set_option maxRecDepth 100000 in
set_option maxHeartbeats 2000000 in
theorem indexLy_any (ls : List Lot) (A : Option Addr) (cap : Nat) (w : World) (hS : Sl w 6 Lot.cells A ls) (hl : ls.length ≤ 100000) :
    Calls Tryz.prog 94 #[.slice A ls.length cap, .func (.func 74) #[] #[]] w (Ret w (.int .i64 (idxP notLies ls))) := by
  go_enter Tryz.func94, Tryz.ntmps94
  go_wp2_with fail
  go_loopw [8] (fun i wr => ∃ j : Nat, j ≤ ls.length ∧ i = .int .i64 j ∧ idxP notLies ls = idxGo notLies (ls.drop j) j ∧ ∃ z, wr = w.ext z) (fun i _ => ls.length - (intOf i).toNat)
  case atStart => exact ⟨0, Nat.zero_le _, rfl, rfl, ext_below (Below.refl _ _)⟩
  case round =>
    obtain ⟨j, hj, rfl, hf, z, rfl⟩ := hrel
    by_cases hjl : j < ls.length
    · obtain ⟨b, off, rfl, hb, hc0⟩ := (hS.keep (n := w.heap.size) (by repeat (first | exact B_refl | exact Below.refl _ _ | assumption | with_reducible refine B_alloc ?_ _ | with_reducible refine B_ext ?_ _ | with_reducible refine B_drew ?_ | with_reducible refine B_drewN ?_ _ | with_reducible refine B_set ?_ (by simp; omega) _))).at hjl
      have x0 : w.cell? ⟨b, off + j * 6, none⟩ = some (.string ls[j].remain) := hc0 0 _ rfl
      have x1 : w.cell? ⟨b, off + j * 6 + 1, none⟩ = some (.int .i64 ls[j].state) := hc0 1 _ rfl
      have x2 : w.cell? ⟨b, off + j * 6 + 2, none⟩ = some (.string ls[j].site) := hc0 2 _ rfl
      have x3 : w.cell? ⟨b, off + j * 6 + 3, none⟩ = some (.int .i64 ls[j].level) := hc0 3 _ rfl
      have x4 : w.cell? ⟨b, off + j * 6 + 4, none⟩ = some (.int .i64 ls[j].container) := hc0 4 _ rfl
      have x5 : w.cell? ⟨b, off + j * 6 + 5, none⟩ = some (.int .i64 ls[j].since) := hc0 5 _ rfl
      rw [List.drop_eq_getElem_cons hjl, idxGo] at hf
      have HF := Lib.hid hf
      have hlt2 : (j : Int) < (ls.length : Int) := by omega
      clear hc0 hf
      generalize ls[j] = s at *
      obtain ⟨a0, a1, a2, a3, a4, a5⟩ := s
      dsimp only at x0 x1 x2 x3 x4 x5 HF
      have HH := fun W => lying1_any a0 a1 a2 a3 a4 a5 W
      cases heq : notLies ⟨a0, a1, a2, a3, a4, a5⟩
      · rw [heq] at HH
        have HE : Hid (idxP notLies ls = idxGo notLies (ls.drop (j + 1)) ((j : Int) + 1)) := by show _ = _; rw [HF.out, heq]; rfl
        go_wp2_with (go_at_call 74; refine (HH _).mono ?_; rintro e wq ⟨rfl, z1, rfl⟩)
        go_roundw
        case rel => exact ⟨j + 1, by omega, by go_num, by rw [HE.out]; rfl, ext_below (by repeat (first | exact B_refl | exact Below.refl _ _ | assumption | with_reducible refine B_alloc ?_ _ | with_reducible refine B_ext ?_ _ | with_reducible refine B_drew ?_ | with_reducible refine B_drewN ?_ _ | with_reducible refine B_set ?_ (by simp; omega) _))⟩
        case measure => simp [intOf]; omega
      · rw [heq] at HH
        have HE : Hid (idxP notLies ls = (j : Int)) := by show _ = _; rw [HF.out, heq]; rfl
        go_wp2_with (go_at_call 74; refine (HH _).mono ?_; rintro e wq ⟨rfl, z1, rfl⟩)
        go_ret
        rw [HE.out]
        exact Ret.of rfl (by repeat (first | exact B_refl | exact Below.refl _ _ | assumption | with_reducible refine B_alloc ?_ _ | with_reducible refine B_ext ?_ _ | with_reducible refine B_drew ?_ | with_reducible refine B_drewN ?_ _ | with_reducible refine B_set ?_ (by simp; omega) _))
    · have hje : j = ls.length := by omega
      subst hje
      rw [List.drop_length, idxGo] at hf
      have HF := Lib.hid hf
      clear hf
      go_wp2_with fail
      go_ret
      rw [HF.out]
      exact Ret.of rfl (by repeat (first | exact B_refl | exact Below.refl _ _ | assumption | with_reducible refine B_alloc ?_ _ | with_reducible refine B_ext ?_ _ | with_reducible refine B_drew ?_ | with_reducible refine B_drewN ?_ _ | with_reducible refine B_set ?_ (by simp; omega) _))
end Go.Proofs.YtpohkolapgofdaaGreat
namespace Go.Proofs.YtpohkolapgofdaaGreat
open Go.RowKit Go.Shelf Go.Lib Go.Sort
attribute [local go_sem] World.cell?_alloc_mark ext_size ext_cell ext_frozen lt_add_r lt_add_r2 lt_add_r3 lt_add_r4 lt_add_r5 lt_add_r6 lt_add_r7 lt_add_r8

theorem flatK_set (d : Array Lot) (i : Nat) (x : Lot) (hi : i < d.size) : setMany (flatK Lot.cells 6 d) (i * 6) x.cells = flatK Lot.cells 6 (d.setIfInBounds i x) := by
  refine ext_get! (by simp) fun t ht => ?_
  rw [size_setMany, size_flatK] at ht
  have e1 := get_setMany x.cells (i * 6) (flatK Lot.cells 6 d) t (by rw [size_flatK]; exact ht)
  have e2 := get_flatK Lot.cells 6 (d.setIfInBounds i x) t (by simpa using ht)
  have e3 := get_flatK Lot.cells 6 d t ht
  rw [e1, e2, e3, lot_len]
  by_cases h : t / 6 = i
  · have h1 := (blk_iff 6 i t (by decide)).2 h
    rw [if_pos h1, h, getElem!_set_same d i x hi]
    rw [show t - i * 6 = t % 6 by omega]
  · have h1 : ¬ (i * 6 ≤ t ∧ t < i * 6 + 6) := fun h2 => h ((blk_iff 6 i t (by decide)).1 h2)
    rw [if_neg h1, getElem!_set_other d i _ x h]
theorem holds_set {w : World} {g off : Nat} {d : Array Lot} {i : Nat} (h : HoldsK Lot.cells 6 w g off d) (hi : i < d.size) (x : Lot) : HoldsK Lot.cells 6 (w.setCells g (off + i * 6) x.cells) g off (d.setIfInBounds i x) := by
  have h0 := putRowK_self (enc := Lot.cells) (k := 6) w g off d h
  have h1 := setCells_putRow w g off x.cells (i * 6) (flatK Lot.cells 6 d) (by rw [lot_len, size_flatK]; omega)
  unfold putRowK at h0
  rw [h0, flatK_set d i x hi] at h1
  rw [h1]
  exact holdsK_putRowK (enc := Lot.cells) (k := 6) w g off d _ h (by simp)
theorem set6_cells (w : World) (g o : Nat) (x : Lot) : (((((w.setCell ⟨g, o, none⟩ (.string x.remain)).setCell ⟨g, o + 1, none⟩ (.int .i64 x.state)).setCell ⟨g, o + 2, none⟩ (.string x.site)).setCell ⟨g, o + 3, none⟩ (.int .i64 x.level)).setCell ⟨g, o + 4, none⟩ (.int .i64 x.container)).setCell ⟨g, o + 5, none⟩ (.int .i64 x.since) = w.setCells g o x.cells := rfl
theorem holds_lower {w : World} {g : Nat} {d : Array Lot} (h : HoldsK Lot.cells 6 w g 0 d) (vs : List Value) (k : Nat) (hk : k ≤ d.size) : HoldsK Lot.cells 6 (w.setCells g (k * 6) vs) g 0 (d.extract 0 k) := fun j hj => by
  rw [size_flatK] at hj
  have hk2 : (d.extract 0 k).size = k := by simp; omega
  rw [hk2] at hj
  obtain ⟨h1, h2⟩ := h j (by rw [size_flatK]; omega)
  rw [World.cell?_setCells_out g vs (k * 6) w ⟨g, 0 + j, none⟩ (fun _ _ => .inl (by show 0 + j < _; omega)), World.frozen?_setCells, h1, h2]
  refine ⟨?_, rfl⟩
  have e2 := get_flatK Lot.cells 6 (d.extract 0 k) j (by rw [hk2]; omega)
  have e3 := get_flatK Lot.cells 6 d j (by omega)
  show some (flatK Lot.cells 6 d)[j]! = some (flatK Lot.cells 6 (d.extract 0 k))[j]!
  rw [e2, e3]
  have hd : d[j / 6]! = (d.extract 0 k)[j / 6]! := by
    rw [getElem!_pos d _ (by omega), getElem!_pos (d.extract 0 k) _ (by rw [hk2]; omega)]
    simp
  rw [hd]
/-- 'clear(s)' on lots: the cells of its own range alone turn. -/
theorem run_clear_any {P : Program} (w : World) (t e ty : TypeId) (z : Value) (ht : P.underlying t = some (.slice e)) (hv : ∀ w, (zeroValue e).run P w = .ok z w) (h1 : ∀ u ∈ z.cells, u.oneCell' = true) (hp : 0 < z.cells.size) (b o n c : Nat) (hn : 0 < n)
    (hc : ∀ j, j < n * z.cells.size → (w.cell? ⟨b, o + j, none⟩).isSome = true) (hf : ∀ j, j < n * z.cells.size → w.frozen? ⟨b, o + j, none⟩ = false) :
    (Builtin.clear_ #[t] ty #[.slice (some ⟨b, o, none⟩) n c]).run P w = .ok (.tuple #[]) (w.setCells b o (Builtin.zeroCells z.cells n).toList) := by
  have hl : (Builtin.zeroCells z.cells n).toList.length = n * z.cells.size := by simp [Builtin.zeroCells]
  have hst := run_storeCells_cells (P := P) b o (Builtin.zeroCells z.cells n).toList 0 w (by rw [hl]; simpa using hc) (by rw [hl]; simpa using hf) (by
    intro v hv'
    refine h1 v ?_
    obtain ⟨i, hi, rfl⟩ := List.getElem_of_mem hv'
    simp [Builtin.zeroCells] at hi ⊢
    first | done | exact Array.getElem_mem _ | simp [Nat.mod_lt _ hp])
  simp only [Nat.add_zero] at hst
  obtain ⟨m, rfl⟩ : ∃ m, n = m + 1 := ⟨n - 1, by omega⟩
  simp [Builtin.clear_, run_underlying ht, hv, hst]
theorem holds_keep {w W : World} {g off n : Nat} {d : Array Lot} (h : HoldsK Lot.cells 6 w g off d) (hb : Below n w W) (hg : g < n := by first | assumption | omega) : HoldsK Lot.cells 6 W g off d := fun j hj => by
  obtain ⟨h1, h2⟩ := h j hj
  exact ⟨(World.cell?_of_block (hb.block g hg)).trans h1, (World.frozen?_of_block (hb.block g hg)).trans h2⟩
theorem holds_set0 {w : World} {g : Nat} {d : Array Lot} {i : Nat} (h : HoldsK Lot.cells 6 w g 0 d) (hi : i < d.size) (x : Lot) : HoldsK Lot.cells 6 (w.setCells g (i * 6) x.cells) g 0 (d.setIfInBounds i x) := by
  have := holds_set h hi x
  rwa [Nat.zero_add] at this
theorem holds_at {w : World} {g : Nat} {d : Array Lot} (h : HoldsK Lot.cells 6 w g 0 d) {i : Nat} (hi : i < d.size) {c : Nat} {u : Value} (hu : (d[i]!).cells[c]? = some u) : w.cell? ⟨g, i * 6 + c, none⟩ = some u ∧ w.frozen? ⟨g, i * 6 + c, none⟩ = false := by
  have hx : d.toList[i]? = some d[i]! := by rw [getElem!_pos d i hi]; simp [hi]
  obtain ⟨h1, h2⟩ := flatK_get d hx hu
  obtain ⟨h3, h4⟩ := h _ h1
  rw [Nat.zero_add] at h3 h4
  rw [h2] at h3
  exact ⟨h3, h4⟩
theorem grown_setCells {w W : World} {g : Nat} (h : w.grownBy W (some g)) : ∀ (vs : List Value) (o : Nat), w.grownBy (W.setCells g o vs) (some g) := by
  intro vs
  induction vs generalizing W with
  | nil => intro o; exact h
  | cons v r ih =>
    intro o
    refine ih (W := W.setCell ⟨g, o, none⟩ v) ?_ (o + 1)
    refine ⟨h.os, h.tape, h.output, ?_, fun k hk hne => ?_⟩
    · simpa [World.setCell] using h.size
    · have hkg : ¬ k = g := fun e => hne (by rw [e])
      exact (heap_setCell_other W ⟨g, o, none⟩ k v hkg).trans (h.block k hk hne)
theorem grown_below' {w W W' : World} {g n : Nat} (h : w.grownBy W (some g)) (hb : Below n W W') (hn : w.heap.size ≤ n) : w.grownBy W' (some g) :=
  ⟨hb.os.trans h.os, hb.tape.trans h.tape, hb.output.trans h.output, Nat.le_trans h.size hb.size, fun k hk hne => (hb.block k (by omega)).trans (h.block k hk hne)⟩
theorem idxGo_spec (p : Lot → Bool) : ∀ (ls : List Lot) (i : Nat), (idxGo p ls i = -1 ∧ ∀ j, j < ls.length → p ls[j]! = false) ∨ ∃ k, k < ls.length ∧ idxGo p ls i = ((i + k : Nat) : Int) ∧ p ls[k]! = true ∧ ∀ j, j < k → p ls[j]! = false
  | [], i => .inl ⟨rfl, fun j hj => absurd hj (Nat.not_lt_zero _)⟩
  | l :: r, i => by
    cases hp : p l
    · have hstep : idxGo p (l :: r) (i : Int) = idxGo p r ((i + 1 : Nat) : Int) := by simp [idxGo, hp]
      rw [hstep]
      rcases idxGo_spec p r (i + 1) with ⟨h1, h2⟩ | ⟨k, h1, h2, h3, h4⟩
      · refine .inl ⟨h1, fun j hj => ?_⟩
        cases j with
        | zero => simpa using hp
        | succ j => simpa using h2 j (by simpa using hj)
      · refine .inr ⟨k + 1, by simpa using h1, by rw [h2]; congr 1; omega, by simpa using h3, fun j hj => ?_⟩
        cases j with
        | zero => simpa using hp
        | succ j => simpa using h4 j (by omega)
    · exact .inr ⟨0, by simp, by simp [idxGo, hp], by simpa using hp, fun j hj => absurd hj (Nat.not_lt_zero _)⟩
/-- What lies: the others are struck. -/
def DelPost (w : World) (base : Nat) (xs : List Lot) (e : Ending) (w' : World) : Prop :=
  ∃ v, e = .returned v ∧ Held w' base v xs ∧ ∀ w0 : World, Below w0.heap.size w0 w → w0.heap.size ≤ base → Below w0.heap.size w0 w'
def lies (l : Lot) : Bool := !notLies l
set_option maxRecDepth 100000 in
set_option maxHeartbeats 2000000 in
theorem deleteLy_any (v : Value) (ls : List Lot) (base : Nat) (w : World) (hown : Held w base v ls) (hl : ls.length ≤ 100000) :
    Calls Tryz.prog 73 #[v, .func (.func 74) #[] #[]] w (DelPost w base (ls.filter lies)) := by
  rcases hown with ⟨rfl, rfl⟩ | ⟨g, cap, rfl, hb, hg, hH, hcap⟩
  · have HI := indexLy_any [] none 0 w (sl_nil _ _ _) (by simp)
    have hX : idxP notLies [] = -1 := rfl
    rw [hX] at HI
    clear hX
    go_enter Tryz.func73, Tryz.ntmps73
    go_wp2_with (go_at_call 94; refine HI.mono ?_; rintro e wq ⟨rfl, z, rfl⟩)
    go_ret
    exact ⟨_, rfl, .inl ⟨rfl, rfl⟩, fun w0 h _ => h.trans ((below_ext w z).mono h.size)⟩
  · have hSl := holds_sl hH hg
    have HI := indexLy_any ls (some ⟨g, 0, none⟩) cap w (by simpa using hSl) hl
    have hsp := idxGo_spec notLies ls 0
    have hY : idxP notLies ls = idxGo notLies ls ((0 : Nat) : Int) := rfl
    rw [hY] at HI
    clear hY hSl
    rcases hsp with ⟨hr, hall⟩ | ⟨k0, hk0, hr, ht, hall⟩
    · rw [hr] at HI
      have hfil : ls.filter lies = ls := List.filter_eq_self.2 fun a ha => by
        obtain ⟨j, hj, rfl⟩ := List.getElem_of_mem ha
        have := hall j hj
        rw [getElem!_pos ls j hj] at this
        simp [lies, this]
      have HF := Lib.hid hfil
      have HH := Lib.hid hH
      clear hr hall hfil hH
      go_enter Tryz.func73, Tryz.ntmps73
      go_wp2_with (go_at_call 94; refine HI.mono ?_; rintro e wq ⟨rfl, z, rfl⟩)
      go_ret
      rw [HF.out]
      exact ⟨_, rfl, .inr ⟨g, cap, rfl, hb, by rw [ext_size]; omega, holds_keep HH.out (below_ext w z) hg, hcap⟩, fun w0 h _ => h.trans ((below_ext w z).mono h.size)⟩
    · rw [hr] at HI
      obtain ⟨kp, HK⟩ : ∃ kp : Nat → Bool, Hid (kp = fun j => lies (ls.toArray)[j]!) := ⟨_, rfl⟩
      have hfil : ls.filter lies = keptUpTo kp ls.toArray ls.toArray.size := by rw [HK.out]; exact (keptUpTo_filter lies ls.toArray).symm
      have tl : ∀ j, j < ls.length → (ls.toArray)[j]! = ls[j]! := fun j hj => by simp
      have I0 : KeptInv kp ls.toArray (k0 + 1) k0 ls.toArray := KeptInv.start (fun j hj => by rw [HK.out]; show lies _ = true; rw [tl j (by omega)]; unfold lies; rw [hall j hj]; rfl) (by rw [HK.out]; show lies _ = false; rw [tl k0 hk0]; unfold lies; rw [ht]; rfl)
      have hds : ls.toArray.size = ls.length := by simp
      have HF := Lib.hid hfil
      have H0 := Lib.hid hH
      have HI0 := Lib.hid I0
      clear hr hall ht hfil hH I0 tl
      generalize ls.toArray = d at *
      rw [Nat.zero_add] at HI
      have hne1 : ((k0 : Int) == -1) = false := beq_eq_false_iff_ne.2 (by omega)
      go_enter Tryz.func73, Tryz.ntmps73
      go_wp2_with (go_at_call 94; refine HI.mono ?_; rintro e wq ⟨rfl, z, rfl⟩)
      go_loopw [5, 6] (fun a b wr => ∃ (i j : Nat) (dk : Array Lot), a = .int .i64 i ∧ b = .int .i64 j ∧ j ≤ ls.length ∧ HoldsK Lot.cells 6 wr g 0 dk ∧ w.grownBy wr (some g) ∧ Hid (KeptInv kp d j i dk)) (fun _ b _ => ls.length - (intOf b).toNat)
      case atStart => exact ⟨k0, k0 + 1, d, by simp, by go_num, by omega, holds_keep H0.out (below_ext w z) hg, grown_below' (g := g) (n := w.heap.size) (W := w) ⟨rfl, rfl, rfl, Nat.le_refl _, fun _ _ _ => rfl⟩ (below_ext w z) (Nat.le_refl _), HI0⟩
      case round =>
        obtain ⟨i, j, dk, rfl, rfl, hjd, hHk, hgr, I2⟩ := hrel
        have hij := I2.out.lt
        have hdk := I2.out.size
        have hgw : g < wr.heap.size := by have := hgr.size; omega
        by_cases hjl : j < ls.length
        · have hltz : (j : Int) < (ls.length : Int) := by omega
          have hiz : (i : Int) < (ls.length : Int) := by omega
          have hhi := I2.out.high j (by omega)
          have hx : ∀ (c : Nat) (u : Value), (dk[j]!).cells[c]? = some u → wr.cell? ⟨g, j * 6 + c, none⟩ = some u ∧ wr.frozen? ⟨g, j * 6 + c, none⟩ = false := fun c u h => holds_at hHk (i := j) (by omega) h
          rw [hhi] at hx
          have hy : ∀ (c : Nat) (u : Value), (dk[i]!).cells[c]? = some u → wr.cell? ⟨g, i * 6 + c, none⟩ = some u ∧ wr.frozen? ⟨g, i * 6 + c, none⟩ = false := fun c u h => holds_at hHk (i := i) (by omega) h
          have HD := Lib.hid hHk
          have HE : Hid (∀ x, d[j]! = x → kp j = lies x) := fun x hx => by rw [HK.out]; show lies d[j]! = _; rw [hx]
          generalize hs : d[j]! = s at *
          have HS := Lib.hid hs
          have hkj := HE.out s rfl
          have HKJ := Lib.hid hkj
          clear hs hHk hhi hdk hkj HE
          generalize dk[i]! = o at *
          obtain ⟨a0, a1, a2, a3, a4, a5⟩ := s
          obtain ⟨b0, b1, b2, b3, b4, b5⟩ := o
          have x0 : wr.cell? ⟨g, j * 6, none⟩ = some (.string a0) := (hx 0 _ rfl).1
          have x1 : wr.cell? ⟨g, j * 6 + 1, none⟩ = some (.int .i64 a1) := (hx 1 _ rfl).1
          have x2 : wr.cell? ⟨g, j * 6 + 2, none⟩ = some (.string a2) := (hx 2 _ rfl).1
          have x3 : wr.cell? ⟨g, j * 6 + 3, none⟩ = some (.int .i64 a3) := (hx 3 _ rfl).1
          have x4 : wr.cell? ⟨g, j * 6 + 4, none⟩ = some (.int .i64 a4) := (hx 4 _ rfl).1
          have x5 : wr.cell? ⟨g, j * 6 + 5, none⟩ = some (.int .i64 a5) := (hx 5 _ rfl).1
          obtain ⟨y0, f0⟩ := hy 0 _ rfl
          obtain ⟨y1, f1⟩ := hy 1 _ rfl
          obtain ⟨y2, f2⟩ := hy 2 _ rfl
          obtain ⟨y3, f3⟩ := hy 3 _ rfl
          obtain ⟨y4, f4⟩ := hy 4 _ rfl
          obtain ⟨y5, f5⟩ := hy 5 _ rfl
          rw [Nat.add_zero] at y0 f0
          clear hx hy
          have HH := fun W => lying1_any a0 a1 a2 a3 a4 a5 W
          cases hq : notLies ⟨a0, a1, a2, a3, a4, a5⟩
          · rw [hq] at HH
            go_wp2_with (go_at_call 74; refine (HH _).mono ?_; rintro e wq ⟨rfl, z1, rfl⟩)
            have hHX : HoldsK Lot.cells 6 ((wr.alloc (.cells #[.string a0, .int .i64 a1, .string a2, .int .i64 a3, .int .i64 a4, .int .i64 a5] 40)).ext z1) g 0 dk := holds_keep HD.out (n := wr.heap.size) (by repeat (first | exact B_refl | exact Below.refl _ _ | assumption | with_reducible refine B_alloc ?_ _ | with_reducible refine B_ext ?_ _ | with_reducible refine B_drew ?_ | with_reducible refine B_drewN ?_ _ | with_reducible refine B_set ?_ (by simp; omega) _)) hgw
            have hS := holds_set0 hHX (i := i) (by have := I2.out.size; omega) ⟨a0, a1, a2, a3, a4, a5⟩
            have hG := grown_setCells (grown_below' (W' := (wr.alloc (.cells #[.string a0, .int .i64 a1, .string a2, .int .i64 a3, .int .i64 a4, .int .i64 a5] 40)).ext z1) hgr (n := wr.heap.size) (by repeat (first | exact B_refl | exact Below.refl _ _ | assumption | with_reducible refine B_alloc ?_ _ | with_reducible refine B_ext ?_ _ | with_reducible refine B_drew ?_ | with_reducible refine B_drewN ?_ _ | with_reducible refine B_set ?_ (by simp; omega) _)) hgr.size) (Lot.cells ⟨a0, a1, a2, a3, a4, a5⟩) (i * 6)
            go_roundw
            case rel => exact ⟨i + 1, j + 1, dk.setIfInBounds i ⟨a0, a1, a2, a3, a4, a5⟩, by go_num, by go_num, by omega, hS, hG, (by
              have := I2.out.keep (by omega) (by rw [HKJ.out]; simp [lies, hq])
              rwa [HS.out] at this : KeptInv kp d (j + 1) (i + 1) _)⟩
            case measure => simp [intOf]; omega
          · rw [hq] at HH
            go_wp2_with (go_at_call 74; refine (HH _).mono ?_; rintro e wq ⟨rfl, z1, rfl⟩)
            go_roundw
            case rel => exact ⟨i, j + 1, dk, rfl, by go_num, by omega, holds_keep HD.out (by repeat (first | exact B_refl | exact Below.refl _ _ | assumption | with_reducible refine B_alloc ?_ _ | with_reducible refine B_ext ?_ _ | with_reducible refine B_drew ?_ | with_reducible refine B_drewN ?_ _ | with_reducible refine B_set ?_ (by simp; omega) _)), grown_below' hgr (n := wr.heap.size) (by repeat (first | exact B_refl | exact Below.refl _ _ | assumption | with_reducible refine B_alloc ?_ _ | with_reducible refine B_ext ?_ _ | with_reducible refine B_drew ?_ | with_reducible refine B_drewN ?_ _ | with_reducible refine B_set ?_ (by simp; omega) _)) hgr.size, I2.out.skip (by rw [HKJ.out]; simp [lies, hq])⟩
            case measure => simp [intOf]; omega
        · have hje : j = ls.length := by omega
          subst hje
          have HD := Lib.hid hHk
          have hcl : ∀ ty, (Builtin.clear_ #[33] ty #[.slice (some ⟨g, i * 6, none⟩) (ls.length - i) (cap - i)]).run Tryz.prog wr = .ok (.tuple #[]) (wr.setCells g (i * 6) (Builtin.zeroCells (Value.agg #[.string ⟨#[]⟩, .int .i64 0, .string ⟨#[]⟩, .int .i64 0, .int .i64 0, .int .i64 0]).cells (ls.length - i)).toList) := fun ty =>
            run_clear_any wr _ 40 ty _ (by kernel_rfl) Tryz.zeroValue40 (by simp [Value.cells, Value.oneCell']) (by decide) g (i * 6) _ _ (by omega)
              (fun t ht => by
                have ht6 : t < (ls.length - i) * 6 := ht
                have := (hHk (i * 6 + t) (by rw [size_flatK]; omega)).1
                rw [Nat.zero_add] at this
                rw [this]; rfl)
              (fun t ht => by
                have ht6 : t < (ls.length - i) * 6 := ht
                have := (hHk (i * 6 + t) (by rw [size_flatK]; omega)).2
                rw [Nat.zero_add] at this
                exact this)
          clear hHk
          have hih : (i : Int) ≤ (ls.length : Int) := by omega
          have hic : (i : Int) ≤ (cap : Int) := by omega
          go_wp2_with fail
          go_ret
          have hI := I2.out
          refine ⟨_, rfl, .inr ⟨g, cap, ?_, hb, ?_, ?_, ?_⟩, fun w0 h hb0 => h.grown (grown_setCells hgr _ _) h.size (fun k hk => by cases hk; omega)⟩
          · rw [HF.out, hds, hI.len]; rfl
          · exact Nat.lt_of_lt_of_le hg (grown_setCells hgr _ _).size
          · have he : dk.extract 0 i = (ls.filter lies).toArray := by
              rw [HF.out, hds]
              apply Array.ext
              · simp [hI.len]; omega
              · intro q h1 h2
                have hq1 : q < i := by simp at h1; omega
                have hlo := hI.low q hq1
                rw [getElem!_pos dk q (by omega)] at hlo
                have := (List.getElem?_eq_some_iff.1 hlo).2
                simpa using this.symm
            rw [← he]
            exact holds_lower HD.out _ i (by omega)
          · rw [HF.out, hds, hI.len]; omega
end Go.Proofs.YtpohkolapgofdaaGreat
namespace Go.Proofs.YtpohkolapgofdaaGreat
open Go.RowKit Go.Shelf
attribute [local go_sem] World.cell?_alloc_mark ext_size ext_cell ext_frozen lt_add_r lt_add_r2 lt_add_r3 lt_add_r4 lt_add_r5 lt_add_r6 lt_add_r7 lt_add_r8

set_option maxRecDepth 100000 in
set_option maxHeartbeats 2000000 in
theorem resting1_any (base bb : Nat) (k : Bk) (ss : List Site) (rs : List Rest) (rm : ByteArray) (st : Int) (si : ByteArray) (lv co sc : Int) (s : Site) (day : Int) (pb pd : Nat) (w : World) (he : Env w base bb k ss rs) (hf : findSite si ss = some s)
    (hb : pb < w.heap.size) (hd : pd < w.heap.size) (hpb : w.cell? ⟨pb, 0, none⟩ = some (.pointer (some ⟨bb, 0, none⟩))) (hpd : w.cell? ⟨pd, 0, none⟩ = some (.int .i64 day)) :
    Calls Tryz.prog 76 #[.agg #[.string rm, .int .i64 st, .string si, .int .i64 lv, .int .i64 co, .int .i64 sc], .pointer (some ⟨pb, 0, none⟩), .pointer (some ⟨pd, 0, none⟩)] w (Ret w (.bool (decide (day < restOverP rs s ⟨rm, st, si, lv, co, sc⟩)))) := by
  go_enter Tryz.func76, Tryz.ntmps76
  go_wp2_with fail
  (refine wp_region_ext_lit (by kernel_rfl) (by kernel_rfl) ?_
   repeat (first | go_big_quiet_skip | (go_big_quiet_want; go_big_quiet_op; first | go_big_quiet_on | (apply Exists.intro; refine ⟨fun _ => ?_, ?_⟩; (go_at_call 47; exact quietx (restOver_any base bb k ss rs rm st si lv co sc s _ (he.keep (by repeat (first | exact B_refl | exact Below.refl _ _ | assumption | with_reducible refine B_alloc ?_ _ | with_reducible refine B_ext ?_ _ | with_reducible refine B_drew ?_ | with_reducible refine B_drewN ?_ _ | with_reducible refine B_set ?_ (by simp; omega) _))) hf)); go_big_quiet_on)))
   refine wpQuiet_nil ?_
   rintro _ ⟨zq, rfl⟩)
  go_wp2_with fail
  go_ret
  exact Ret.of rfl (by repeat (first | exact B_refl | exact Below.refl _ _ | assumption | with_reducible refine B_alloc ?_ _ | with_reducible refine B_ext ?_ _ | with_reducible refine B_drew ?_ | with_reducible refine B_drewN ?_ _ | with_reducible refine B_set ?_ (by simp; omega) _))
end Go.Proofs.YtpohkolapgofdaaGreat
namespace Go.Proofs.YtpohkolapgofdaaGreat
open Go.RowKit Go.Shelf
attribute [local go_sem] World.cell?_alloc_mark ext_size ext_cell ext_frozen lt_add_r lt_add_r2 lt_add_r3 lt_add_r4 lt_add_r5 lt_add_r6 lt_add_r7 lt_add_r8

/-- The rest of a lot is not over on a day. -/
def restsOn (ss : List Site) (rs : List Rest) (day : Int) (l : Lot) : Bool := match findSite l.site ss with | none => false | some s => decide (day < restOverP rs s l)
set_option maxRecDepth 100000 in
set_option maxHeartbeats 2000000 in
theorem indexRs_any (base bb : Nat) (k : Bk) (ss : List Site) (rs : List Rest) (day : Int) (pb pd : Nat) (ls : List Lot) (A : Option Addr) (cap : Nat) (w : World) (hS : Sl w 6 Lot.cells A ls) (hl : ls.length ≤ 100000) (he : Env w base bb k ss rs)
    (hb : pb < w.heap.size) (hd : pd < w.heap.size) (hpb : w.cell? ⟨pb, 0, none⟩ = some (.pointer (some ⟨bb, 0, none⟩))) (hpd : w.cell? ⟨pd, 0, none⟩ = some (.int .i64 day)) (hfs : ∀ l ∈ ls, ∃ s, findSite l.site ss = some s) :
    Calls Tryz.prog 94 #[.slice A ls.length cap, .func (.func 76) #[] #[.pointer (some ⟨pb, 0, none⟩), .pointer (some ⟨pd, 0, none⟩)]] w (Ret w (.int .i64 (idxP (restsOn ss rs day) ls))) := by
  go_enter Tryz.func94, Tryz.ntmps94
  go_wp2_with fail
  go_loopw [8] (fun i wr => ∃ j : Nat, j ≤ ls.length ∧ i = .int .i64 j ∧ idxP (restsOn ss rs day) ls = idxGo (restsOn ss rs day) (ls.drop j) j ∧ ∃ z, wr = w.ext z) (fun i _ => ls.length - (intOf i).toNat)
  case atStart => exact ⟨0, Nat.zero_le _, rfl, rfl, ext_below (Below.refl _ _)⟩
  case round =>
    obtain ⟨j, hj, rfl, hf, z, rfl⟩ := hrel
    by_cases hjl : j < ls.length
    · obtain ⟨si, hsi⟩ := hfs _ (List.getElem_mem hjl)
      obtain ⟨b, off, rfl, hb2, hc0⟩ := (hS.keep (n := w.heap.size) (by repeat (first | exact B_refl | exact Below.refl _ _ | assumption | with_reducible refine B_alloc ?_ _ | with_reducible refine B_ext ?_ _ | with_reducible refine B_drew ?_ | with_reducible refine B_drewN ?_ _ | with_reducible refine B_set ?_ (by simp; omega) _))).at hjl
      have x0 : w.cell? ⟨b, off + j * 6, none⟩ = some (.string ls[j].remain) := hc0 0 _ rfl
      have x1 : w.cell? ⟨b, off + j * 6 + 1, none⟩ = some (.int .i64 ls[j].state) := hc0 1 _ rfl
      have x2 : w.cell? ⟨b, off + j * 6 + 2, none⟩ = some (.string ls[j].site) := hc0 2 _ rfl
      have x3 : w.cell? ⟨b, off + j * 6 + 3, none⟩ = some (.int .i64 ls[j].level) := hc0 3 _ rfl
      have x4 : w.cell? ⟨b, off + j * 6 + 4, none⟩ = some (.int .i64 ls[j].container) := hc0 4 _ rfl
      have x5 : w.cell? ⟨b, off + j * 6 + 5, none⟩ = some (.int .i64 ls[j].since) := hc0 5 _ rfl
      rw [List.drop_eq_getElem_cons hjl, idxGo] at hf
      have HF := Lib.hid hf
      have hlt2 : (j : Int) < (ls.length : Int) := by omega
      clear hc0 hf
      generalize ls[j] = s at *
      obtain ⟨a0, a1, a2, a3, a4, a5⟩ := s
      dsimp only at x0 x1 x2 x3 x4 x5 HF hsi
      have HH := fun W h1 h2 h3 h4 h5 => resting1_any base bb k ss rs a0 a1 a2 a3 a4 a5 si day pb pd W h1 hsi h2 h3 h4 h5
      have hX : decide (day < restOverP rs si ⟨a0, a1, a2, a3, a4, a5⟩) = restsOn ss rs day ⟨a0, a1, a2, a3, a4, a5⟩ := by unfold restsOn; rw [hsi]
      rw [hX] at HH
      cases heq : (restsOn ss rs day) ⟨a0, a1, a2, a3, a4, a5⟩
      · rw [heq] at HH
        have HE : Hid (idxP (restsOn ss rs day) ls = idxGo (restsOn ss rs day) (ls.drop (j + 1)) ((j : Int) + 1)) := by show _ = _; rw [HF.out, heq]; rfl
        go_wp2_with (go_at_call 76; refine (HH _ (he.keep (n := w.heap.size) (by repeat (first | exact B_refl | exact Below.refl _ _ | assumption | with_reducible refine B_alloc ?_ _ | with_reducible refine B_ext ?_ _ | with_reducible refine B_drew ?_ | with_reducible refine B_drewN ?_ _ | with_reducible refine B_set ?_ (by simp; omega) _))) (by simp [ext_size]; omega) (by simp [ext_size]; omega) (cell_kept hb hpb (by repeat (first | exact B_refl | exact Below.refl _ _ | assumption | with_reducible refine B_alloc ?_ _ | with_reducible refine B_ext ?_ _ | with_reducible refine B_drew ?_ | with_reducible refine B_drewN ?_ _ | with_reducible refine B_set ?_ (by simp; omega) _))) (cell_kept hd hpd (by repeat (first | exact B_refl | exact Below.refl _ _ | assumption | with_reducible refine B_alloc ?_ _ | with_reducible refine B_ext ?_ _ | with_reducible refine B_drew ?_ | with_reducible refine B_drewN ?_ _ | with_reducible refine B_set ?_ (by simp; omega) _)))).mono ?_; rintro e wq ⟨rfl, z1, rfl⟩)
        go_roundw
        case rel => exact ⟨j + 1, by omega, by go_num, by rw [HE.out]; rfl, ext_below (by repeat (first | exact B_refl | exact Below.refl _ _ | assumption | with_reducible refine B_alloc ?_ _ | with_reducible refine B_ext ?_ _ | with_reducible refine B_drew ?_ | with_reducible refine B_drewN ?_ _ | with_reducible refine B_set ?_ (by simp; omega) _))⟩
        case measure => simp [intOf]; omega
      · rw [heq] at HH
        have HE : Hid (idxP (restsOn ss rs day) ls = (j : Int)) := by show _ = _; rw [HF.out, heq]; rfl
        go_wp2_with (go_at_call 76; refine (HH _ (he.keep (n := w.heap.size) (by repeat (first | exact B_refl | exact Below.refl _ _ | assumption | with_reducible refine B_alloc ?_ _ | with_reducible refine B_ext ?_ _ | with_reducible refine B_drew ?_ | with_reducible refine B_drewN ?_ _ | with_reducible refine B_set ?_ (by simp; omega) _))) (by simp [ext_size]; omega) (by simp [ext_size]; omega) (cell_kept hb hpb (by repeat (first | exact B_refl | exact Below.refl _ _ | assumption | with_reducible refine B_alloc ?_ _ | with_reducible refine B_ext ?_ _ | with_reducible refine B_drew ?_ | with_reducible refine B_drewN ?_ _ | with_reducible refine B_set ?_ (by simp; omega) _))) (cell_kept hd hpd (by repeat (first | exact B_refl | exact Below.refl _ _ | assumption | with_reducible refine B_alloc ?_ _ | with_reducible refine B_ext ?_ _ | with_reducible refine B_drew ?_ | with_reducible refine B_drewN ?_ _ | with_reducible refine B_set ?_ (by simp; omega) _)))).mono ?_; rintro e wq ⟨rfl, z1, rfl⟩)
        go_ret
        rw [HE.out]
        exact Ret.of rfl (by repeat (first | exact B_refl | exact Below.refl _ _ | assumption | with_reducible refine B_alloc ?_ _ | with_reducible refine B_ext ?_ _ | with_reducible refine B_drew ?_ | with_reducible refine B_drewN ?_ _ | with_reducible refine B_set ?_ (by simp; omega) _))
    · have hje : j = ls.length := by omega
      subst hje
      rw [List.drop_length, idxGo] at hf
      have HF := Lib.hid hf
      clear hf
      go_wp2_with fail
      go_ret
      rw [HF.out]
      exact Ret.of rfl (by repeat (first | exact B_refl | exact Below.refl _ _ | assumption | with_reducible refine B_alloc ?_ _ | with_reducible refine B_ext ?_ _ | with_reducible refine B_drew ?_ | with_reducible refine B_drewN ?_ _ | with_reducible refine B_set ?_ (by simp; omega) _))
end Go.Proofs.YtpohkolapgofdaaGreat
namespace Go.Proofs.YtpohkolapgofdaaGreat
open Go.RowKit Go.Shelf
attribute [local go_sem] World.cell?_alloc_mark ext_size ext_cell ext_frozen lt_add_r lt_add_r2 lt_add_r3 lt_add_r4 lt_add_r5 lt_add_r6 lt_add_r7 lt_add_r8

theorem idxGo_any (p : Lot → Bool) : ∀ (ls : List Lot) (i : Int), 0 ≤ i → decide (0 ≤ idxGo p ls i) = ls.any p
  | [], i, _ => by simp [idxGo]
  | l :: r, i, h => by
    rw [idxGo, List.any_cons]
    cases hp : p l
    · rw [if_neg Bool.false_ne_true, idxGo_any p r (i + 1) (by omega), Bool.false_or]
    · simp [h]
set_option maxRecDepth 100000 in
set_option maxHeartbeats 2000000 in
theorem containsRs_any (base bb : Nat) (k : Bk) (ss : List Site) (rs : List Rest) (day : Int) (pb pd : Nat) (ls : List Lot) (A : Option Addr) (cap : Nat) (w : World) (hS : Sl w 6 Lot.cells A ls) (hl : ls.length ≤ 100000) (he : Env w base bb k ss rs)
    (hb : pb < w.heap.size) (hd : pd < w.heap.size) (hpb : w.cell? ⟨pb, 0, none⟩ = some (.pointer (some ⟨bb, 0, none⟩))) (hpd : w.cell? ⟨pd, 0, none⟩ = some (.int .i64 day)) (hfs : ∀ l ∈ ls, ∃ s, findSite l.site ss = some s) :
    Calls Tryz.prog 75 #[.slice A ls.length cap, .func (.func 76) #[] #[.pointer (some ⟨pb, 0, none⟩), .pointer (some ⟨pd, 0, none⟩)]] w (Ret w (.bool (ls.any (restsOn ss rs day)))) := by
  have HI := indexRs_any base bb k ss rs day pb pd ls A cap w hS hl he hb hd hpb hpd hfs
  have hX := Lib.hid (idxGo_any (restsOn ss rs day) ls 0 (Int.le_refl _))
  have hY : idxP (restsOn ss rs day) ls = idxGo (restsOn ss rs day) ls 0 := rfl
  rw [hY] at HI
  clear hY
  generalize idxGo (restsOn ss rs day) ls 0 = r at HI hX
  go_enter Tryz.func75, Tryz.ntmps75
  go_wp2_with (go_at_call 94; refine HI.mono ?_; rintro e wq ⟨rfl, z, rfl⟩)
  go_ret
  exact Ret.of (by rw [← hX.out]; rfl) (by repeat (first | exact B_refl | exact Below.refl _ _ | assumption | with_reducible refine B_alloc ?_ _ | with_reducible refine B_ext ?_ _ | with_reducible refine B_drew ?_ | with_reducible refine B_drewN ?_ _ | with_reducible refine B_set ?_ (by simp; omega) _))
set_option maxRecDepth 100000 in
set_option maxHeartbeats 2000000 in
theorem resting_any (base bb : Nat) (k : Bk) (ss : List Site) (rs : List Rest) (day : Int) (ls : List Lot) (A : Option Addr) (cap : Nat) (w : World) (hS : Sl w 6 Lot.cells A ls) (hl : ls.length ≤ 100000) (he : Env w base bb k ss rs) (hfs : ∀ l ∈ ls, ∃ s, findSite l.site ss = some s) :
    Calls Tryz.prog 49 #[.pointer (some ⟨bb, 0, none⟩), .slice A ls.length cap, .int .i64 day] w (Ret w (.bool (ls.any (restsOn ss rs day)))) := by
  have HC := fun W h1 h2 h3 h4 h5 h6 => containsRs_any base bb k ss rs day w.heap.size (w.heap.size + 1) ls A cap W h1 hl h2 h3 h4 h5 h6 hfs
  go_enter Tryz.func49, Tryz.ntmps49
  go_wp2_with (go_at_call 75; refine (HC _ (hS.keep (n := w.heap.size) (by repeat (first | exact B_refl | exact Below.refl _ _ | assumption | with_reducible refine B_alloc ?_ _ | with_reducible refine B_ext ?_ _ | with_reducible refine B_drew ?_ | with_reducible refine B_drewN ?_ _ | with_reducible refine B_set ?_ (by simp; omega) _))) (he.keep (n := w.heap.size) (by repeat (first | exact B_refl | exact Below.refl _ _ | assumption | with_reducible refine B_alloc ?_ _ | with_reducible refine B_ext ?_ _ | with_reducible refine B_drew ?_ | with_reducible refine B_drewN ?_ _ | with_reducible refine B_set ?_ (by simp; omega) _))) (by simp; omega) (by simp) (cell_of (cs := #[.pointer (some ⟨bb, 0, none⟩)]) (by (repeat (first | with_reducible exact G_new _ _ _ (by simp) | with_reducible exact G_new _ _ _ (by simp [ext_size]) | with_reducible refine G_drew ?_ | with_reducible refine G_ext ?_ | with_reducible refine G_alloc ?_))) rfl) (cell_of (cs := #[.int .i64 day]) (by (repeat (first | with_reducible exact G_new _ _ _ (by simp) | with_reducible exact G_new _ _ _ (by simp [ext_size]) | with_reducible refine G_drew ?_ | with_reducible refine G_ext ?_ | with_reducible refine G_alloc ?_))) rfl)).mono ?_; rintro e wq ⟨rfl, z, rfl⟩)
  go_ret
  exact Ret.of rfl (by repeat (first | exact B_refl | exact Below.refl _ _ | assumption | with_reducible refine B_alloc ?_ _ | with_reducible refine B_ext ?_ _ | with_reducible refine B_drew ?_ | with_reducible refine B_drewN ?_ _ | with_reducible refine B_set ?_ (by simp; omega) _))
end Go.Proofs.YtpohkolapgofdaaGreat
namespace Go.Proofs.YtpohkolapgofdaaGreat
open Go.RowKit Go.Shelf Go.Sort
attribute [local go_sem] World.cell?_alloc_mark ext_size ext_cell ext_frozen lt_add_r lt_add_r2 lt_add_r3 lt_add_r4 lt_add_r5 lt_add_r6 lt_add_r7 lt_add_r8

theorem lvlSorted_perm (ls : List Lot) : (lvlSorted ls).Perm ls := by
  obtain ⟨⟨hsz, _, hperm⟩, _⟩ := insertionSort_holds (lt := lvl) lvl_swo ls.toArray 0 ls.length (Nat.zero_le _) (by simp)
  have e1 : (insertionSort lvl ls.toArray 0 ls.length).extract 0 ls.length = insertionSort lvl ls.toArray 0 ls.length := by
    have h : (insertionSort lvl ls.toArray 0 ls.length).size = ls.length := by rw [hsz]; simp
    generalize insertionSort lvl ls.toArray 0 ls.length = d at h
    rw [← h, Array.extract_size]
  have e2 : ls.toArray.extract 0 ls.length = ls.toArray := by
    have h : ls.toArray.size = ls.length := by simp
    generalize ls.toArray = d at h
    rw [← h, Array.extract_size]
  rw [e1, e2] at hperm
  unfold lvlSorted
  simpa using hperm
/-- What lies at a site, by levels, within a level by the remains' names. -/
def LyPost (w : World) (k : Bk) (nm : ByteArray) (e : Ending) (w' : World) : Prop :=
  ∃ v L, e = .returned v ∧ L.Perm (lotsNow k.st) ∧ Up L ∧ Held w' w.heap.size v ((lvlSorted (hereL nm L)).filter lies) ∧ ∃ z, w' = w.ext z
theorem ly_mem {k : Bk} {nm : ByteArray} {L : List Lot} (hp : L.Perm (lotsNow k.st)) (l : Lot) : l ∈ (lvlSorted (hereL nm L)).filter lies ↔ l ∈ lotsNow k.st ∧ hereP l nm = true ∧ lies l = true := by
  rw [List.mem_filter, (lvlSorted_perm _).mem_iff, hereL, List.mem_filter, hp.mem_iff, and_assoc]
theorem ly_len {k : Bk} {nm : ByteArray} {L : List Lot} (hp : L.Perm (lotsNow k.st)) : ((lvlSorted (hereL nm L)).filter lies).length ≤ (lotsNow k.st).length := by
  refine Nat.le_trans (List.length_filter_le _ _) ?_
  rw [(lvlSorted_perm _).length_eq, ← hp.length_eq]
  exact hereL_le nm L
set_option maxRecDepth 100000 in
set_option maxHeartbeats 2000000 in
theorem lying_any (base bb : Nat) (k : Bk) (nm : ByteArray) (w : World) (hbk : BookAt w base bb k) (hl : k.st.length ≤ 100000) (hf : (lotsNow k.st).length < 20) :
    Calls Tryz.prog 48 #[.pointer (some ⟨bb, 0, none⟩), .string nm] w (LyPost w k nm) := by
  go_enter Tryz.func48, Tryz.ntmps48
  go_wp2_with (first
    | (go_at_call 40; refine (at_any base bb k nm _ hbk hl hf).mono ?_; rintro e wq ⟨v, L, rfl, hp, hu, hH, z, rfl⟩
       have hlen : (lvlSorted (hereL nm L)).length ≤ 100000 := by
         have h1 := (lvlSorted_perm (hereL nm L)).length_eq
         have h2 := hereL_le nm L
         have h3 := hp.length_eq
         omega)
    | (go_at_call 73; refine (deleteLy_any _ (lvlSorted (hereL nm L)) w.heap.size _ hH hlen).mono ?_; rintro e wq ⟨v2, rfl, hH2, hB2⟩))
  go_ret
  exact ⟨_, L, rfl, hp, hu, hH2, ext_below (hB2 w (by repeat (first | exact B_refl | exact Below.refl _ _ | assumption | with_reducible refine B_alloc ?_ _ | with_reducible refine B_ext ?_ _ | with_reducible refine B_drew ?_ | with_reducible refine B_drewN ?_ _ | with_reducible refine B_set ?_ (by simp; omega) _)) (Nat.le_refl _))⟩
theorem findSite_of_mem {s : Site} : ∀ {ss : List Site}, s ∈ ss → ∃ s', findSite s.name ss = some s'
  | x :: ss, h => by
    unfold findSite
    split
    · exact ⟨x, rfl⟩
    · rename_i hx
      rcases List.mem_cons.1 h with rfl | h
      · simp at hx
      · exact findSite_of_mem h
end Go.Proofs.YtpohkolapgofdaaGreat
