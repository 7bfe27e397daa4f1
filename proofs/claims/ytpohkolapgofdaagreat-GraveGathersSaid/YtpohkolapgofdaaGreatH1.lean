/- Walk: the lots of a book, collected. -/
import Derived.Test.YtpohkolapgofdaaGreatB1
import Derived.Test.YtpohkolapgofdaaGreatF2
import Derived.Test.YtpohkolapgofdaaGreatL9
namespace Go.Proofs.YtpohkolapgofdaaGreat
open Go.RowKit Go.Shelf
attribute [local go_sem] World.cell?_alloc_mark ext_size ext_cell ext_frozen lt_add_r lt_add_r2 lt_add_r3 lt_add_r4 lt_add_r5 lt_add_r6 lt_add_r7 lt_add_r8
attribute [local go_sem] Oper.semAt_some

theorem lot_step {W w1 : World} {n₀ : Nat} {A1 : Option Addr} {k1 : Nat} {Lb : List Lot} {x : Lot} {v' : Value} {o : Obj}
    (hv1 : W.heap[n₀]? = some (.cells #[.slice A1 Lb.length k1] 33 (0, 0))) (hv2 : W.ownsRow n₀ 40 6 (.slice A1 Lb.length k1) Lb.length (Lb.flatMap Lot.cells))
    (h1 : w1.ownsRow n₀ 40 6 v' (Lb.length + 1) (Lb.flatMap Lot.cells ++ [x].flatMap Lot.cells)) (g1 : (W.alloc o).grownBy w1 (Value.slice A1 Lb.length k1).ownBlock) :
    ∃ A2 k2, v' = .slice A2 (Lb.length + 1) k2 ∧ w1.heap[n₀]? = some (.cells #[.slice A1 Lb.length k1] 33 (0, 0)) ∧ w1.frozen? ⟨n₀, 0, none⟩ = false ∧ w1.cell? ⟨n₀, 0, none⟩ = some (.slice A1 Lb.length k1) := by
  have e : (Lb.flatMap Lot.cells ++ [x].flatMap Lot.cells) = (Lb ++ [x]).flatMap Lot.cells := by rw [List.flatMap_append]
  have h2 : w1.ownsRow n₀ 40 6 v' (Lb ++ [x]).length ((Lb ++ [x]).flatMap Lot.cells) := by rw [← e]; simpa using h1
  obtain ⟨A2, k2, rfl, _, _⟩ := own_sl lot_len h2
  have hh : w1.heap[n₀]? = some (.cells #[.slice A1 Lb.length k1] 33 (0, 0)) := (g1.block n₀ (by simp; have := blk_lt hv1; omega) (own_ne hv2 hv1 (by decide))).trans ((Below.heap_alloc W o n₀ (blk_lt hv1)).trans hv1)
  exact ⟨A2, k2, by simp, hh, by simp [World.frozen?, hh], by simp [World.cell?, hh]⟩
theorem lot_done {W w1 w : World} {n₀ B : Nat} {A1 A2 : Option Addr} {k1 k2 : Nat} {Lb Ln : List Lot} {x : Lot} {o : Obj}
    (hv1 : W.heap[n₀]? = some (.cells #[.slice A1 Lb.length k1] 33 (0, 0))) (hv2 : W.ownsRow n₀ 40 6 (.slice A1 Lb.length k1) Lb.length (Lb.flatMap Lot.cells))
    (h1 : w1.ownsRow n₀ 40 6 (.slice A2 (Lb.length + 1) k2) (Lb.length + 1) (Lb.flatMap Lot.cells ++ [x].flatMap Lot.cells)) (g1 : (W.alloc o).grownBy w1 (Value.slice A1 Lb.length k1).ownBlock)
    (hn1 : w1.heap[n₀]? = some (.cells #[.slice A1 Lb.length k1] 33 (0, 0))) (hB : Below n₀ w W) (hLn : Ln = Lb ++ [x]) :
    KeepsFrom B W (w1.setCell ⟨n₀, 0, none⟩ (.slice A2 (Lb.length + 1) k2)) ∧ Below n₀ W (w1.setCell ⟨n₀, 0, none⟩ (.slice A2 (Lb.length + 1) k2)) ∧
      OutAt (w1.setCell ⟨n₀, 0, none⟩ (.slice A2 (Lb.length + 1) k2)) n₀ n₀ 33 40 6 (Ln.flatMap Lot.cells) Ln.length ∧ Below n₀ w (w1.setCell ⟨n₀, 0, none⟩ (.slice A2 (Lb.length + 1) k2)) := by
  have hcs := own_cells (hv2.alloc o)
  have hlt := hv2.lt
  have hBW : Below n₀ W (w1.setCell ⟨n₀, 0, none⟩ (.slice A2 (Lb.length + 1) k2)) :=
    B_set (Below.grown (B_alloc (Below.refl _ _) o (Nat.le_of_lt (blk_lt hv1))) g1 (by simp; have := blk_lt hv1; omega) (fun k hk => (hlt k hk).1)) (Nat.le_refl _) _
  refine ⟨(((KeepsOthers.alloc W o).from B).trans (keeps_cells g1 hcs)).trans ((KeepsOthers.setCell w1 _ _).from B), hBW, ?_, hB.trans hBW⟩
  subst hLn
  refine ⟨.slice A2 (Lb.length + 1) k2, by simpa using Joins.block_setCell (i := 0) hn1 (.slice A2 (Lb.length + 1) k2), ?_⟩
  have e : (Lb ++ [x]).flatMap Lot.cells = Lb.flatMap Lot.cells ++ [x].flatMap Lot.cells := by rw [List.flatMap_append]
  rw [e, List.length_append]
  exact h1.kept (grown_set w1 n₀ 0 _) (.inr (Ne.symm (own_ne h1 hn1 (by decide))))

set_option maxRecDepth 100000 in
set_option maxHeartbeats 2000000 in
theorem appendSeq_in (base bb : Nat) (k : Bk) (w : World) (hbk : BookAt w base bb k) (hl : k.st.length ≤ 100000) :
    CallsIn Fence.wide 9 Tryz.prog 82 #[.slice none 0 0, .func (.func 59) #[.pointer (some ⟨bb, 0, none⟩)] #[]] w (LotsPost w (lotsNow k.st)) := by
  refine callsIn_of_wp_marks Tryz.func82 rfl trivial ?_ rfl
  simp only [Tryz.ntmps82, List.size_toArray, List.length_cons, List.length_nil, Nat.reduceAdd, Nat.reduceSub, Array.replicate_succ, Array.replicate_zero, List.push_toArray, List.append_toArray, List.nil_append, List.cons_append]
  gi_wp2
  have hll : (lotsNow k.st).length ≤ 100000 := by
    unfold lotsNow
    rw [List.length_map]
    have := List.length_filter_le (fun s : Stay => decide (s.till < 0)) k.st
    omega
  generalize hn₀ : w.heap.size = n₀
  obtain ⟨W0, hW0⟩ : ∃ W0, W0 = w.alloc (.cells #[.slice none 0 0] 33) := ⟨_, rfl⟩
  rw [← hW0]
  have hB : Below n₀ w W0 := by rw [hW0]; exact B_alloc (Below.refl _ _) _ (by omega)
  have b0 : W0.heap[n₀]? = some (.cells #[.slice none 0 0] 33 (0, 0)) := by rw [hW0, ← hn₀]; exact heap_alloc_new w _
  have hz : n₀ < W0.heap.size := blk_lt b0
  have HN := Lib.hid hn₀
  clear hW0 hn₀
  refine wpIn_range_bound rfl (by omega) (gf := 59) (lf := #[.pointer (some ⟨bb, 0, none⟩)]) (lb := #[]) rfl trivial (enters_of Tryz.func59 (by kernel_rfl) rfl)
    (lots_seq (9 - 1) (by omega) n₀ base bb k w W0 hbk (by have := HN.out; omega) (Nat.le_of_lt hz) hB hl) (fun h1 h2 => h1.trans h2) (fun W l o o' h1 h2 h3 h4 => belowK_b (w := w) (by have := HN.out; omega) W l o o' (by have := HN.out; omega) h2 h3 h4) (Below.refl _ _) (fun _ => rfl)
    (fun pre W => OutAt W n₀ n₀ 33 40 6 (pre.flatMap Lot.cells) pre.length ∧ Below n₀ w W)
    (fun _ _ _ => False)
    (fun s A B row hs hg hr => ⟨hs.1.kept hg (fun r e => (hr r e).2), hs.2.grown hg (by have := hs.2.size; have := HN.out; omega) (fun r e => by have := (hr r e).1; omega)⟩)
    (fun _ s A B row hs _ _ => hs.elim)
    ⟨⟨.slice none 0 0, b0, World.ownsRow_nil _ _ _ _⟩, hB⟩
    (fun x a' W => ∃ Bx, n₀ < Bx ∧ W.heap[Bx]? = some (.cells #[.string x.remain, .int .i64 x.state, .string x.site, .int .i64 x.level, .int .i64 x.container, .int .i64 x.since] 40 (0, 0)) ∧
      a' = { tmps := #[.slice none 0 0, .func (.func 59) #[.pointer (some ⟨bb, 0, none⟩)] #[], .pointer (some ⟨n₀, 0, none⟩), undef, .slice none 0 0, .pointer (some ⟨Bx, 0, none⟩), .func (.func 59) #[.pointer (some ⟨bb, 0, none⟩)] #[], x.v, undef, undef, undef, undef, undef], defers := [] })
    (fun x a' s A B row hs hg hr => by obtain ⟨Bx, h1, h2, h3⟩ := hs; exact ⟨Bx, h1, blk_own h2 hg (fun r e => (hr r e).2), h3⟩)
    ?assign ?body ?done ?stop
  case assign =>
    rintro l pre x W K hi hK
    obtain ⟨rm, sta, si, lv, co, sc⟩ := x
    dsimp only [Lot.v]
    gi_wp2
    obtain ⟨hout, hBW⟩ := hi
    have hnW : n₀ < W.heap.size := by obtain ⟨v, h1, _⟩ := hout; exact blk_lt h1
    refine hK _ _ ((KeepsOthers.alloc _ _).from _) (B_alloc (Below.refl _ _) _ (Nat.le_of_lt hnW)) ⟨hout.kept (World.grownBy_alloc _ _ none) (fun r e => by cases e), B_alloc hBW _ (by have := HN.out; omega)⟩ ?_
    exact ⟨W.heap.size, hnW, heap_alloc_new W _, rfl⟩
  case body =>
    rintro l pre x a' W hWl _ ⟨⟨v, hv1, hv2⟩, hBW⟩ ⟨Bx, hBx, bx, rfl⟩ hlen
    obtain ⟨A1, k1, rfl, _, _⟩ := own_sl lot_len hv2
    obtain ⟨rm, sta, si, lv, co, sc⟩ := x
    dsimp only at bx
    have hpl : pre.length ≤ 100000 := by omega
    have hvc : W.cell? ⟨n₀, 0, none⟩ = some (.slice A1 pre.length k1) := by simp [World.cell?, hv1]
    have x0 : W.cell? ⟨Bx, 0, none⟩ = some (.string rm) := by simp [World.cell?, bx]
    have x1 : W.cell? ⟨Bx, 1, none⟩ = some (.int .i64 sta) := by simp [World.cell?, bx]
    have x2 : W.cell? ⟨Bx, 2, none⟩ = some (.string si) := by simp [World.cell?, bx]
    have x3 : W.cell? ⟨Bx, 3, none⟩ = some (.int .i64 lv) := by simp [World.cell?, bx]
    have x4 : W.cell? ⟨Bx, 4, none⟩ = some (.int .i64 co) := by simp [World.cell?, bx]
    have x5 : W.cell? ⟨Bx, 5, none⟩ = some (.int .i64 sc) := by simp [World.cell?, bx]
    have hnW := blk_lt hv1
    have hxW := blk_lt bx
    gi_wp2_with (gi_at_builtin; refine wpListIn_append_sl rfl _ _ rfl elLot lot_len lot_one (base := n₀) (n := pre.length) (m := 1) (v := .slice A1 pre.length k1) rfl (hv2.alloc _) rfl (ys := [⟨rm, sta, si, lv, co, sc⟩]) rfl (sl_lot (x := ⟨rm, sta, si, lv, co, sc⟩) (t := 40) (fr := (0, 0)) (heap_alloc_new W _)) (by simp [maxLen]; omega) (by omega) (by simp; omega) ?_; intro v' w1 h1 g1; obtain ⟨A2, k2, rfl, hn1, hf1, hc1⟩ := lot_step hv1 hv2 h1 g1)
    exact lot_done hv1 hv2 h1 g1 hn1 hBW rfl
  case done =>
    rintro D ys W hD rfl ⟨⟨v, hv1, hv2⟩, hBW⟩ hK
    obtain ⟨A', c', rfl, _, _⟩ := own_sl lot_len hv2
    have hvc : W.cell? ⟨n₀, 0, none⟩ = some (.slice A' (lotsNow k.st).length c') := by simp [World.cell?, hv1]
    have HV := Lib.hid hv2
    clear hv2
    generalize lotsNow k.st = L at *
    gi_wp2
    refine leaves_marks (base := w.heap.size) [D] W (by simp) (fun D' hD' => ?_) fun w' hB' hc' => ⟨.slice A' L.length c', by simp [results, Tryz.f82], _, rfl, own_mono' (own_of_cells HV.out hc') (by have := HN.out; omega), ext_below ((by rw [HN.out]; exact hBW : Below w.heap.size w W).trans hB')⟩
    obtain rfl : D' = D := by simpa using hD'
    exact ⟨by have := HN.out; omega, hK⟩
  case stop =>
    rintro D cc pre W _ _ h _
    exact h.elim
theorem appendSeq_any (base bb : Nat) (k : Bk) (w : World) (hbk : BookAt w base bb k) (hl : k.st.length ≤ 100000) :
    Calls Tryz.prog 82 #[.slice none 0 0, .func (.func 59) #[.pointer (some ⟨bb, 0, none⟩)] #[]] w (LotsPost w (lotsNow k.st)) :=
  callsIn_wide.1 (appendSeq_in base bb k w hbk hl)
theorem collect_any (base bb : Nat) (k : Bk) (w : World) (hbk : BookAt w base bb k) (hl : k.st.length ≤ 100000) :
    Calls Tryz.prog 58 #[.func (.func 59) #[.pointer (some ⟨bb, 0, none⟩)] #[]] w (LotsPost w (lotsNow k.st)) := by
  have H := fun W (h : BookAt W base bb k) => appendSeq_any base bb k W h hl
  generalize lotsNow k.st = L at *
  go_enter Tryz.func58, Tryz.ntmps58
  go_wp2_with (go_at_call 82; refine (H _ hbk).mono ?_; rintro e wq ⟨v, rfl, hown, z, rfl⟩)
  go_ret
  exact ⟨_, rfl, hown, _, rfl⟩
end Go.Proofs.YtpohkolapgofdaaGreat
