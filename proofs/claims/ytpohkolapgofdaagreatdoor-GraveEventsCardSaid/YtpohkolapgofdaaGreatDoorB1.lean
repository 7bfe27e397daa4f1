/- Walks of the book's questions: a remain's lot, what is occupied. -/
import Derived.Test.YtpohkolapgofdaaGreatDoorA2
import Derived.Test.YtpohkolapgofdaaGreatDoorK3
namespace Go.Proofs.YtpohkolapgofdaaGreatDoor
open Go.RowKit Go.Shelf
attribute [local go_sem] World.cell?_alloc_mark ext_size ext_cell ext_frozen lt_add_r lt_add_r2 lt_add_r3 lt_add_r4 lt_add_r5 lt_add_r6 lt_add_r7 lt_add_r8
attribute [local go_sem] Oper.semAt_some

def occL (site : ByteArray) (lo hi : Int) (l : Lot) : Bool := l.state == 1 && l.site.toList == site.toList && inR l.level lo hi
def occP (site : ByteArray) (lo hi : Int) (l : List Lot) : Bool := l.any (occL site lo hi)
theorem occP_snoc (site : ByteArray) (lo hi : Int) (pre : List Lot) (x : Lot) : occP site lo hi (pre ++ [x]) = (occP site lo hi pre || occL site lo hi x) := by simp [occP]

/-- A block that is known whole abides the turn of what is no cells. -/
theorem blk_own {W W' : World} {row : Option Nat} {b : Nat} {cs : Array Value} {t : TypeId} {fr : Nat × Nat} (h : W.heap[b]? = some (.cells cs t fr)) (hg : W.grownBy W' row) (hr : ∀ r, row = some r → ∃ o : Obj, W.heap[r]? = some o ∧ o.isCells = false) :
    W'.heap[b]? = some (.cells cs t fr) := by
  refine (hg.block b (Array.getElem?_eq_some_iff.1 h).1 (fun e => ?_)).trans h
  obtain ⟨o, ho, hc⟩ := hr b e.symm
  rw [h] at ho; cases ho; cases hc

set_option maxRecDepth 100000 in
set_option maxHeartbeats 2000000 in
theorem occupied_in (base bb : Nat) (k : Bk) (site : ByteArray) (lo hi : Int) (w : World) (hbk : BookAt w base bb k) (hl : k.st.length ≤ 100000) :
    CallsIn Fence.wide 9 Tryz.prog 103 #[.pointer (some ⟨bb, 0, none⟩), .string site, .int .i64 lo, .int .i64 hi] w (Ret w (.bool (occP site lo hi (lotsNow k.st)))) := by
  refine callsIn_of_wp_marks Tryz.func103 rfl trivial ?_ rfl
  simp only [Tryz.ntmps103, List.size_toArray, List.length_cons, List.length_nil, Nat.reduceAdd, Nat.reduceSub, Array.replicate_succ, Array.replicate_zero, List.push_toArray, List.append_toArray, List.nil_append, List.cons_append]
  gi_wp2
  obtain ⟨W0, hW0⟩ : ∃ W0, W0 = ((((w.alloc (.cells #[.string site] 9)).alloc (.cells #[.int .i64 lo] 3)).alloc (.cells #[.int .i64 hi] 3)).alloc (.cells #[.bool false] 4)) := ⟨_, rfl⟩
  rw [← hW0]
  have hz : W0.heap.size = w.heap.size + 4 := by rw [hW0]; simp
  have hB : Below w.heap.size w W0 := by rw [hW0]; repeat (first | exact Below.refl _ _ | exact Below.refl (World.heap _).size _ | assumption | refine B_alloc ?_ _ | refine B_ext ?_ _ | refine B_drew ?_ | refine B_drewN ?_ _ | refine B_set ?_ (by simp; omega) _)
  have b0 : W0.heap[w.heap.size]? = some (.cells #[.string site] 9 (0, 0)) := by rw [hW0]; simp only [alloc_get, World.size_alloc]; rw [if_neg (by omega), if_neg (by omega), if_neg (by omega), if_pos trivial]
  have b1 : W0.heap[w.heap.size + 1]? = some (.cells #[.int .i64 lo] 3 (0, 0)) := by rw [hW0]; simp only [alloc_get, World.size_alloc]; rw [if_neg (by omega), if_neg (by omega), if_pos trivial]
  have b2 : W0.heap[w.heap.size + 1 + 1]? = some (.cells #[.int .i64 hi] 3 (0, 0)) := by rw [hW0]; simp only [alloc_get, World.size_alloc]; rw [if_neg (by omega), if_pos trivial]
  have b3 : W0.heap[w.heap.size + 1 + 1 + 1]? = some (.cells #[.bool false] 4 (0, 0)) := by rw [hW0]; simp only [alloc_get, World.size_alloc]; rw [if_pos trivial]
  clear hW0
  refine wpIn_range_bound rfl (by omega) (gf := 124) (lf := #[.pointer (some ⟨bb, 0, none⟩)]) (lb := #[]) rfl trivial (enters_of Tryz.func124 (by kernel_rfl) rfl)
    (lots_seq (9 - 1) (by omega) w.heap.size base bb k w W0 hbk (Nat.le_refl _) hB.size hB hl) belowK_t (belowK_b hB.size) (Below.refl _ _) (fun _ => rfl)
    (fun pre W => (occP site lo hi pre = false ∧ W.heap[w.heap.size]? = some (.cells #[.string site] 9 (0, 0)) ∧ W.heap[w.heap.size + 1]? = some (.cells #[.int .i64 lo] 3 (0, 0)) ∧ W.heap[w.heap.size + 1 + 1]? = some (.cells #[.int .i64 hi] 3 (0, 0)) ∧ W.heap[w.heap.size + 1 + 1 + 1]? = some (.cells #[.bool false] 4 (0, 0))) ∧ Below w.heap.size w W)
    (fun c pre W => (c = .ret ∧ occP site lo hi pre = true ∧ W.heap[w.heap.size + 1 + 1 + 1]? = some (.cells #[.bool true] 4 (0, 0))) ∧ Below w.heap.size w W)
    (OwnFrom.and (fun s A B row hs hg hr => ⟨hs.1, blk_own hs.2.1 hg (fun r e => (hr r e).2), blk_own hs.2.2.1 hg (fun r e => (hr r e).2), blk_own hs.2.2.2.1 hg (fun r e => (hr r e).2), blk_own hs.2.2.2.2 hg (fun r e => (hr r e).2)⟩) (ownFrom_below (Nat.le_refl _) hB.size))
    (fun c => OwnFrom.and (fun s A B row hs hg hr => ⟨hs.1, hs.2.1, blk_own hs.2.2 hg (fun r e => (hr r e).2)⟩) (ownFrom_below (Nat.le_refl _) hB.size))
    ⟨⟨rfl, b0, b1, b2, b3⟩, hB⟩
    (fun x a' W => ∃ Bx, w.heap.size + 4 ≤ Bx ∧ W.heap[Bx]? = some (.cells #[.string x.remain, .int .i64 x.state, .string x.site, .int .i64 x.level, .int .i64 x.container, .int .i64 x.since] 107 (0, 0)) ∧
      a' = { tmps := #[.pointer (some ⟨bb, 0, none⟩), .string site, .int .i64 lo, .int .i64 hi, undef, .pointer (some ⟨w.heap.size, 0, none⟩), .pointer (some ⟨w.heap.size + 1, 0, none⟩), .pointer (some ⟨w.heap.size + 1 + 1, 0, none⟩), .pointer (some ⟨w.heap.size + 1 + 1 + 1, 0, none⟩), .pointer (some ⟨Bx, 0, none⟩), .pointer (some ⟨bb, 0, none⟩), .func (.func 124) #[.pointer (some ⟨bb, 0, none⟩)] #[], x.v, undef, undef, undef, undef, undef, undef, undef, undef, undef, undef, undef, undef, undef, undef, undef, undef], defers := [] })
    (fun x a' s A B row hs hg hr => by obtain ⟨Bx, h1, h2, h3⟩ := hs; exact ⟨Bx, h1, blk_own h2 hg (fun r e => (hr r e).2), h3⟩)
    ?assign ?body ?done ?stop
  case assign =>
    rintro l pre x W K hi hK
    obtain ⟨rm, sta, si, lv, co, sc⟩ := x
    dsimp only [Lot.v]
    gi_wp2
    refine hK _ _ ((KeepsOthers.alloc _ _).from _) ((Below.refl _ W).alloc hi.2.size _) ?_ ?_
    · obtain ⟨⟨h0, h1, h2, h3, h4⟩, h5⟩ := hi
      exact ⟨⟨h0, blk_own h1 (World.grownBy_alloc _ _ none) (fun r e => by cases e), blk_own h2 (World.grownBy_alloc _ _ none) (fun r e => by cases e), blk_own h3 (World.grownBy_alloc _ _ none) (fun r e => by cases e), blk_own h4 (World.grownBy_alloc _ _ none) (fun r e => by cases e)⟩, h5.alloc h5.size _⟩
    · refine ⟨W.heap.size, ?_, heap_alloc_new W _, rfl⟩
      have := (Array.getElem?_eq_some_iff.1 hi.1.2.2.2.2).1
      omega
  case body =>
    rintro l pre x a' W hWl _ ⟨⟨hp, b0, b1, b2, b3⟩, hBW⟩ ⟨Bx, hBx, bx, rfl⟩ _
    obtain ⟨rm, sta, si, lv, co, sc⟩ := x
    dsimp only at bx
    have c0 : W.cell? ⟨w.heap.size, 0, none⟩ = some (.string site) := by simp [World.cell?, b0]
    have c1 : W.cell? ⟨w.heap.size + 1, 0, none⟩ = some (.int .i64 lo) := by simp [World.cell?, b1]
    have c2 : W.cell? ⟨w.heap.size + 1 + 1, 0, none⟩ = some (.int .i64 hi) := by simp [World.cell?, b2]
    have c3 : W.cell? ⟨w.heap.size + 1 + 1 + 1, 0, none⟩ = some (.bool false) := by simp [World.cell?, b3]
    have f3 : W.frozen? ⟨w.heap.size + 1 + 1 + 1, 0, none⟩ = false := by simp [World.frozen?, b3]
    have x1 : W.cell? ⟨Bx, 1, none⟩ = some (.int .i64 sta) := by simp [World.cell?, bx]
    have x2 : W.cell? ⟨Bx, 2, none⟩ = some (.string si) := by simp [World.cell?, bx]
    have x3 : W.cell? ⟨Bx, 3, none⟩ = some (.int .i64 lv) := by simp [World.cell?, bx]
    have HPB := Lib.hid hp
    clear hp
    gi_wp2_with (refine ⟨trivial, ?_⟩; gi_at_call 41; refine (CallsIn.inRound l (callsIn_wide.2 (within_any _ _ _ _))).mono ?_; intro e wq hq; rcases Ret0.bools hq with ⟨rfl, ⟨hb, rfl⟩ | ⟨hb, rfl⟩⟩ <;> clear hq)
    · refine ⟨(KeepsOthers.setCell _ _ _).from _, ⟨rfl, ?_, Boxed.set (.bool true) b3⟩, hBW.setCell (p := ⟨w.heap.size + 1 + 1 + 1, 0, none⟩) (by simp; omega) _⟩
      rw [occP_snoc, HPB.out]
      simp_all [occL]
    all_goals try (refine ⟨trivial, ?_⟩; gi_wp2)
    all_goals
      refine ⟨KeepsFrom.refl _ _, Below.refl _ _, ⟨?_, b0, b1, b2, b3⟩, hBW⟩
      rw [occP_snoc, HPB.out]
      simp_all [occL]
  case done =>
    rintro D ys W hD rfl ⟨⟨hp, b0, b1, b2, b3⟩, hBW⟩ hK
    have c3 : W.cell? ⟨w.heap.size + 1 + 1 + 1, 0, none⟩ = some (.bool false) := by simp [World.cell?, b3]
    have f3 : W.frozen? ⟨w.heap.size + 1 + 1 + 1, 0, none⟩ = false := by simp [World.frozen?, b3]
    gi_wp2
    have hK' := (KeepsOthers.setCell W ⟨w.heap.size + 1 + 1 + 1, 0, none⟩ (.bool false)).same D _ hK rfl
    refine ⟨by simp, .inl ⟨_, _, rfl, run_takeDeferred hK', ?_⟩⟩
    have hc5 := cell_kept (World.cell?_setCell_same' W ⟨w.heap.size + 1 + 1 + 1, 0, none⟩ (.bool false) (by rw [c3]; rfl)) (grownBy_putObj' _ D (.deferred none)) (fun r e => by cases e; exact ⟨_, hK', rfl⟩)
    refine ⟨.bool false, ?_, Ret.of (by rw [hp]) ((hBW.setCell (p := ⟨w.heap.size + 1 + 1 + 1, 0, none⟩) (by simp; omega) _).trans (belowK_b (w := w) (Nat.le_refl _) _ D _ _ (by omega) hK' rfl rfl))⟩
    simp [results, Tryz.f103, go_sem, hc5]
  case stop =>
    rintro D c pre W hD hpre ⟨⟨rfl, hin, b3⟩, hBW⟩ hK
    have c3 : W.cell? ⟨w.heap.size + 1 + 1 + 1, 0, none⟩ = some (.bool true) := by simp [World.cell?, b3]
    gi_wp2
    refine ⟨by simp, .inl ⟨_, _, rfl, run_takeDeferred hK, ?_⟩⟩
    have hc5 := cell_kept c3 (grownBy_putObj' _ D (.deferred none)) (fun r e => by cases e; exact ⟨_, hK, rfl⟩)
    have ha : occP site lo hi (lotsNow k.st) = true := by
      obtain ⟨r, hr⟩ := hpre
      rw [← hr, occP, List.any_append, show pre.any (occL site lo hi) = true from hin]; rfl
    refine ⟨.bool true, ?_, Ret.of (by rw [ha]) (hBW.trans (belowK_b (w := w) (Nat.le_refl _) W D _ _ (by omega) hK rfl rfl))⟩
    simp [results, Tryz.f103, go_sem, hc5]
theorem occupied_any (base bb : Nat) (k : Bk) (site : ByteArray) (lo hi : Int) (w : World) (hbk : BookAt w base bb k) (hl : k.st.length ≤ 100000) :
    Calls Tryz.prog 103 #[.pointer (some ⟨bb, 0, none⟩), .string site, .int .i64 lo, .int .i64 hi] w (Ret w (.bool (occP site lo hi (lotsNow k.st)))) :=
  callsIn_wide.1 (occupied_in base bb k site lo hi w hbk hl)

end Go.Proofs.YtpohkolapgofdaaGreatDoor
