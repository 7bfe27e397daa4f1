/- Walk of the program: the fields of an event (kinds bury, rebury). -/
/- Walk of the program: the event of a text. -/
/- Walk of the reference: the event of a text. -/
import Derived.Test.YtpohkolapgofdaaGreatDoorTW
import Derived.Test.YtpohkolapgofdaaGreatDoorR7
import Derived.Test.YtpohkolapgofdaaGreatDoorLE
import Derived.Deep.Cut
import Derived.Deep.CutBlock
namespace Go.Proofs.YtpohkolapgofdaaGreatDoor
open Go.RowKit
attribute [local go_sem] World.cell?_alloc_mark ext_size ext_cell ext_frozen lt_add_r lt_add_r2 lt_add_r3 lt_add_r4 lt_add_r5 lt_add_r6 lt_add_r7 lt_add_r8
attribute [local go_sem] ext_setCell alloc_setCell_lt
theorem cell_other {w W : World} {B b : Nat} {u : Value} (h : w.grownBy W (some B)) (hc : w.cell? ⟨b, 0, none⟩ = some u) (hne : b ≠ B) : W.cell? ⟨b, 0, none⟩ = some u :=
  (World.cell?_of_block (h.block b (cell_some hc) (fun e => hne (Option.some.inj e)))).trans hc
theorem block_cell {W : World} {B j : Nat} {u : Value} {cs : Array Value} {t : TypeId} (h : W.heap[B]? = some (.cells cs t (0, 0))) (hc : cs[j]? = some u) : W.cell? ⟨B, j, none⟩ = some u := by
  simp [World.cell?, h, hc]
set_option maxRecDepth 100000 in
set_option maxHeartbeats 2000000 in
theorem fields_bury (ws : List ByteArray) (A : Option Addr) (c : Nat) (w : World) (hL : Laid w) (hS : Sl w 1 strCells A ws) (hl : ws.length ≤ 100001) (hsz : ∀ x ∈ ws, x.size ≤ 1000) :
    Calls Tryz.prog 31 #[.int .i64 0, .slice A ws.length c] w (Ret w (.agg #[.int .i64 (numP (bs (wordAt ws 1))), .int .i64 0, .string (wordAt ws 2), .int .i64 (numP (bs (wordAt ws 3))), .string (wordAt ws 4), .int .i64 (numP (bs (wordAt ws 5))), .bool false])) := by
  go_enter Tryz.func31, Tryz.ntmps31
  go_wp2_with (first
    | (go_at_call 62; refine (numeral_any ws A c 1 w.heap.size (w.heap.size + 1 + 1 + 1) _ (hL.keep (n := w.heap.size) (by repeat (first | exact B_refl | exact Below.refl _ _ | assumption | with_reducible refine B_alloc ?_ _ | with_reducible refine B_ext ?_ _ | with_reducible refine B_drew ?_ | with_reducible refine B_drewN ?_ _ | with_reducible refine B_set ?_ (by simp; omega) _))) (hS.keep (n := w.heap.size) (by repeat (first | exact B_refl | exact Below.refl _ _ | assumption | with_reducible refine B_alloc ?_ _ | with_reducible refine B_ext ?_ _ | with_reducible refine B_drew ?_ | with_reducible refine B_drewN ?_ _ | with_reducible refine B_set ?_ (by simp; omega) _))) hl hsz (by decide) (by simp [go_sem]) (by simp [go_sem])).mono ?_; rintro e wq ⟨rfl, z1, rfl⟩))
  generalize hW0 : World.ext (World.alloc (World.alloc (World.alloc (w.alloc _) _) _) _) z1 = W0
  have hx : W0.heap[w.heap.size + 1 + 1]? = some (.cells #[.int .i64 (numP (bs (wordAt ws 1))), .int .i64 0, .string ⟨#[]⟩, .int .i64 0, .string ⟨#[]⟩, .int .i64 0, .bool false] 23 (0, 0)) := by rw [← hW0]; (repeat (first | with_reducible exact G_new _ _ _ (by simp) | with_reducible exact G_new _ _ _ (by simp [ext_size]) | with_reducible refine G_drew ?_ | with_reducible refine G_ext ?_ | with_reducible refine G_alloc ?_))
  have hr : W0.heap[w.heap.size + 1]? = some (.cells #[.int .i64 0, .int .i64 0, .string ⟨#[]⟩, .int .i64 0, .string ⟨#[]⟩, .int .i64 0, .bool false] 23 (0, 0)) := by rw [← hW0]; (repeat (first | with_reducible exact G_new _ _ _ (by simp) | with_reducible exact G_new _ _ _ (by simp [ext_size]) | with_reducible refine G_drew ?_ | with_reducible refine G_ext ?_ | with_reducible refine G_alloc ?_))
  have hw : W0.cell? ⟨w.heap.size, 0, none⟩ = some (.slice A ws.length c) := by rw [← hW0]; simp [go_sem]
  have hfn : W0.cell? ⟨w.heap.size + 1 + 1 + 1, 0, none⟩ = some (.func (.func 61) #[] #[.pointer (some ⟨w.heap.size, 0, none⟩)]) := by rw [← hW0]; simp [go_sem]
  have hB0 : Below w.heap.size w W0 := by rw [← hW0]; repeat (first | exact B_refl | exact Below.refl _ _ | assumption | with_reducible refine B_alloc ?_ _ | with_reducible refine B_ext ?_ _ | with_reducible refine B_drew ?_ | with_reducible refine B_drewN ?_ _ | with_reducible refine B_set ?_ (by simp; omega) _)
  clear hW0
  apply wp_region_block (B := w.heap.size + 1 + 1) (t := 23) (cs := #[.int .i64 (numP (bs (wordAt ws 1))), .int .i64 0, .string ⟨#[]⟩, .int .i64 0, .string ⟨#[]⟩, .int .i64 0, .bool false]) (st := [9, 11, 13, 15])
    (l := [(2, .string (wordAt ws 2)), (3, .int .i64 (numP (bs (wordAt ws 3)))), (4, .string (wordAt ws 4)), (5, .int .i64 (numP (bs (wordAt ws 5))))])
    (us := [.func (.func 61) #[] #[.pointer (some ⟨w.heap.size, 0, none⟩)], .string (wordAt ws 2), .func (.func 62) #[] #[.pointer (some ⟨w.heap.size + 1 + 1 + 1, 0, none⟩)], .int .i64 (numP (bs (wordAt ws 3))), .func (.func 61) #[] #[.pointer (some ⟨w.heap.size, 0, none⟩)], .string (wordAt ws 4),
      .func (.func 62) #[] #[.pointer (some ⟨w.heap.size + 1 + 1 + 1, 0, none⟩)], .int .i64 (numP (bs (wordAt ws 5))), .pointer (some ⟨w.heap.size + 1 + 1, 2, none⟩), undef, .pointer (some ⟨w.heap.size + 1 + 1, 3, none⟩), undef, .pointer (some ⟨w.heap.size + 1 + 1, 4, none⟩), undef, .pointer (some ⟨w.heap.size + 1 + 1, 5, none⟩), undef])
  case hA => simp [fillTo, Act.put]; rfl
  case hm => kernel_rfl
  case hd => kernel_rfl
  case hf => kernel_rfl
  case hsel => kernel_rfl
  case hst => kernel_rfl
  case hin => kernel_rfl
  case hlen => rfl
  case hb => exact hx
  case hstep =>
    simp only [stepsW, posOf, reduceIte, Nat.reduceEqDiff, Option.map_some, Option.map_none, List.getD_cons_zero, List.getD_cons_succ, and_true, Nat.zero_add, Nat.reduceAdd]
    refine ⟨?_, ?_, ?_, ?_, ?_, ?_, ?_, ?_, ?_, ?_, ?_, ?_, ?_, ?_, ?_, ?_⟩
    · intro k W h
      have k1 := cell_other h.1 hfn (by omega)
      unfold getsV
      go_simp
      first | exact stays _ | exact ⟨rfl, stays _⟩
    · intro k W h
      unfold getsV
      go_simp
      refine (word_any ws A c 2 w.heap.size W (hS.keep (grown_below hB0 h.1 (by omega))) hl (by decide) (cell_other h.1 hw (by omega))).mono ?_
      rintro e wq ⟨rfl, z, rfl⟩
      exact ⟨_, rfl, rfl, z, rfl⟩
    · intro k W h
      have k1 := cell_other h.1 hfn (by omega)
      unfold getsV
      go_simp
      first | exact stays _ | exact ⟨rfl, stays _⟩
    · intro k W h
      unfold getsV
      go_simp
      refine (numeral_any ws A c 3 w.heap.size (w.heap.size + 1 + 1 + 1) W (hL.keep (grown_below hB0 h.1 (by omega))) (hS.keep (grown_below hB0 h.1 (by omega))) hl hsz (by decide) (cell_other h.1 hw (by omega)) (cell_other h.1 hfn (by omega))).mono ?_
      rintro e wq ⟨rfl, z, rfl⟩
      exact ⟨_, rfl, rfl, z, rfl⟩
    · intro k W h
      have k1 := cell_other h.1 hfn (by omega)
      unfold getsV
      go_simp
      first | exact stays _ | exact ⟨rfl, stays _⟩
    · intro k W h
      unfold getsV
      go_simp
      refine (word_any ws A c 4 w.heap.size W (hS.keep (grown_below hB0 h.1 (by omega))) hl (by decide) (cell_other h.1 hw (by omega))).mono ?_
      rintro e wq ⟨rfl, z, rfl⟩
      exact ⟨_, rfl, rfl, z, rfl⟩
    · intro k W h
      have k1 := cell_other h.1 hfn (by omega)
      unfold getsV
      go_simp
      first | exact stays _ | exact ⟨rfl, stays _⟩
    · intro k W h
      unfold getsV
      go_simp
      refine (numeral_any ws A c 5 w.heap.size (w.heap.size + 1 + 1 + 1) W (hL.keep (grown_below hB0 h.1 (by omega))) (hS.keep (grown_below hB0 h.1 (by omega))) hl hsz (by decide) (cell_other h.1 hw (by omega)) (cell_other h.1 hfn (by omega))).mono ?_
      rintro e wq ⟨rfl, z, rfl⟩
      exact ⟨_, rfl, rfl, z, rfl⟩
    · intro k W h
      have k1 := cell_other h.1 hfn (by omega)
      unfold getsV
      go_simp
      first | exact stays _ | exact ⟨rfl, stays _⟩
    · intro W h
      have k1 := block_cell (j := 2) h.2 rfl
      have k2 := frozen_of_row W _ 2 _ _ h.2
      unfold getsV
      go_simp
      first | exact h.store rfl | exact ⟨rfl, h.store rfl⟩
    · intro k W h
      have k1 := cell_other h.1 hfn (by omega)
      unfold getsV
      go_simp
      first | exact stays _ | exact ⟨rfl, stays _⟩
    · intro W h
      have k1 := block_cell (j := 3) h.2 rfl
      have k2 := frozen_of_row W _ 3 _ _ h.2
      unfold getsV
      go_simp
      first | exact h.store rfl | exact ⟨rfl, h.store rfl⟩
    · intro k W h
      have k1 := cell_other h.1 hfn (by omega)
      unfold getsV
      go_simp
      first | exact stays _ | exact ⟨rfl, stays _⟩
    · intro W h
      have k1 := block_cell (j := 4) h.2 rfl
      have k2 := frozen_of_row W _ 4 _ _ h.2
      unfold getsV
      go_simp
      first | exact h.store rfl | exact ⟨rfl, h.store rfl⟩
    · intro k W h
      have k1 := cell_other h.1 hfn (by omega)
      unfold getsV
      go_simp
      first | exact stays _ | exact ⟨rfl, stays _⟩
    · intro W h
      have k1 := block_cell (j := 5) h.2 rfl
      have k2 := frozen_of_row W _ 5 _ _ h.2
      unfold getsV
      go_simp
      first | exact h.store rfl | exact ⟨rfl, h.store rfl⟩
  case hend =>
    intro W hG hb
    have f0 := block_cell (j := 0) (u := .int .i64 (numP (bs (wordAt ws 1)))) hb rfl
    have f1 := block_cell (j := 1) (u := .int .i64 0) hb rfl
    have f2 := block_cell (j := 2) (u := .string (wordAt ws 2)) hb rfl
    have f3 := block_cell (j := 3) (u := .int .i64 (numP (bs (wordAt ws 3)))) hb rfl
    have f4 := block_cell (j := 4) (u := .string (wordAt ws 4)) hb rfl
    have f5 := block_cell (j := 5) (u := .int .i64 (numP (bs (wordAt ws 5)))) hb rfl
    have f6 := block_cell (j := 6) (u := .bool false) hb rfl
    have hr2 : W.heap[w.heap.size + 1]? = _ := (hG.block _ (blk_lt hr) (by simp)).trans hr
    have g0 := block_cell (j := 0) (u := .int .i64 0) hr2 rfl
    have g1 := block_cell (j := 1) (u := .int .i64 0) hr2 rfl
    have g2 := block_cell (j := 2) (u := .string ⟨#[]⟩) hr2 rfl
    have g3 := block_cell (j := 3) (u := .int .i64 0) hr2 rfl
    have g4 := block_cell (j := 4) (u := .string ⟨#[]⟩) hr2 rfl
    have g5 := block_cell (j := 5) (u := .int .i64 0) hr2 rfl
    have g6 := block_cell (j := 6) (u := .bool false) hr2 rfl
    have gz : ∀ j, W.frozen? ⟨w.heap.size + 1, j, none⟩ = false := fun j => frozen_of_row W _ j _ _ hr2
    have hB1 : Below w.heap.size w W := grown_below hB0 hG (by omega)
    have hz := blk_lt hr2
    clear hG hb hr hr2 hx hfn hw
    go_wp2_with fail
    refine bodyPost_ret (v := .agg #[.int .i64 (numP (bs (wordAt ws 1))), .int .i64 0, .string (wordAt ws 2), .int .i64 (numP (bs (wordAt ws 3))), .string (wordAt ws 4), .int .i64 (numP (bs (wordAt ws 5))), .bool false]) ?_ rfl (Ret.of rfl ?_)
    · rw [results_cell1 rfl]
      go_simp
    · repeat (first | with_reducible exact hB1 | with_reducible refine B_set ?_ (by first | (simp; done) | (simp; omega)) _)
set_option maxRecDepth 100000 in
set_option maxHeartbeats 2000000 in
theorem fields_rebury (ws : List ByteArray) (A : Option Addr) (c : Nat) (w : World) (hL : Laid w) (hS : Sl w 1 strCells A ws) (hl : ws.length ≤ 100001) (hsz : ∀ x ∈ ws, x.size ≤ 1000) :
    Calls Tryz.prog 31 #[.int .i64 2, .slice A ws.length c] w (Ret w (.agg #[.int .i64 (numP (bs (wordAt ws 1))), .int .i64 2, .string (wordAt ws 2), .int .i64 (numP (bs (wordAt ws 3))), .string (wordAt ws 4), .int .i64 (numP (bs (wordAt ws 5))), .bool false])) := by
  go_enter Tryz.func31, Tryz.ntmps31
  go_wp2_with (first
    | (go_at_call 62; refine (numeral_any ws A c 1 w.heap.size (w.heap.size + 1 + 1 + 1) _ (hL.keep (n := w.heap.size) (by repeat (first | exact B_refl | exact Below.refl _ _ | assumption | with_reducible refine B_alloc ?_ _ | with_reducible refine B_ext ?_ _ | with_reducible refine B_drew ?_ | with_reducible refine B_drewN ?_ _ | with_reducible refine B_set ?_ (by simp; omega) _))) (hS.keep (n := w.heap.size) (by repeat (first | exact B_refl | exact Below.refl _ _ | assumption | with_reducible refine B_alloc ?_ _ | with_reducible refine B_ext ?_ _ | with_reducible refine B_drew ?_ | with_reducible refine B_drewN ?_ _ | with_reducible refine B_set ?_ (by simp; omega) _))) hl hsz (by decide) (by simp [go_sem]) (by simp [go_sem])).mono ?_; rintro e wq ⟨rfl, z1, rfl⟩))
  generalize hW0 : World.ext (World.alloc (World.alloc (World.alloc (w.alloc _) _) _) _) z1 = W0
  have hx : W0.heap[w.heap.size + 1 + 1]? = some (.cells #[.int .i64 (numP (bs (wordAt ws 1))), .int .i64 2, .string ⟨#[]⟩, .int .i64 0, .string ⟨#[]⟩, .int .i64 0, .bool false] 23 (0, 0)) := by rw [← hW0]; (repeat (first | with_reducible exact G_new _ _ _ (by simp) | with_reducible exact G_new _ _ _ (by simp [ext_size]) | with_reducible refine G_drew ?_ | with_reducible refine G_ext ?_ | with_reducible refine G_alloc ?_))
  have hr : W0.heap[w.heap.size + 1]? = some (.cells #[.int .i64 0, .int .i64 0, .string ⟨#[]⟩, .int .i64 0, .string ⟨#[]⟩, .int .i64 0, .bool false] 23 (0, 0)) := by rw [← hW0]; (repeat (first | with_reducible exact G_new _ _ _ (by simp) | with_reducible exact G_new _ _ _ (by simp [ext_size]) | with_reducible refine G_drew ?_ | with_reducible refine G_ext ?_ | with_reducible refine G_alloc ?_))
  have hw : W0.cell? ⟨w.heap.size, 0, none⟩ = some (.slice A ws.length c) := by rw [← hW0]; simp [go_sem]
  have hfn : W0.cell? ⟨w.heap.size + 1 + 1 + 1, 0, none⟩ = some (.func (.func 61) #[] #[.pointer (some ⟨w.heap.size, 0, none⟩)]) := by rw [← hW0]; simp [go_sem]
  have hB0 : Below w.heap.size w W0 := by rw [← hW0]; repeat (first | exact B_refl | exact Below.refl _ _ | assumption | with_reducible refine B_alloc ?_ _ | with_reducible refine B_ext ?_ _ | with_reducible refine B_drew ?_ | with_reducible refine B_drewN ?_ _ | with_reducible refine B_set ?_ (by simp; omega) _)
  clear hW0
  apply wp_region_block (B := w.heap.size + 1 + 1) (t := 23) (cs := #[.int .i64 (numP (bs (wordAt ws 1))), .int .i64 2, .string ⟨#[]⟩, .int .i64 0, .string ⟨#[]⟩, .int .i64 0, .bool false]) (st := [9, 11, 13, 15])
    (l := [(2, .string (wordAt ws 2)), (3, .int .i64 (numP (bs (wordAt ws 3)))), (4, .string (wordAt ws 4)), (5, .int .i64 (numP (bs (wordAt ws 5))))])
    (us := [.func (.func 61) #[] #[.pointer (some ⟨w.heap.size, 0, none⟩)], .string (wordAt ws 2), .func (.func 62) #[] #[.pointer (some ⟨w.heap.size + 1 + 1 + 1, 0, none⟩)], .int .i64 (numP (bs (wordAt ws 3))), .func (.func 61) #[] #[.pointer (some ⟨w.heap.size, 0, none⟩)], .string (wordAt ws 4),
      .func (.func 62) #[] #[.pointer (some ⟨w.heap.size + 1 + 1 + 1, 0, none⟩)], .int .i64 (numP (bs (wordAt ws 5))), .pointer (some ⟨w.heap.size + 1 + 1, 2, none⟩), undef, .pointer (some ⟨w.heap.size + 1 + 1, 3, none⟩), undef, .pointer (some ⟨w.heap.size + 1 + 1, 4, none⟩), undef, .pointer (some ⟨w.heap.size + 1 + 1, 5, none⟩), undef])
  case hA => simp [fillTo, Act.put]; rfl
  case hm => kernel_rfl
  case hd => kernel_rfl
  case hf => kernel_rfl
  case hsel => kernel_rfl
  case hst => kernel_rfl
  case hin => kernel_rfl
  case hlen => rfl
  case hb => exact hx
  case hstep =>
    simp only [stepsW, posOf, reduceIte, Nat.reduceEqDiff, Option.map_some, Option.map_none, List.getD_cons_zero, List.getD_cons_succ, and_true, Nat.zero_add, Nat.reduceAdd]
    refine ⟨?_, ?_, ?_, ?_, ?_, ?_, ?_, ?_, ?_, ?_, ?_, ?_, ?_, ?_, ?_, ?_⟩
    · intro k W h
      have k1 := cell_other h.1 hfn (by omega)
      unfold getsV
      go_simp
      first | exact stays _ | exact ⟨rfl, stays _⟩
    · intro k W h
      unfold getsV
      go_simp
      refine (word_any ws A c 2 w.heap.size W (hS.keep (grown_below hB0 h.1 (by omega))) hl (by decide) (cell_other h.1 hw (by omega))).mono ?_
      rintro e wq ⟨rfl, z, rfl⟩
      exact ⟨_, rfl, rfl, z, rfl⟩
    · intro k W h
      have k1 := cell_other h.1 hfn (by omega)
      unfold getsV
      go_simp
      first | exact stays _ | exact ⟨rfl, stays _⟩
    · intro k W h
      unfold getsV
      go_simp
      refine (numeral_any ws A c 3 w.heap.size (w.heap.size + 1 + 1 + 1) W (hL.keep (grown_below hB0 h.1 (by omega))) (hS.keep (grown_below hB0 h.1 (by omega))) hl hsz (by decide) (cell_other h.1 hw (by omega)) (cell_other h.1 hfn (by omega))).mono ?_
      rintro e wq ⟨rfl, z, rfl⟩
      exact ⟨_, rfl, rfl, z, rfl⟩
    · intro k W h
      have k1 := cell_other h.1 hfn (by omega)
      unfold getsV
      go_simp
      first | exact stays _ | exact ⟨rfl, stays _⟩
    · intro k W h
      unfold getsV
      go_simp
      refine (word_any ws A c 4 w.heap.size W (hS.keep (grown_below hB0 h.1 (by omega))) hl (by decide) (cell_other h.1 hw (by omega))).mono ?_
      rintro e wq ⟨rfl, z, rfl⟩
      exact ⟨_, rfl, rfl, z, rfl⟩
    · intro k W h
      have k1 := cell_other h.1 hfn (by omega)
      unfold getsV
      go_simp
      first | exact stays _ | exact ⟨rfl, stays _⟩
    · intro k W h
      unfold getsV
      go_simp
      refine (numeral_any ws A c 5 w.heap.size (w.heap.size + 1 + 1 + 1) W (hL.keep (grown_below hB0 h.1 (by omega))) (hS.keep (grown_below hB0 h.1 (by omega))) hl hsz (by decide) (cell_other h.1 hw (by omega)) (cell_other h.1 hfn (by omega))).mono ?_
      rintro e wq ⟨rfl, z, rfl⟩
      exact ⟨_, rfl, rfl, z, rfl⟩
    · intro k W h
      have k1 := cell_other h.1 hfn (by omega)
      unfold getsV
      go_simp
      first | exact stays _ | exact ⟨rfl, stays _⟩
    · intro W h
      have k1 := block_cell (j := 2) h.2 rfl
      have k2 := frozen_of_row W _ 2 _ _ h.2
      unfold getsV
      go_simp
      first | exact h.store rfl | exact ⟨rfl, h.store rfl⟩
    · intro k W h
      have k1 := cell_other h.1 hfn (by omega)
      unfold getsV
      go_simp
      first | exact stays _ | exact ⟨rfl, stays _⟩
    · intro W h
      have k1 := block_cell (j := 3) h.2 rfl
      have k2 := frozen_of_row W _ 3 _ _ h.2
      unfold getsV
      go_simp
      first | exact h.store rfl | exact ⟨rfl, h.store rfl⟩
    · intro k W h
      have k1 := cell_other h.1 hfn (by omega)
      unfold getsV
      go_simp
      first | exact stays _ | exact ⟨rfl, stays _⟩
    · intro W h
      have k1 := block_cell (j := 4) h.2 rfl
      have k2 := frozen_of_row W _ 4 _ _ h.2
      unfold getsV
      go_simp
      first | exact h.store rfl | exact ⟨rfl, h.store rfl⟩
    · intro k W h
      have k1 := cell_other h.1 hfn (by omega)
      unfold getsV
      go_simp
      first | exact stays _ | exact ⟨rfl, stays _⟩
    · intro W h
      have k1 := block_cell (j := 5) h.2 rfl
      have k2 := frozen_of_row W _ 5 _ _ h.2
      unfold getsV
      go_simp
      first | exact h.store rfl | exact ⟨rfl, h.store rfl⟩
  case hend =>
    intro W hG hb
    have f0 := block_cell (j := 0) (u := .int .i64 (numP (bs (wordAt ws 1)))) hb rfl
    have f1 := block_cell (j := 1) (u := .int .i64 2) hb rfl
    have f2 := block_cell (j := 2) (u := .string (wordAt ws 2)) hb rfl
    have f3 := block_cell (j := 3) (u := .int .i64 (numP (bs (wordAt ws 3)))) hb rfl
    have f4 := block_cell (j := 4) (u := .string (wordAt ws 4)) hb rfl
    have f5 := block_cell (j := 5) (u := .int .i64 (numP (bs (wordAt ws 5)))) hb rfl
    have f6 := block_cell (j := 6) (u := .bool false) hb rfl
    have hr2 : W.heap[w.heap.size + 1]? = _ := (hG.block _ (blk_lt hr) (by simp)).trans hr
    have g0 := block_cell (j := 0) (u := .int .i64 0) hr2 rfl
    have g1 := block_cell (j := 1) (u := .int .i64 0) hr2 rfl
    have g2 := block_cell (j := 2) (u := .string ⟨#[]⟩) hr2 rfl
    have g3 := block_cell (j := 3) (u := .int .i64 0) hr2 rfl
    have g4 := block_cell (j := 4) (u := .string ⟨#[]⟩) hr2 rfl
    have g5 := block_cell (j := 5) (u := .int .i64 0) hr2 rfl
    have g6 := block_cell (j := 6) (u := .bool false) hr2 rfl
    have gz : ∀ j, W.frozen? ⟨w.heap.size + 1, j, none⟩ = false := fun j => frozen_of_row W _ j _ _ hr2
    have hB1 : Below w.heap.size w W := grown_below hB0 hG (by omega)
    have hz := blk_lt hr2
    clear hG hb hr hr2 hx hfn hw
    go_wp2_with fail
    refine bodyPost_ret (v := .agg #[.int .i64 (numP (bs (wordAt ws 1))), .int .i64 2, .string (wordAt ws 2), .int .i64 (numP (bs (wordAt ws 3))), .string (wordAt ws 4), .int .i64 (numP (bs (wordAt ws 5))), .bool false]) ?_ rfl (Ret.of rfl ?_)
    · rw [results_cell1 rfl]
      go_simp
    · repeat (first | with_reducible exact hB1 | with_reducible refine B_set ?_ (by first | (simp; done) | (simp; omega)) _)
end Go.Proofs.YtpohkolapgofdaaGreatDoor
namespace Go.Proofs.YtpohkolapgofdaaGreatDoor
open Go.RowKit
attribute [local go_sem] World.cell?_alloc_mark ext_size ext_cell ext_frozen lt_add_r lt_add_r2 lt_add_r3 lt_add_r4 lt_add_r5 lt_add_r6 lt_add_r7 lt_add_r8
attribute [local go_sem] ext_setCell alloc_setCell_lt

def evV (e : Event) : Value := .agg #[.int .i64 e.day, .int .i64 e.kind, .string e.site, .int .i64 e.level, .string e.remain, .int .i64 e.container, .bool e.order]
def zeroE : Event := ⟨0, 0, ⟨#[]⟩, 0, ⟨#[]⟩, 0, false⟩
/-- What ParseEvent hands back. -/
def parseV : Option Event → Value
  | some e => .tuple #[evV e, .int .i64 0]
  | none => .tuple #[evV zeroE, .int .i64 7]
theorem cut_len : ∀ l : Bs, (cutB l).length = l.count 32 + 1
  | [] => rfl
  | b :: l => by
    have ih := cut_len l
    unfold cutB
    by_cases h : b = 32
    · subst h; simp [ih]
    · rw [if_neg (by simpa using h), List.count_cons_of_ne (by simpa using h)]
      split <;> simp_all
theorem cut_word : ∀ l : Bs, ∀ y ∈ cutB l, y.length ≤ l.length
  | [], y, h => by simp [cutB] at h; simp [h]
  | b :: l, y, h => by
    have ih := cut_word l
    unfold cutB at h
    split at h
    · rcases List.mem_cons.1 h with rfl | h
      · simp
      · have := ih y h; simp; omega
    · split at h
      · simp at h; simp [h]
      · rename_i x r hx
        rcases List.mem_cons.1 h with rfl | h
        · have := ih x (by rw [hx]; simp); simpa using this
        · have := ih y (by rw [hx]; simp [h]); simp; omega
theorem cutS_bs (s : ByteArray) : (cutS s).map bs = cutB (bs s) := by
  unfold cutS
  rw [List.map_map]
  have : bs ∘ toB = id := by funext x; exact bs_toB x
  rw [this, List.map_id]
theorem cutS_len (s : ByteArray) : (cutS s).length = Lib.countB s ⟨#[32]⟩ + 1 := by
  have h1 : Lib.countB s ⟨#[32]⟩ = (bs s).count 32 := Lib.count_one 32 (bs s)
  unfold cutS
  rw [List.length_map, cut_len, h1]
theorem count_le (s : ByteArray) : Lib.countB s ⟨#[32]⟩ ≤ s.size := by
  have h1 : Lib.countB s ⟨#[32]⟩ = (bs s).count 32 := Lib.count_one 32 (bs s)
  rw [h1, ← bs_len s]
  exact List.count_le_length
theorem cutS_size (s : ByteArray) : ∀ x ∈ cutS s, x.size ≤ s.size := by
  intro x hx
  unfold cutS at hx
  obtain ⟨y, hy, rfl⟩ := List.mem_map.1 hx
  have := cut_word _ y hy
  rw [bs_len] at this
  rw [← bs_len, bs_toB]
  exact this
theorem order_eq (x : ByteArray) : (bs x == orderB) = (x.toList == (toB orderB).toList) := by
  rw [ByteArray.toList_eq, ByteArray.toList_eq]
  rfl
theorem fields_any (kd : Int) (hk : 0 ≤ kd ∧ kd ≤ 4) (ws : List ByteArray) (A : Option Addr) (c : Nat) (w : World) (hL : Laid w) (hS : Sl w 1 strCells A ws) (hl : ws.length ≤ 100001) (hsz : ∀ x ∈ ws, x.size ≤ 1000) :
    Calls Tryz.prog 31 #[.int .i64 kd, .slice A ws.length c] w (Ret w (evV (fieldsP kd (ws.map bs)))) := by
  have hkk : kd = 0 ∨ kd = 1 ∨ kd = 2 ∨ kd = 3 ∨ kd = 4 := by omega
  unfold fieldsP evV
  simp only [← wordAt_bs, bs_back, order_eq]
  rcases hkk with rfl | rfl | rfl | rfl | rfl
  · rw [if_pos (by decide)]; exact fields_bury ws A c w hL hS hl hsz
  · rw [if_neg (by decide), if_neg (by decide)]; exact fields_plain 1 ws A c w hL hS hl hsz (by decide) (by decide) (by decide)
  · rw [if_pos (by decide)]; exact fields_rebury ws A c w hL hS hl hsz
  · rw [if_neg (by decide), if_pos (by decide)]; exact fields_lower ws A c w hL hS hl hsz
  · rw [if_neg (by decide), if_neg (by decide)]; exact fields_plain 4 ws A c w hL hS hl hsz (by decide) (by decide) (by decide)
theorem results_event {fn : Func} {p u : Tmp} (h : fn.results = #[.cell p 23, .tmp u]) (tmps : Array Value) (w : World) (B : Nat) (e : Event) (x : Value) (hp : tmps.getD p undef = .pointer (some ⟨B, 0, none⟩)) (hx : tmps.getD u undef = x)
    (h0 : w.cell? ⟨B, 0, none⟩ = some (.int .i64 e.day)) (h1 : w.cell? ⟨B, 1, none⟩ = some (.int .i64 e.kind)) (h2 : w.cell? ⟨B, 2, none⟩ = some (.string e.site)) (h3 : w.cell? ⟨B, 3, none⟩ = some (.int .i64 e.level))
    (h4 : w.cell? ⟨B, 4, none⟩ = some (.string e.remain)) (h5 : w.cell? ⟨B, 5, none⟩ = some (.int .i64 e.container)) (h6 : w.cell? ⟨B, 6, none⟩ = some (.bool e.order)) : (results fn tmps).run Tryz.prog w = .ok (.tuple #[evV e, x]) w := by
  rw [results_cell_tmp h, hp, hx]
  unfold evV
  go_simp
theorem wordAt_size {ws : List ByteArray} {n : Nat} (h : ∀ x ∈ ws, x.size ≤ n) (k : Nat) : (wordAt ws k).size ≤ n := by
  unfold wordAt
  rw [List.getD_eq_getElem?_getD]
  cases hq : ws[k]? with
  | none => exact Nat.zero_le _
  | some x => exact h x (List.mem_of_getElem? hq)
theorem fields_size (kd : Int) (ws : List ByteArray) (h : ∀ x ∈ ws, x.size ≤ 1000) : (fieldsP kd (ws.map bs)).site.size ≤ 1000 ∧ (fieldsP kd (ws.map bs)).remain.size ≤ 1000 := by
  unfold fieldsP
  simp only [← wordAt_bs, bs_back]
  split
  · exact ⟨wordAt_size h 2, wordAt_size h 4⟩
  · split
    · exact ⟨Nat.zero_le _, wordAt_size h 3⟩
    · exact ⟨Nat.zero_le _, wordAt_size h 2⟩
theorem toB_list {l : Bs} {s : ByteArray} {b : Bool} (h : b = !((toB l).toList == s.toList)) : (l == bs s) = !b := by
  rw [h, Bool.not_not, ByteArray.toList_eq, ByteArray.toList_eq]
  rfl
theorem kind_range (x : Bs) : kindOf x < 0 ∨ (0 ≤ kindOf x ∧ kindOf x ≤ 4) := by
  unfold kindOf kindsB
  simp only [kindGo]
  repeat' split
  all_goals omega
theorem kind_index (x : ByteArray) : Lib.idxOfS kindsS x = kindOf (bs x) := kind_idx x kindsB 0
set_option maxRecDepth 100000 in
set_option maxHeartbeats 2000000 in
theorem pParse_any (s : ByteArray) (w : World) (hL : Laid w) (hs : s.size ≤ 1000) : Calls Tryz.prog 6 #[.string s] w (Ret w (parseV (parseP (bs s)))) := by
  obtain ⟨m, hm⟩ := hL.len
  have hcl := cutS_len s
  have hct := count_le s
  have hsz : ∀ x ∈ cutS s, x.size ≤ 1000 := fun x hx => Nat.le_trans (cutS_size s x hx) hs
  have hsp := split_cut s
  have hP : parseP (bs s) = if kindOf (bs (wordAt (cutS s) 0)) < 0 then none else if goodB (bs s) (fieldsP (kindOf (bs (wordAt (cutS s) 0))) ((cutS s).map bs)) then some (fieldsP (kindOf (bs (wordAt (cutS s) 0))) ((cutS s).map bs)) else none := by
    unfold parseP
    rw [wordAt_bs, cutS_bs]
  have hkr := kind_range (bs (wordAt (cutS s) 0))
  have hki := kind_index (wordAt (cutS s) 0)
  have h0 : (cutS s)[0]? = some (wordAt (cutS s) 0) := by
    unfold wordAt
    rw [List.getD_eq_getElem?_getD, List.getElem?_eq_getElem (by omega)]
    rfl
  generalize cutS s = ws at *
  generalize wordAt ws 0 = w0 at *
  have HP := Lib.hid hP
  have HCL := Lib.hid hcl
  have HSP := Lib.hid hsp
  have HSZ := Lib.hid hsz
  have HKI := Lib.hid hki
  clear hP hcl hsp hsz hki
  generalize kindOf (bs w0) = kd at *
  have hm2 : ∀ o, (w.alloc o).cell? ⟨0, 0, none⟩ = some (.int .i64 m) := fun o => ((B_alloc (Below.refl _ _) o (Nat.le_refl _)).cell (p := ⟨0, 0, none⟩) (cell_some hm)).trans hm
  go_enter Tryz.func6, Tryz.ntmps6
  go_wp2_with (go_at_call 28; refine (Tryz.strings_Split s ⟨#[32]⟩ m _ (by omega) (hm2 _) (by decide)).mono ?_; rintro e wq ⟨rfl, rfl⟩; rw [HSP.out, ← HCL.out])
  have hw0 : (some w0 : Option ByteArray) = some w0 := rfl
  have hlen : 1 ≤ ws.length := by rw [HCL.out]; omega
  have hl1 : 0 < ws.length := by omega
  have hblk : ∀ z, ((((w.alloc (.cells #[.int .i64 0, .int .i64 0, .string ⟨#[]⟩, .int .i64 0, .string ⟨#[]⟩, .int .i64 0, .bool false] 23)).alloc (.cells (ws.map Value.string).toArray 9)).drew).ext z).cell? ⟨w.heap.size + 1, 0, none⟩ = some (.string w0) := fun z => by
    have hb : ((((w.alloc (.cells #[.int .i64 0, .int .i64 0, .string ⟨#[]⟩, .int .i64 0, .string ⟨#[]⟩, .int .i64 0, .bool false] 23)).alloc (.cells (ws.map Value.string).toArray 9)).drew).ext z).heap[w.heap.size + 1]? = some (.cells (ws.map Value.string).toArray 9 (0, 0)) := by (repeat (first | with_reducible exact G_new _ _ _ (by simp) | with_reducible exact G_new _ _ _ (by simp [ext_size]) | with_reducible refine G_drew ?_ | with_reducible refine G_ext ?_ | with_reducible refine G_alloc ?_))
    simp [World.cell?, hb, h0]
  apply wp_region_inv (V := holdsL [isBlk (w.heap.size + 1) 5 (kindsS.map Value.string).toArray 9, isV (.slice (some ⟨w.heap.size + 1, 0, none⟩) ws.length ws.length), isV (.pointer (some ⟨w.heap.size + 1, 0, none⟩)), isV (.string w0), isV (.int .i64 kd), isV (.int .i64 kd)])
  case hm => kernel_rfl
  case hd => kernel_rfl
  case hf => kernel_rfl
  case hsel => kernel_rfl
  case hmono => exact holdsL_mono (by simp [mono_V, mono_blk, mono_ptr])
  case hA =>
    intro f
    simp [fillTo, Act.put]
    rfl
  case hstep =>
    simp only [stepsFrom, and_true]
    refine ⟨?_, ?_, ?_, ?_, ?_, ?_⟩
    · intro f z h
      unfold getsV
      go_simp
      refine (words_any _).mono ?_
      rintro e wq ⟨q, rfl, hqb, hq, z2, rfl⟩
      exact ⟨_, rfl, ⟨q, rfl, by simp [ext_size] at hqb; omega, hq⟩, _, rfl⟩
    · intro f z h
      first
        | (clear h; unfold getsV; go_simp; exact ⟨rfl, stays _⟩)
        | (simp [Region.binds, holdsL, isV] at h; unfold getsV; go_simp; exact ⟨rfl, stays _⟩)
    · intro f z h
      have h1 : f 1 = .slice (some ⟨w.heap.size + 1, 0, none⟩) ws.length ws.length := h ⟨1, .data⟩ (by simp) rfl
      clear h
      unfold getsV
      go_simp
      exact ⟨rfl, stays _⟩
    · intro f z h
      have h2 : f 2 = .pointer (some ⟨w.heap.size + 1, 0, none⟩) := h ⟨2, .data⟩ (by simp) rfl
      clear h
      unfold getsV
      go_simp
      exact ⟨rfl, stays _⟩
    · intro f z h
      obtain ⟨g, hf, hb, hg⟩ := h ⟨0, .data⟩ (by simp) rfl
      have h3 : f 3 = .string w0 := h ⟨3, .data⟩ (by simp) rfl
      clear h
      unfold getsV
      go_simp
      refine (Tryz.slices_Index_string g 0 5 5 kindsS w0 _ (by decide) (by decide) ?_).mono ?_
      · intro j hj
        have hj5 : j < 5 := hj
        simp only [World.cell?, hg]
        rw [Nat.zero_add, List.getElem?_toArray, List.getElem?_map, List.getD_eq_getElem?_getD, List.getElem?_eq_getElem hj]
        rfl
      · rintro e wq ⟨rfl, rfl⟩
        rw [show kindsS.take 5 = kindsS from rfl, HKI.out]
        exact ⟨_, rfl, rfl, stays _⟩
    · intro f z h
      have h4 : f 4 = .int .i64 kd := h ⟨4, .data⟩ (by simp) rfl
      clear h
      unfold getsV
      go_simp
      exact ⟨rfl, stays _⟩
  case hend =>
    intro f z h
    have h5 : f 5 = .int .i64 kd := h 5 (by decide)
    clear h
    rw [h5]
    clear h5
    generalize hW0 : World.ext (World.drew (World.alloc (w.alloc _) _)) z = W0 at *
    have hr : W0.heap[w.heap.size]? = some (.cells #[.int .i64 0, .int .i64 0, .string ⟨#[]⟩, .int .i64 0, .string ⟨#[]⟩, .int .i64 0, .bool false] 23 (0, 0)) := by rw [← hW0]; (repeat (first | with_reducible exact G_new _ _ _ (by simp) | with_reducible exact G_new _ _ _ (by simp [ext_size]) | with_reducible refine G_drew ?_ | with_reducible refine G_ext ?_ | with_reducible refine G_alloc ?_))
    have hb : W0.heap[w.heap.size + 1]? = some (.cells (ws.map Value.string).toArray 9 (0, 0)) := by rw [← hW0]; (repeat (first | with_reducible exact G_new _ _ _ (by simp) | with_reducible exact G_new _ _ _ (by simp [ext_size]) | with_reducible refine G_drew ?_ | with_reducible refine G_ext ?_ | with_reducible refine G_alloc ?_))
    have hB0 : Below w.heap.size w W0 := by rw [← hW0]; repeat (first | exact B_refl | exact Below.refl _ _ | assumption | with_reducible refine B_alloc ?_ _ | with_reducible refine B_ext ?_ _ | with_reducible refine B_drew ?_ | with_reducible refine B_drewN ?_ _ | with_reducible refine B_set ?_ (by simp; omega) _)
    have hS : Sl W0 1 strCells (some ⟨w.heap.size + 1, 0, none⟩) ws := sl_block str_len hb (by
      rw [← List.flatMap_singleton' (ws.map Value.string), List.flatMap_map]
      rfl)
    have hL0 : Laid W0 := hL.keep hB0
    have hz := blk_lt hr
    have g0 : W0.cell? ⟨w.heap.size, 0, none⟩ = some (.int .i64 0) := block_cell hr rfl
    have g1 : W0.cell? ⟨w.heap.size, 1, none⟩ = some (.int .i64 0) := block_cell hr rfl
    have g2 : W0.cell? ⟨w.heap.size, 2, none⟩ = some (.string ⟨#[]⟩) := block_cell hr rfl
    have g3 : W0.cell? ⟨w.heap.size, 3, none⟩ = some (.int .i64 0) := block_cell hr rfl
    have g4 : W0.cell? ⟨w.heap.size, 4, none⟩ = some (.string ⟨#[]⟩) := block_cell hr rfl
    have g5 : W0.cell? ⟨w.heap.size, 5, none⟩ = some (.int .i64 0) := block_cell hr rfl
    have g6 : W0.cell? ⟨w.heap.size, 6, none⟩ = some (.bool false) := block_cell hr rfl
    have gz : ∀ j, W0.frozen? ⟨w.heap.size, j, none⟩ = false := fun j => frozen_of_row W0 _ j _ _ hr
    clear hW0 hblk hb hr hm2 hm
    rcases hkr with hk | hk
    · rw [HP.out, if_pos hk]
      go_wp2_with fail
      refine bodyPost_ret (v := parseV none) (results_event rfl _ _ w.heap.size zeroE _ rfl rfl (by simp only [zeroE]; go_simp) (by simp only [zeroE]; go_simp) (by simp only [zeroE]; go_simp) (by simp only [zeroE]; go_simp) (by simp only [zeroE]; go_simp) (by simp only [zeroE]; go_simp) (by simp only [zeroE]; go_simp)) rfl (Ret.of (by rw [HP.out, if_pos hk]) ?_)
      repeat (first | with_reducible exact hB0 | with_reducible refine B_set ?_ (by first | (simp; done) | (simp; omega)) _ | with_reducible refine B_alloc ?_ _ | with_reducible refine B_ext ?_ _ | with_reducible refine B_drew ?_)
    · have hk0 : ¬ kd < 0 := by omega
      have hlen2 : ws.length ≤ 100001 := by rw [HCL.out]; omega
      have hfs : (fieldsP kd (ws.map bs)).site.size ≤ 1000 ∧ (fieldsP kd (ws.map bs)).remain.size ≤ 1000 := fields_size kd ws HSZ.out
      have HF := Lib.hid (fields_any kd hk ws (some ⟨w.heap.size + 1, 0, none⟩) ws.length W0 hL0 hS hlen2 HSZ.out)
      generalize fieldsP kd (ws.map bs) = x at *
      obtain ⟨dy, kd2, si, lv, rm, co, od⟩ := x
      go_wp2_with (first
        | (go_at_call 31; refine HF.out.mono ?_; rintro e wq ⟨rfl, z1, rfl⟩; unfold evV)
        | (go_at_call 8; refine (pFormat_any dy kd2 si lv rm co od _ (hL0.keep (n := W0.heap.size) (by repeat (first | exact B_refl | exact Below.refl _ _ | assumption | with_reducible refine B_alloc ?_ _ | with_reducible refine B_ext ?_ _ | with_reducible refine B_drew ?_ | with_reducible refine B_drewN ?_ _ | with_reducible refine B_set ?_ (by simp; omega) _))) hfs.1 hfs.2).mono ?_; rintro e wq ⟨rfl, z2, rfl⟩; unfold pFmt))
      · rename_i hd ht
        have hg : goodB (bs s) ⟨dy, kd2, si, lv, rm, co, od⟩ = false := by
          unfold goodB
          rw [hd, toB_list ht.symm]
          rfl
        rw [HP.out, hg]
        refine bodyPost_ret (v := parseV none) (results_event rfl _ _ w.heap.size zeroE _ rfl rfl (by simp only [zeroE]; go_simp) (by simp only [zeroE]; go_simp) (by simp only [zeroE]; go_simp) (by simp only [zeroE]; go_simp) (by simp only [zeroE]; go_simp) (by simp only [zeroE]; go_simp) (by simp only [zeroE]; go_simp)) rfl (Ret.of ?_ ?_)
        · rw [if_neg (by omega), if_neg (by decide)]
        · repeat (first | with_reducible exact hB0 | with_reducible refine B_set ?_ (by first | (simp; done) | (simp; omega)) _ | with_reducible refine B_alloc ?_ _ | with_reducible refine B_ext ?_ _ | with_reducible refine B_drew ?_)
      · rename_i hd ht
        have hg : goodB (bs s) ⟨dy, kd2, si, lv, rm, co, od⟩ = true := by
          unfold goodB
          rw [hd, toB_list ht.symm]
          rfl
        rw [HP.out, hg]
        refine bodyPost_ret (v := parseV (some ⟨dy, kd2, si, lv, rm, co, od⟩)) (results_event rfl _ _ w.heap.size ⟨dy, kd2, si, lv, rm, co, od⟩ _ rfl rfl (by simp only [zeroE]; go_simp) (by simp only [zeroE]; go_simp) (by simp only [zeroE]; go_simp) (by simp only [zeroE]; go_simp) (by simp only [zeroE]; go_simp) (by simp only [zeroE]; go_simp) (by simp only [zeroE]; go_simp)) rfl (Ret.of ?_ ?_)
        · rw [if_neg (by omega), if_pos rfl]
        · repeat (first | with_reducible exact hB0 | with_reducible refine B_set ?_ (by first | (simp; done) | (simp; omega)) _ | with_reducible refine B_alloc ?_ _ | with_reducible refine B_ext ?_ _ | with_reducible refine B_drew ?_)
      · rename_i hd
        have hg : goodB (bs s) ⟨dy, kd2, si, lv, rm, co, od⟩ = false := by
          unfold goodB
          rw [beq_eq_false_iff_ne.2 hd]
          rfl
        rw [HP.out, hg]
        refine bodyPost_ret (v := parseV none) (results_event rfl _ _ w.heap.size zeroE _ rfl rfl (by simp only [zeroE]; go_simp) (by simp only [zeroE]; go_simp) (by simp only [zeroE]; go_simp) (by simp only [zeroE]; go_simp) (by simp only [zeroE]; go_simp) (by simp only [zeroE]; go_simp) (by simp only [zeroE]; go_simp)) rfl (Ret.of ?_ ?_)
        · rw [if_neg (by omega), if_neg (by decide)]
        · repeat (first | with_reducible exact hB0 | with_reducible refine B_set ?_ (by first | (simp; done) | (simp; omega)) _ | with_reducible refine B_alloc ?_ _ | with_reducible refine B_ext ?_ _ | with_reducible refine B_drew ?_)
end Go.Proofs.YtpohkolapgofdaaGreatDoor
namespace Go.Proofs.YtpohkolapgofdaaGreatDoor
open Go.RowKit
attribute [local go_sem] World.cell?_alloc_mark ext_size ext_cell ext_frozen lt_add_r lt_add_r2 lt_add_r3 lt_add_r4 lt_add_r5 lt_add_r6 lt_add_r7 lt_add_r8
attribute [local go_sem] ext_setCell alloc_setCell_lt

/-- The event, if it is right and has this text. -/
def goodOr (s : Bs) : Option Event → Option Event
  | none => none
  | some e => if goodB s e then some e else none
def parseRV : Option Event → Value
  | some e => .tuple #[evV e, .bool true]
  | none => .tuple #[evV zeroE, .bool false]
theorem cellO_other {w W : World} {B b o : Nat} {u : Value} (h : w.grownBy W (some B)) (hc : w.cell? ⟨b, o, none⟩ = some u) (hne : b ≠ B) : W.cell? ⟨b, o, none⟩ = some u :=
  (World.cell?_of_block (h.block b (cell_some hc) (fun e => hne (Option.some.inj e)))).trans hc
theorem word_bool {x : ByteArray} {l : List UInt8} : (x.toList == l) = (bs x == l) := by rw [ByteArray.toList_eq]; rfl
def evCells (e : Event) : Array Value := #[.int .i64 e.day, .int .i64 e.kind, .string e.site, .int .i64 e.level, .string e.remain, .int .i64 e.container, .bool e.order]
theorem event_cases (us : List ByteArray) (w0 : ByteArray) (n : Nat) (o : Bool) (hn : us.length = n + 1) (h0 : us[0]? = some w0) : eventR (us.map bs) o =
    if (w0.toList == [98, 117, 114, 121] || w0.toList == [114, 101, 98, 117, 114, 121]) && n == 5 then some ⟨atR us 1, if w0.toList == [114, 101, 98, 117, 114, 121] then 2 else 0, wordAt us 2, atR us 3, wordAt us 4, atR us 5, o⟩ else
    if w0.toList == [101, 120, 104, 117, 109, 101] && n == 2 then some ⟨atR us 1, 1, ⟨#[]⟩, 0, wordAt us 2, 0, o⟩ else
    if w0.toList == [108, 111, 119, 101, 114] && n == 3 then some ⟨atR us 1, 3, ⟨#[]⟩, atR us 2, wordAt us 3, 0, o⟩ else
    if w0.toList == [103, 97, 116, 104, 101, 114] && n == 2 then some ⟨atR us 1, 4, ⟨#[]⟩, 0, wordAt us 2, 0, o⟩ else none := by
  have h : (us.map bs).getD 0 [] = bs w0 := by rw [List.getD_eq_getElem?_getD, List.getElem?_map, h0]; rfl
  unfold eventR atR
  rw [h, List.length_map, hn]
  simp only [← wordAt_bs, bs_back, word_bool, buryB, reburyB, exhumeB, lowerB, gatherB]
  have e (a b : Nat) : (a + 1 == b + 1) = (a == b) := by rw [Bool.eq_iff_iff]; simp
  rw [e n 5, e n 2, e n 3]
  rfl
theorem event_size {us : List ByteArray} {w0 : ByteArray} {n : Nat} {o : Bool} {e : Event} (hn : us.length = n + 1) (h0 : us[0]? = some w0) (h : eventR (us.map bs) o = some e) (hs : ∀ x ∈ us, x.size ≤ 1000) : e.site.size ≤ 1000 ∧ e.remain.size ≤ 1000 := by
  rw [event_cases us w0 n o hn h0] at h
  split at h
  · cases h; exact ⟨wordAt_size hs 2, wordAt_size hs 4⟩
  split at h
  · cases h; exact ⟨Nat.zero_le _, wordAt_size hs 2⟩
  split at h
  · cases h; exact ⟨Nat.zero_le _, wordAt_size hs 3⟩
  split at h
  · cases h; exact ⟨Nat.zero_le _, wordAt_size hs 2⟩
  · cases h
theorem word_get {us : List ByteArray} {k : Nat} (h : k < us.length) : us[k]? = some (wordAt us k) := by
  unfold wordAt
  rw [List.getD_eq_getElem?_getD, List.getElem?_eq_getElem h]
  rfl
theorem sl_cells {W : World} {b off : Nat} {us : List ByteArray} (hn : 0 < us.length) (hcu : ∀ (k : Nat) x, us[k]? = some x → W.cell? ⟨b, off + k, none⟩ = some (.string x)) : Sl W 1 strCells (some ⟨b, off, none⟩) us :=
  fun _ => ⟨b, off, rfl, cell_some (hcu 0 _ (List.getElem?_eq_getElem hn)), fun k x hk j u hu => by
    have hj : j = 0 := by
      have := (List.getElem?_eq_some_iff.1 hu).1
      simpa [strCells] using this
    subst hj
    have hx2 : u = .string x := by simpa [strCells] using hu.symm
    rw [hx2]
    simpa using hcu k x hk⟩
set_option maxRecDepth 100000 in
set_option maxHeartbeats 2000000 in
theorem rParse_any (s : ByteArray) (w : World) (hs : s.size ≤ 1000) : Calls Tryz.prog 7 #[.string s] w (Ret w (parseRV (parseR (bs s)))) := by
  have hcl := cutS_len s
  have hct := count_le s
  have hsz : ∀ x ∈ cutS s, x.size ≤ 1000 := fun x hx => Nat.le_trans (cutS_size s x hx) hs
  have hP : parseR (bs s) = goodOr (bs s) (if ordR ((cutS s).map bs) then eventR (((cutS s).map bs).take (((cutS s).map bs).length - 1)) true else eventR ((cutS s).map bs) false) := by
    unfold parseR readR
    rw [cutS_bs]
    rfl
  have hC : ∀ w, Calls Tryz.prog 32 #[.string s, .int .u8 32] w (StrsPost w (cutS s)) := fun w => cut_any s w (by omega)
  generalize cutS s = ws at *
  obtain ⟨m, hm⟩ : ∃ m, ws.length = m + 1 := ⟨_, hcl⟩
  have hm1 : m ≤ 1000 := by omega
  have HP := Lib.hid hP
  have HCL := Lib.hid hcl
  have HSZ := Lib.hid hsz
  clear hP hcl hsz
  have HC := Lib.hid hC
  clear hC
  go_enter Tryz.func7, Tryz.ntmps7
  go_upto_region 3 with (go_at_call 32; refine (HC.out _).mono ?_; rintro e wq ⟨v, rfl, hown, z1, rfl⟩; obtain ⟨A, c, rfl, hS, hlc⟩ := own_sl str_len hown; clear hown; rw [hm])
  generalize hW0 : World.alloc (World.ext (w.alloc _) z1) _ = W0
  have hx : W0.heap[w.heap.size + 1 + z1.os.size]? = some (.cells #[.int .i64 0, .int .i64 0, .string ⟨#[]⟩, .int .i64 0, .string ⟨#[]⟩, .int .i64 0, .bool false] 23 (0, 0)) := by rw [← hW0]; (repeat (first | with_reducible exact G_new _ _ _ (by simp) | with_reducible exact G_new _ _ _ (by simp [ext_size]) | with_reducible refine G_drew ?_ | with_reducible refine G_ext ?_ | with_reducible refine G_alloc ?_))
  have hr : W0.heap[w.heap.size]? = some (.cells #[.int .i64 0, .int .i64 0, .string ⟨#[]⟩, .int .i64 0, .string ⟨#[]⟩, .int .i64 0, .bool false] 23 (0, 0)) := by rw [← hW0]; exact G_alloc (G_ext (G_new _ _ _ rfl))
  have hB0 : Below w.heap.size w W0 := by rw [← hW0]; repeat (first | exact B_refl | exact Below.refl _ _ | assumption | with_reducible refine B_alloc ?_ _ | with_reducible refine B_ext ?_ _ | with_reducible refine B_drew ?_ | with_reducible refine B_drewN ?_ _ | with_reducible refine B_set ?_ (by simp; omega) _)
  have hSW : Sl W0 1 strCells A ws := by rw [← hW0]; exact hS.keep (B_alloc (Below.refl _ _) _ (Nat.le_refl _))
  obtain ⟨b, off, rfl, hb, hc⟩ := hS (by omega)
  have hbx : b < w.heap.size + 1 + z1.os.size := by simpa [ext_size] using hb
  have hcw : ∀ k x, ws[k]? = some x → W0.cell? ⟨b, off + k, none⟩ = some (.string x) := by
    intro k x hk
    obtain ⟨b2, off2, hA, _, hc2⟩ := hSW (by omega)
    simp only [Option.some.injEq, Addr.mk.injEq, and_true] at hA
    obtain ⟨rfl, rfl⟩ := hA
    have := hc2 k x hk 0 (.string x) rfl
    simpa using this
  clear hW0 hc hb hS
  obtain ⟨w0, h0⟩ : ∃ x, ws[0]? = some x := ⟨_, List.getElem?_eq_getElem (by omega)⟩
  obtain ⟨wl, hl⟩ : ∃ x, ws[m]? = some x := ⟨_, List.getElem?_eq_getElem (by omega)⟩
  have x0 : W0.cell? ⟨b, off, none⟩ = some (.string w0) := hcw 0 w0 h0
  have xl : W0.cell? ⟨b, off + m, none⟩ = some (.string wl) := hcw m wl hl
  have HCW := Lib.hid hcw
  clear hcw
  have hO : ordR (ws.map bs) = (decide (1 < m) && wl.toList == [111, 114, 100, 101, 114] && ((w0.toList == [101, 120, 104, 117, 109, 101] && m == 3) || (w0.toList == [108, 111, 119, 101, 114] && m == 4))) := by
    unfold ordR lastW
    rw [List.length_map, hm, List.getD_eq_getElem?_getD, List.getD_eq_getElem?_getD, List.getElem?_map, List.getElem?_map, Nat.add_sub_cancel, h0, hl]
    simp only [word_bool, Option.map_some, Option.getD_some, orderB, exhumeB, lowerB]
    congr 1
    · congr 1
      rw [decide_eq_decide]
      omega
    · congr 1 <;> (congr 1; rw [Bool.eq_iff_iff]; simp only [beq_iff_eq]; omega)
  have HO := Lib.hid hO
  clear hO
  go_cut [41] from 6 (fun v wc => v = .bool (ordR (ws.map bs)) ∧ W0 = wc)
  case first =>
    go_wp2_with fail
    all_goals go_meet
    all_goals
      refine ⟨bool_eq ?_, rfl⟩
      rw [HO.out]
      have e3 : ((m : Int) + 1 == 4) = (m == 3) := by rw [Bool.eq_iff_iff]; simp only [beq_iff_eq]; omega
      have e4 : ((m : Int) + 1 == 5) = (m == 4) := by rw [Bool.eq_iff_iff]; simp only [beq_iff_eq]; omega
      clear HO HP HCL HSZ HC HCW
      first | (simp_all; done) | (simp_all; omega)
  case rest =>
    obtain ⟨hv, rfl⟩ := hcut
    generalize ho : ordR (ws.map bs) = o at *
    subst hv
    go_upto_if 41 with fail
    go_cut [4] from 6 (fun v wc => ∃ (us : List ByteArray) (n : Nat), v = .slice (some ⟨b, off, none⟩) (n + 1 : Nat) c ∧ us.length = n + 1 ∧ n ≤ m ∧ (∀ (k : Nat) x, us[k]? = some x → ws[k]? = some x) ∧ parseR (bs s) = goodOr (bs s) (eventR (us.map bs) o) ∧ W0.grownBy wc (some (w.heap.size + 1 + z1.os.size)) ∧
      wc.heap[w.heap.size + 1 + z1.os.size]? = some (.cells #[.int .i64 0, .int .i64 0, .string ⟨#[]⟩, .int .i64 0, .string ⟨#[]⟩, .int .i64 0, .bool o] 23 (0, 0)))
    case first =>
      cases o
      · go_wp2_with fail
        all_goals go_meet
        case rel => exact ⟨ws, m, rfl, hm, Nat.le_refl _, fun _ _ h => h, by rw [HP.out, if_neg (by decide)], ⟨rfl, rfl, rfl, Nat.le_refl _, fun _ _ _ => rfl⟩, hx⟩
      · have hm2 : 1 < m := by
          have := HO.out
          have h2 := this.symm
          simp only [Bool.and_eq_true, decide_eq_true_eq] at h2
          exact h2.1.1
        obtain ⟨n, rfl⟩ : ∃ n, m = n + 1 := ⟨m - 1, by omega⟩
        have f6 : W0.cell? ⟨w.heap.size + 1 + z1.os.size, 6, none⟩ = some (.bool false) := block_cell hx rfl
        have fz : ∀ j, W0.frozen? ⟨w.heap.size + 1 + z1.os.size, j, none⟩ = false := fun j => frozen_of_row W0 _ j _ _ hx
        go_wp2_with fail
        all_goals go_meet
        case rel =>
          refine ⟨ws.take (n + 1), n, rfl, by rw [List.length_take, hm]; omega, Nat.le_succ _, fun k x hk => ?_, ?_, grown_set _ _ _ _, heap_setCell_same _ _ _ _ _ _ hx⟩
          · rw [List.getElem?_take] at hk
            split at hk
            · exact hk
            · cases hk
          · rw [HP.out]
            first | rw [if_pos rfl] | rw [if_pos trivial]
            rw [List.map_take, List.length_map, hm, Nat.add_sub_cancel]
    case rest =>
      obtain ⟨us, n, rfl, hn, hnm, hus, hPR, hG, hb2⟩ := hcut
      have hcu : ∀ (k : Nat) x, us[k]? = some x → wc.cell? ⟨b, off + k, none⟩ = some (.string x) := fun k x hk => cellO_other hG (HCW.out k x (hus k x hk)) (by omega)
      have hSU : Sl wc 1 strCells (some ⟨b, off, none⟩) us := fun _ => ⟨b, off, rfl, cell_some (hcu 0 _ (List.getElem?_eq_getElem (by omega))), fun k x hk j u hu => by
        have hj : j = 0 := by
          have := (List.getElem?_eq_some_iff.1 hu).1
          simpa [strCells] using this
        subst hj
        have hx2 : u = .string x := by simpa [strCells] using hu.symm
        rw [hx2]
        simpa using hcu k x hk⟩
      have hUS : ∀ x ∈ us, x.size ≤ 1000 := fun x hx => by
        obtain ⟨k, hk⟩ := List.mem_iff_getElem?.1 hx
        exact HSZ.out x (List.mem_of_getElem? (hus k x hk))
      have hr2 := (hG.block _ (blk_lt hr) (by simp; omega)).trans hr
      have hB1 : Below w.heap.size w wc := grown_below hB0 hG (by omega)
      have hAT : ∀ (k : Nat) (W : World), k ≤ 10 → Sl W 1 strCells (some ⟨b, off, none⟩) us → Calls Tryz.prog 33 #[.slice (some ⟨b, off, none⟩) (n + 1) c, .int .i64 k] W (Ret W (.int .i64 (atR us k))) := by
        intro k W hk hS
        rw [← hn]
        exact rAt_any us (some ⟨b, off, none⟩) c k W hS (by omega) (fun x hx => Nat.le_trans (hUS x hx) (by decide)) hk
      have HAT := Lib.hid hAT
      clear hAT
      have HPR := Lib.hid hPR
      have HSU := Lib.hid hSU
      have HUS := Lib.hid hUS
      clear hPR hSU hUS HP HO hG hx hr x0 xl hl h0 HCW hB0 ho hus hm
      have f0 : wc.cell? ⟨w.heap.size + 1 + z1.os.size, 0, none⟩ = some (.int .i64 0) := block_cell hb2 rfl
      have fz : ∀ j, wc.frozen? ⟨w.heap.size + 1 + z1.os.size, j, none⟩ = false := fun j => frozen_of_row wc _ j _ _ hb2
      have hbz := blk_lt hb2
      go_upto_block 0 with (go_at_call 33; refine (HAT.out 1 _ (by decide) HSU.out).mono ?_; rintro e wq ⟨rfl, z2, rfl⟩)
      generalize hW2 : World.ext (wc.setCell _ _) z2 = W2
      have hb3 : W2.heap[w.heap.size + 1 + z1.os.size]? = some (.cells #[.int .i64 (atR us 1), .int .i64 0, .string ⟨#[]⟩, .int .i64 0, .string ⟨#[]⟩, .int .i64 0, .bool o] 23 (0, 0)) := by rw [← hW2]; exact G_ext (heap_setCell_same _ _ _ _ _ _ hb2)
      have hG2 : wc.grownBy W2 (some (w.heap.size + 1 + z1.os.size)) := by rw [← hW2]; exact grown_ext (grown_set _ _ _ _) _
      clear hW2
      have hr3 := (hG2.block _ (blk_lt hr2) (by simp; omega)).trans hr2
      have hB2 : Below w.heap.size w W2 := grown_below hB1 hG2 (by omega)
      have hc2 : ∀ (k : Nat) x, us[k]? = some x → W2.cell? ⟨b, off + k, none⟩ = some (.string x) := fun k x hk => cellO_other hG2 (hcu k x hk) (by omega)
      clear hcu hB1 hr2 hG2 hb2 f0 fz hbz HSU
      obtain ⟨w0, h0⟩ : ∃ x, us[0]? = some x := ⟨_, List.getElem?_eq_getElem (by omega)⟩
      have x0 : W2.cell? ⟨b, off, none⟩ = some (.string w0) := hc2 0 w0 h0
      have f1 : W2.cell? ⟨w.heap.size + 1 + z1.os.size, 1, none⟩ = some (.int .i64 0) := block_cell hb3 rfl
      have fz : ∀ j, W2.frozen? ⟨w.heap.size + 1 + z1.os.size, j, none⟩ = false := fun j => frozen_of_row W2 _ j _ _ hb3
      have hbz := blk_lt hb3
      have HC2 := Lib.hid hc2
      clear hc2
      have hE := event_cases us w0 n o hn h0
      have HE := Lib.hid hE
      clear hE
      go_cut [] from 6 (fun wc => ∃ e, eventR (us.map bs) o = some e ∧ W2.grownBy wc (some (w.heap.size + 1 + z1.os.size)) ∧ wc.heap[w.heap.size + 1 + z1.os.size]? = some (.cells (evCells e) 23 (0, 0)))
      case first =>
        by_cases k1 : w0.toList = [98, 117, 114, 121]
        · have q1 : (w0.toList == [98, 117, 114, 121]) = true := by rw [k1]; rfl
          have q2 : (w0.toList == [114, 101, 98, 117, 114, 121]) = false := by rw [k1]; rfl
          have q3 : (w0.toList == [101, 120, 104, 117, 109, 101]) = false := by rw [k1]; rfl
          have q4 : (w0.toList == [108, 111, 119, 101, 114]) = false := by rw [k1]; rfl
          have q5 : (w0.toList == [103, 97, 116, 104, 101, 114]) = false := by rw [k1]; rfl
          clear k1
          by_cases k : n = 5
          · subst k
            have c2 := HC2.out 2 _ (word_get (by omega))
            have c4 := HC2.out 4 _ (word_get (by omega))
            go_wp2_with fail
            apply wp_region_block (B := w.heap.size + 1 + z1.os.size) (t := 23) (cs := #[.int .i64 (atR us 1), .int .i64 0, .string ⟨#[]⟩, .int .i64 0, .string ⟨#[]⟩, .int .i64 0, .bool o]) (st := [11, 13, 15, 17])
              (l := [(2, .string (wordAt us 2)), (3, .int .i64 (atR us 3)), (4, .string (wordAt us 4)), (5, .int .i64 (atR us 5))])
              (us := [.slice (some ⟨b, off, none⟩) 6 c, .pointer (some ⟨b, off + 2, none⟩), .string (wordAt us 2), .slice (some ⟨b, off, none⟩) 6 c, .int .i64 (atR us 3), .slice (some ⟨b, off, none⟩) 6 c, .pointer (some ⟨b, off + 4, none⟩), .string (wordAt us 4), .slice (some ⟨b, off, none⟩) 6 c, .int .i64 (atR us 5),
                .pointer (some ⟨w.heap.size + 1 + z1.os.size, 2, none⟩), undef, .pointer (some ⟨w.heap.size + 1 + z1.os.size, 3, none⟩), undef, .pointer (some ⟨w.heap.size + 1 + z1.os.size, 4, none⟩), undef, .pointer (some ⟨w.heap.size + 1 + z1.os.size, 5, none⟩), undef])
            case hA => simp [fillTo, Act.put]; rfl
            case hm => kernel_rfl
            case hd => kernel_rfl
            case hf => kernel_rfl
            case hsel => kernel_rfl
            case hst => kernel_rfl
            case hin => kernel_rfl
            case hlen => rfl
            case hb => exact hb3
            case hstep =>
              simp only [stepsW, posOf, reduceIte, Nat.reduceEqDiff, Option.map_some, Option.map_none, List.getD_cons_zero, List.getD_cons_succ, and_true, Nat.zero_add, Nat.reduceAdd]
              refine ⟨?_, ?_, ?_, ?_, ?_, ?_, ?_, ?_, ?_, ?_, ?_, ?_, ?_, ?_, ?_, ?_, ?_, ?_⟩
              · intro k W h
                unfold getsV
                go_simp
                first | exact stays _ | exact ⟨rfl, stays _⟩
              · intro k W h
                unfold getsV
                go_simp
                first | exact stays _ | exact ⟨rfl, stays _⟩
              · intro k W h
                have k1 := cellO_other h.1 c2 (by omega)
                unfold getsV
                go_simp
                first | exact stays _ | exact ⟨rfl, stays _⟩
              · intro k W h
                unfold getsV
                go_simp
                first | exact stays _ | exact ⟨rfl, stays _⟩
              · intro k W h
                unfold getsV
                go_simp
                refine (HAT.out 3 W (by decide) (sl_cells (by omega) (fun k x hk => cellO_other h.1 (HC2.out k x hk) (by omega)))).mono ?_
                rintro e wq ⟨rfl, z, rfl⟩
                exact ⟨_, rfl, rfl, z, rfl⟩
              · intro k W h
                unfold getsV
                go_simp
                first | exact stays _ | exact ⟨rfl, stays _⟩
              · intro k W h
                unfold getsV
                go_simp
                first | exact stays _ | exact ⟨rfl, stays _⟩
              · intro k W h
                have k1 := cellO_other h.1 c4 (by omega)
                unfold getsV
                go_simp
                first | exact stays _ | exact ⟨rfl, stays _⟩
              · intro k W h
                unfold getsV
                go_simp
                first | exact stays _ | exact ⟨rfl, stays _⟩
              · intro k W h
                unfold getsV
                go_simp
                refine (HAT.out 5 W (by decide) (sl_cells (by omega) (fun k x hk => cellO_other h.1 (HC2.out k x hk) (by omega)))).mono ?_
                rintro e wq ⟨rfl, z, rfl⟩
                exact ⟨_, rfl, rfl, z, rfl⟩
              · intro k W h
                unfold getsV
                go_simp
                first | exact stays _ | exact ⟨rfl, stays _⟩
              · intro W h
                have k1 := block_cell (j := 2) h.2 rfl
                have k2 := frozen_of_row W _ 2 _ _ h.2
                unfold getsV
                go_simp
                first | exact h.store rfl | exact ⟨rfl, h.store rfl⟩
              · intro k W h
                unfold getsV
                go_simp
                first | exact stays _ | exact ⟨rfl, stays _⟩
              · intro W h
                have k1 := block_cell (j := 3) h.2 rfl
                have k2 := frozen_of_row W _ 3 _ _ h.2
                unfold getsV
                go_simp
                first | exact h.store rfl | exact ⟨rfl, h.store rfl⟩
              · intro k W h
                unfold getsV
                go_simp
                first | exact stays _ | exact ⟨rfl, stays _⟩
              · intro W h
                have k1 := block_cell (j := 4) h.2 rfl
                have k2 := frozen_of_row W _ 4 _ _ h.2
                unfold getsV
                go_simp
                first | exact h.store rfl | exact ⟨rfl, h.store rfl⟩
              · intro k W h
                unfold getsV
                go_simp
                first | exact stays _ | exact ⟨rfl, stays _⟩
              · intro W h
                have k1 := block_cell (j := 5) h.2 rfl
                have k2 := frozen_of_row W _ 5 _ _ h.2
                unfold getsV
                go_simp
                first | exact h.store rfl | exact ⟨rfl, h.store rfl⟩
            case hend =>
              intro W hG hb
              have x0W := cellO_other hG x0 (by omega)
              have f1W : W.cell? ⟨w.heap.size + 1 + z1.os.size, 1, none⟩ = some (.int .i64 0) := block_cell hb rfl
              have fzW : ∀ j, W.frozen? ⟨w.heap.size + 1 + z1.os.size, j, none⟩ = false := fun j => frozen_of_row W _ j _ _ hb
              have hbzW := blk_lt hb
              clear f1 fz hbz x0
              go_wp2_with fail
              all_goals go_meet
              case rel => exact ⟨⟨atR us 1, 0, wordAt us 2, atR us 3, wordAt us 4, atR us 5, o⟩, by rw [HE.out, q1, q2, q3, q4, q5]; rfl, hG, hb⟩
          · have kk : ((n : Int) + 1 == 6) = false := by rw [beq_eq_false_iff_ne]; omega
            have hN : parseR (bs s) = none := by rw [HPR.out, HE.out, q1, q2, q3, q4, q5]; simp [goodOr, k]
            have r0 := block_cell (j := 0) (u := .int .i64 0) hr3 rfl
            have r1 := block_cell (j := 1) (u := .int .i64 0) hr3 rfl
            have r2 := block_cell (j := 2) (u := .string ⟨#[]⟩) hr3 rfl
            have r3 := block_cell (j := 3) (u := .int .i64 0) hr3 rfl
            have r4 := block_cell (j := 4) (u := .string ⟨#[]⟩) hr3 rfl
            have r5 := block_cell (j := 5) (u := .int .i64 0) hr3 rfl
            have r6 := block_cell (j := 6) (u := .bool false) hr3 rfl
            have rz := fun j => frozen_of_row _ _ j _ _ hr3
            have hz := blk_lt hr3
            have hB0 := hB2
            clear hb3 hr3
            go_wp2_with fail
            rw [hN]
            refine bodyPost_ret (v := parseRV none) (results_event rfl _ _ w.heap.size zeroE _ rfl rfl (by simp only [zeroE]; go_simp) (by simp only [zeroE]; go_simp) (by simp only [zeroE]; go_simp) (by simp only [zeroE]; go_simp) (by simp only [zeroE]; go_simp) (by simp only [zeroE]; go_simp) (by simp only [zeroE]; go_simp)) rfl (Ret.of rfl ?_)
            repeat (first | with_reducible exact hB0 | with_reducible refine B_set ?_ (by first | (simp; done) | (simp; omega)) _ | with_reducible refine B_alloc ?_ _ | with_reducible refine B_ext ?_ _ | with_reducible refine B_drew ?_)
        by_cases k2 : w0.toList = [114, 101, 98, 117, 114, 121]
        · have q1 : (w0.toList == [98, 117, 114, 121]) = false := by rw [k2]; rfl
          have q2 : (w0.toList == [114, 101, 98, 117, 114, 121]) = true := by rw [k2]; rfl
          have q3 : (w0.toList == [101, 120, 104, 117, 109, 101]) = false := by rw [k2]; rfl
          have q4 : (w0.toList == [108, 111, 119, 101, 114]) = false := by rw [k2]; rfl
          have q5 : (w0.toList == [103, 97, 116, 104, 101, 114]) = false := by rw [k2]; rfl
          clear k2
          by_cases k : n = 5
          · subst k
            have c2 := HC2.out 2 _ (word_get (by omega))
            have c4 := HC2.out 4 _ (word_get (by omega))
            go_wp2_with fail
            apply wp_region_block (B := w.heap.size + 1 + z1.os.size) (t := 23) (cs := #[.int .i64 (atR us 1), .int .i64 0, .string ⟨#[]⟩, .int .i64 0, .string ⟨#[]⟩, .int .i64 0, .bool o]) (st := [11, 13, 15, 17])
              (l := [(2, .string (wordAt us 2)), (3, .int .i64 (atR us 3)), (4, .string (wordAt us 4)), (5, .int .i64 (atR us 5))])
              (us := [.slice (some ⟨b, off, none⟩) 6 c, .pointer (some ⟨b, off + 2, none⟩), .string (wordAt us 2), .slice (some ⟨b, off, none⟩) 6 c, .int .i64 (atR us 3), .slice (some ⟨b, off, none⟩) 6 c, .pointer (some ⟨b, off + 4, none⟩), .string (wordAt us 4), .slice (some ⟨b, off, none⟩) 6 c, .int .i64 (atR us 5),
                .pointer (some ⟨w.heap.size + 1 + z1.os.size, 2, none⟩), undef, .pointer (some ⟨w.heap.size + 1 + z1.os.size, 3, none⟩), undef, .pointer (some ⟨w.heap.size + 1 + z1.os.size, 4, none⟩), undef, .pointer (some ⟨w.heap.size + 1 + z1.os.size, 5, none⟩), undef])
            case hA => simp [fillTo, Act.put]; rfl
            case hm => kernel_rfl
            case hd => kernel_rfl
            case hf => kernel_rfl
            case hsel => kernel_rfl
            case hst => kernel_rfl
            case hin => kernel_rfl
            case hlen => rfl
            case hb => exact hb3
            case hstep =>
              simp only [stepsW, posOf, reduceIte, Nat.reduceEqDiff, Option.map_some, Option.map_none, List.getD_cons_zero, List.getD_cons_succ, and_true, Nat.zero_add, Nat.reduceAdd]
              refine ⟨?_, ?_, ?_, ?_, ?_, ?_, ?_, ?_, ?_, ?_, ?_, ?_, ?_, ?_, ?_, ?_, ?_, ?_⟩
              · intro k W h
                unfold getsV
                go_simp
                first | exact stays _ | exact ⟨rfl, stays _⟩
              · intro k W h
                unfold getsV
                go_simp
                first | exact stays _ | exact ⟨rfl, stays _⟩
              · intro k W h
                have k1 := cellO_other h.1 c2 (by omega)
                unfold getsV
                go_simp
                first | exact stays _ | exact ⟨rfl, stays _⟩
              · intro k W h
                unfold getsV
                go_simp
                first | exact stays _ | exact ⟨rfl, stays _⟩
              · intro k W h
                unfold getsV
                go_simp
                refine (HAT.out 3 W (by decide) (sl_cells (by omega) (fun k x hk => cellO_other h.1 (HC2.out k x hk) (by omega)))).mono ?_
                rintro e wq ⟨rfl, z, rfl⟩
                exact ⟨_, rfl, rfl, z, rfl⟩
              · intro k W h
                unfold getsV
                go_simp
                first | exact stays _ | exact ⟨rfl, stays _⟩
              · intro k W h
                unfold getsV
                go_simp
                first | exact stays _ | exact ⟨rfl, stays _⟩
              · intro k W h
                have k1 := cellO_other h.1 c4 (by omega)
                unfold getsV
                go_simp
                first | exact stays _ | exact ⟨rfl, stays _⟩
              · intro k W h
                unfold getsV
                go_simp
                first | exact stays _ | exact ⟨rfl, stays _⟩
              · intro k W h
                unfold getsV
                go_simp
                refine (HAT.out 5 W (by decide) (sl_cells (by omega) (fun k x hk => cellO_other h.1 (HC2.out k x hk) (by omega)))).mono ?_
                rintro e wq ⟨rfl, z, rfl⟩
                exact ⟨_, rfl, rfl, z, rfl⟩
              · intro k W h
                unfold getsV
                go_simp
                first | exact stays _ | exact ⟨rfl, stays _⟩
              · intro W h
                have k1 := block_cell (j := 2) h.2 rfl
                have k2 := frozen_of_row W _ 2 _ _ h.2
                unfold getsV
                go_simp
                first | exact h.store rfl | exact ⟨rfl, h.store rfl⟩
              · intro k W h
                unfold getsV
                go_simp
                first | exact stays _ | exact ⟨rfl, stays _⟩
              · intro W h
                have k1 := block_cell (j := 3) h.2 rfl
                have k2 := frozen_of_row W _ 3 _ _ h.2
                unfold getsV
                go_simp
                first | exact h.store rfl | exact ⟨rfl, h.store rfl⟩
              · intro k W h
                unfold getsV
                go_simp
                first | exact stays _ | exact ⟨rfl, stays _⟩
              · intro W h
                have k1 := block_cell (j := 4) h.2 rfl
                have k2 := frozen_of_row W _ 4 _ _ h.2
                unfold getsV
                go_simp
                first | exact h.store rfl | exact ⟨rfl, h.store rfl⟩
              · intro k W h
                unfold getsV
                go_simp
                first | exact stays _ | exact ⟨rfl, stays _⟩
              · intro W h
                have k1 := block_cell (j := 5) h.2 rfl
                have k2 := frozen_of_row W _ 5 _ _ h.2
                unfold getsV
                go_simp
                first | exact h.store rfl | exact ⟨rfl, h.store rfl⟩
            case hend =>
              intro W hG hb
              have x0W := cellO_other hG x0 (by omega)
              have f1W : W.cell? ⟨w.heap.size + 1 + z1.os.size, 1, none⟩ = some (.int .i64 0) := block_cell hb rfl
              have fzW : ∀ j, W.frozen? ⟨w.heap.size + 1 + z1.os.size, j, none⟩ = false := fun j => frozen_of_row W _ j _ _ hb
              have hbzW := blk_lt hb
              clear f1 fz hbz x0
              go_wp2_with fail
              all_goals go_meet
              case rel => exact ⟨⟨atR us 1, 2, wordAt us 2, atR us 3, wordAt us 4, atR us 5, o⟩, by rw [HE.out, q1, q2, q3, q4, q5]; rfl, grown_trans hG (grown_set _ _ _ _), heap_setCell_same _ _ _ _ _ _ hb⟩
          · have kk : ((n : Int) + 1 == 6) = false := by rw [beq_eq_false_iff_ne]; omega
            have hN : parseR (bs s) = none := by rw [HPR.out, HE.out, q1, q2, q3, q4, q5]; simp [goodOr, k]
            have r0 := block_cell (j := 0) (u := .int .i64 0) hr3 rfl
            have r1 := block_cell (j := 1) (u := .int .i64 0) hr3 rfl
            have r2 := block_cell (j := 2) (u := .string ⟨#[]⟩) hr3 rfl
            have r3 := block_cell (j := 3) (u := .int .i64 0) hr3 rfl
            have r4 := block_cell (j := 4) (u := .string ⟨#[]⟩) hr3 rfl
            have r5 := block_cell (j := 5) (u := .int .i64 0) hr3 rfl
            have r6 := block_cell (j := 6) (u := .bool false) hr3 rfl
            have rz := fun j => frozen_of_row _ _ j _ _ hr3
            have hz := blk_lt hr3
            have hB0 := hB2
            clear hb3 hr3
            go_wp2_with fail
            rw [hN]
            refine bodyPost_ret (v := parseRV none) (results_event rfl _ _ w.heap.size zeroE _ rfl rfl (by simp only [zeroE]; go_simp) (by simp only [zeroE]; go_simp) (by simp only [zeroE]; go_simp) (by simp only [zeroE]; go_simp) (by simp only [zeroE]; go_simp) (by simp only [zeroE]; go_simp) (by simp only [zeroE]; go_simp)) rfl (Ret.of rfl ?_)
            repeat (first | with_reducible exact hB0 | with_reducible refine B_set ?_ (by first | (simp; done) | (simp; omega)) _ | with_reducible refine B_alloc ?_ _ | with_reducible refine B_ext ?_ _ | with_reducible refine B_drew ?_)
        by_cases k3 : w0.toList = [101, 120, 104, 117, 109, 101]
        · have q1 : (w0.toList == [98, 117, 114, 121]) = false := by rw [k3]; rfl
          have q2 : (w0.toList == [114, 101, 98, 117, 114, 121]) = false := by rw [k3]; rfl
          have q3 : (w0.toList == [101, 120, 104, 117, 109, 101]) = true := by rw [k3]; rfl
          have q4 : (w0.toList == [108, 111, 119, 101, 114]) = false := by rw [k3]; rfl
          have q5 : (w0.toList == [103, 97, 116, 104, 101, 114]) = false := by rw [k3]; rfl
          clear k3
          by_cases k : n = 2
          · subst k
            have c2 := HC2.out 2 _ (word_get (by omega))
            go_wp2_with fail
            apply wp_region_block (B := w.heap.size + 1 + z1.os.size) (t := 23) (cs := #[.int .i64 (atR us 1), .int .i64 0, .string ⟨#[]⟩, .int .i64 0, .string ⟨#[]⟩, .int .i64 0, .bool o]) (st := [4, 6])
              (l := [(1, .int .i64 1), (4, .string (wordAt us 2))])
              (us := [.slice (some ⟨b, off, none⟩) 3 c, .pointer (some ⟨b, off + 2, none⟩), .string (wordAt us 2), .pointer (some ⟨w.heap.size + 1 + z1.os.size, 1, none⟩), undef, .pointer (some ⟨w.heap.size + 1 + z1.os.size, 4, none⟩), undef])
            case hA => simp [fillTo, Act.put]; rfl
            case hm => kernel_rfl
            case hd => kernel_rfl
            case hf => kernel_rfl
            case hsel => kernel_rfl
            case hst => kernel_rfl
            case hin => kernel_rfl
            case hlen => rfl
            case hb => exact hb3
            case hstep =>
              simp only [stepsW, posOf, reduceIte, Nat.reduceEqDiff, Option.map_some, Option.map_none, List.getD_cons_zero, List.getD_cons_succ, and_true, Nat.zero_add, Nat.reduceAdd]
              refine ⟨?_, ?_, ?_, ?_, ?_, ?_, ?_⟩
              · intro k W h
                unfold getsV
                go_simp
                first | exact stays _ | exact ⟨rfl, stays _⟩
              · intro k W h
                unfold getsV
                go_simp
                first | exact stays _ | exact ⟨rfl, stays _⟩
              · intro k W h
                have k1 := cellO_other h.1 c2 (by omega)
                unfold getsV
                go_simp
                first | exact stays _ | exact ⟨rfl, stays _⟩
              · intro k W h
                unfold getsV
                go_simp
                first | exact stays _ | exact ⟨rfl, stays _⟩
              · intro W h
                have k1 := block_cell (j := 1) h.2 rfl
                have k2 := frozen_of_row W _ 1 _ _ h.2
                unfold getsV
                go_simp
                first | exact h.store rfl | exact ⟨rfl, h.store rfl⟩
              · intro k W h
                unfold getsV
                go_simp
                first | exact stays _ | exact ⟨rfl, stays _⟩
              · intro W h
                have k1 := block_cell (j := 4) h.2 rfl
                have k2 := frozen_of_row W _ 4 _ _ h.2
                unfold getsV
                go_simp
                first | exact h.store rfl | exact ⟨rfl, h.store rfl⟩
            case hend =>
              intro W hG hb
              have x0W := cellO_other hG x0 (by omega)
              have f1W : W.cell? ⟨w.heap.size + 1 + z1.os.size, 1, none⟩ = some (.int .i64 1) := block_cell hb rfl
              have fzW : ∀ j, W.frozen? ⟨w.heap.size + 1 + z1.os.size, j, none⟩ = false := fun j => frozen_of_row W _ j _ _ hb
              have hbzW := blk_lt hb
              clear f1 fz hbz x0
              go_wp2_with fail
              all_goals go_meet
              case rel => exact ⟨⟨atR us 1, 1, ⟨#[]⟩, 0, wordAt us 2, 0, o⟩, by rw [HE.out, q1, q2, q3, q4, q5]; rfl, hG, hb⟩
          · have kk : ((n : Int) + 1 == 3) = false := by rw [beq_eq_false_iff_ne]; omega
            have hN : parseR (bs s) = none := by rw [HPR.out, HE.out, q1, q2, q3, q4, q5]; simp [goodOr, k]
            have r0 := block_cell (j := 0) (u := .int .i64 0) hr3 rfl
            have r1 := block_cell (j := 1) (u := .int .i64 0) hr3 rfl
            have r2 := block_cell (j := 2) (u := .string ⟨#[]⟩) hr3 rfl
            have r3 := block_cell (j := 3) (u := .int .i64 0) hr3 rfl
            have r4 := block_cell (j := 4) (u := .string ⟨#[]⟩) hr3 rfl
            have r5 := block_cell (j := 5) (u := .int .i64 0) hr3 rfl
            have r6 := block_cell (j := 6) (u := .bool false) hr3 rfl
            have rz := fun j => frozen_of_row _ _ j _ _ hr3
            have hz := blk_lt hr3
            have hB0 := hB2
            clear hb3 hr3
            go_wp2_with fail
            rw [hN]
            refine bodyPost_ret (v := parseRV none) (results_event rfl _ _ w.heap.size zeroE _ rfl rfl (by simp only [zeroE]; go_simp) (by simp only [zeroE]; go_simp) (by simp only [zeroE]; go_simp) (by simp only [zeroE]; go_simp) (by simp only [zeroE]; go_simp) (by simp only [zeroE]; go_simp) (by simp only [zeroE]; go_simp)) rfl (Ret.of rfl ?_)
            repeat (first | with_reducible exact hB0 | with_reducible refine B_set ?_ (by first | (simp; done) | (simp; omega)) _ | with_reducible refine B_alloc ?_ _ | with_reducible refine B_ext ?_ _ | with_reducible refine B_drew ?_)
        by_cases k4 : w0.toList = [108, 111, 119, 101, 114]
        · have q1 : (w0.toList == [98, 117, 114, 121]) = false := by rw [k4]; rfl
          have q2 : (w0.toList == [114, 101, 98, 117, 114, 121]) = false := by rw [k4]; rfl
          have q3 : (w0.toList == [101, 120, 104, 117, 109, 101]) = false := by rw [k4]; rfl
          have q4 : (w0.toList == [108, 111, 119, 101, 114]) = true := by rw [k4]; rfl
          have q5 : (w0.toList == [103, 97, 116, 104, 101, 114]) = false := by rw [k4]; rfl
          clear k4
          by_cases k : n = 3
          · subst k
            have c3 := HC2.out 3 _ (word_get (by omega))
            go_wp2_with fail
            apply wp_region_block (B := w.heap.size + 1 + z1.os.size) (t := 23) (cs := #[.int .i64 (atR us 1), .int .i64 0, .string ⟨#[]⟩, .int .i64 0, .string ⟨#[]⟩, .int .i64 0, .bool o]) (st := [6, 8, 10])
              (l := [(1, .int .i64 3), (3, .int .i64 (atR us 2)), (4, .string (wordAt us 3))])
              (us := [.slice (some ⟨b, off, none⟩) 4 c, .int .i64 (atR us 2), .slice (some ⟨b, off, none⟩) 4 c, .pointer (some ⟨b, off + 3, none⟩), .string (wordAt us 3), .pointer (some ⟨w.heap.size + 1 + z1.os.size, 1, none⟩), undef, .pointer (some ⟨w.heap.size + 1 + z1.os.size, 3, none⟩), undef, .pointer (some ⟨w.heap.size + 1 + z1.os.size, 4, none⟩), undef])
            case hA => simp [fillTo, Act.put]; rfl
            case hm => kernel_rfl
            case hd => kernel_rfl
            case hf => kernel_rfl
            case hsel => kernel_rfl
            case hst => kernel_rfl
            case hin => kernel_rfl
            case hlen => rfl
            case hb => exact hb3
            case hstep =>
              simp only [stepsW, posOf, reduceIte, Nat.reduceEqDiff, Option.map_some, Option.map_none, List.getD_cons_zero, List.getD_cons_succ, and_true, Nat.zero_add, Nat.reduceAdd]
              refine ⟨?_, ?_, ?_, ?_, ?_, ?_, ?_, ?_, ?_, ?_, ?_⟩
              · intro k W h
                unfold getsV
                go_simp
                first | exact stays _ | exact ⟨rfl, stays _⟩
              · intro k W h
                unfold getsV
                go_simp
                refine (HAT.out 2 W (by decide) (sl_cells (by omega) (fun k x hk => cellO_other h.1 (HC2.out k x hk) (by omega)))).mono ?_
                rintro e wq ⟨rfl, z, rfl⟩
                exact ⟨_, rfl, rfl, z, rfl⟩
              · intro k W h
                unfold getsV
                go_simp
                first | exact stays _ | exact ⟨rfl, stays _⟩
              · intro k W h
                unfold getsV
                go_simp
                first | exact stays _ | exact ⟨rfl, stays _⟩
              · intro k W h
                have k1 := cellO_other h.1 c3 (by omega)
                unfold getsV
                go_simp
                first | exact stays _ | exact ⟨rfl, stays _⟩
              · intro k W h
                unfold getsV
                go_simp
                first | exact stays _ | exact ⟨rfl, stays _⟩
              · intro W h
                have k1 := block_cell (j := 1) h.2 rfl
                have k2 := frozen_of_row W _ 1 _ _ h.2
                unfold getsV
                go_simp
                first | exact h.store rfl | exact ⟨rfl, h.store rfl⟩
              · intro k W h
                unfold getsV
                go_simp
                first | exact stays _ | exact ⟨rfl, stays _⟩
              · intro W h
                have k1 := block_cell (j := 3) h.2 rfl
                have k2 := frozen_of_row W _ 3 _ _ h.2
                unfold getsV
                go_simp
                first | exact h.store rfl | exact ⟨rfl, h.store rfl⟩
              · intro k W h
                unfold getsV
                go_simp
                first | exact stays _ | exact ⟨rfl, stays _⟩
              · intro W h
                have k1 := block_cell (j := 4) h.2 rfl
                have k2 := frozen_of_row W _ 4 _ _ h.2
                unfold getsV
                go_simp
                first | exact h.store rfl | exact ⟨rfl, h.store rfl⟩
            case hend =>
              intro W hG hb
              have x0W := cellO_other hG x0 (by omega)
              have f1W : W.cell? ⟨w.heap.size + 1 + z1.os.size, 1, none⟩ = some (.int .i64 3) := block_cell hb rfl
              have fzW : ∀ j, W.frozen? ⟨w.heap.size + 1 + z1.os.size, j, none⟩ = false := fun j => frozen_of_row W _ j _ _ hb
              have hbzW := blk_lt hb
              clear f1 fz hbz x0
              go_wp2_with fail
              all_goals go_meet
              case rel => exact ⟨⟨atR us 1, 3, ⟨#[]⟩, atR us 2, wordAt us 3, 0, o⟩, by rw [HE.out, q1, q2, q3, q4, q5]; rfl, hG, hb⟩
          · have kk : ((n : Int) + 1 == 4) = false := by rw [beq_eq_false_iff_ne]; omega
            have hN : parseR (bs s) = none := by rw [HPR.out, HE.out, q1, q2, q3, q4, q5]; simp [goodOr, k]
            have r0 := block_cell (j := 0) (u := .int .i64 0) hr3 rfl
            have r1 := block_cell (j := 1) (u := .int .i64 0) hr3 rfl
            have r2 := block_cell (j := 2) (u := .string ⟨#[]⟩) hr3 rfl
            have r3 := block_cell (j := 3) (u := .int .i64 0) hr3 rfl
            have r4 := block_cell (j := 4) (u := .string ⟨#[]⟩) hr3 rfl
            have r5 := block_cell (j := 5) (u := .int .i64 0) hr3 rfl
            have r6 := block_cell (j := 6) (u := .bool false) hr3 rfl
            have rz := fun j => frozen_of_row _ _ j _ _ hr3
            have hz := blk_lt hr3
            have hB0 := hB2
            clear hb3 hr3
            go_wp2_with fail
            rw [hN]
            refine bodyPost_ret (v := parseRV none) (results_event rfl _ _ w.heap.size zeroE _ rfl rfl (by simp only [zeroE]; go_simp) (by simp only [zeroE]; go_simp) (by simp only [zeroE]; go_simp) (by simp only [zeroE]; go_simp) (by simp only [zeroE]; go_simp) (by simp only [zeroE]; go_simp) (by simp only [zeroE]; go_simp)) rfl (Ret.of rfl ?_)
            repeat (first | with_reducible exact hB0 | with_reducible refine B_set ?_ (by first | (simp; done) | (simp; omega)) _ | with_reducible refine B_alloc ?_ _ | with_reducible refine B_ext ?_ _ | with_reducible refine B_drew ?_)
        by_cases k5 : w0.toList = [103, 97, 116, 104, 101, 114]
        · have q1 : (w0.toList == [98, 117, 114, 121]) = false := by rw [k5]; rfl
          have q2 : (w0.toList == [114, 101, 98, 117, 114, 121]) = false := by rw [k5]; rfl
          have q3 : (w0.toList == [101, 120, 104, 117, 109, 101]) = false := by rw [k5]; rfl
          have q4 : (w0.toList == [108, 111, 119, 101, 114]) = false := by rw [k5]; rfl
          have q5 : (w0.toList == [103, 97, 116, 104, 101, 114]) = true := by rw [k5]; rfl
          clear k5
          by_cases k : n = 2
          · subst k
            have c2 := HC2.out 2 _ (word_get (by omega))
            go_wp2_with fail
            apply wp_region_block (B := w.heap.size + 1 + z1.os.size) (t := 23) (cs := #[.int .i64 (atR us 1), .int .i64 0, .string ⟨#[]⟩, .int .i64 0, .string ⟨#[]⟩, .int .i64 0, .bool o]) (st := [4, 6])
              (l := [(1, .int .i64 4), (4, .string (wordAt us 2))])
              (us := [.slice (some ⟨b, off, none⟩) 3 c, .pointer (some ⟨b, off + 2, none⟩), .string (wordAt us 2), .pointer (some ⟨w.heap.size + 1 + z1.os.size, 1, none⟩), undef, .pointer (some ⟨w.heap.size + 1 + z1.os.size, 4, none⟩), undef])
            case hA => simp [fillTo, Act.put]; rfl
            case hm => kernel_rfl
            case hd => kernel_rfl
            case hf => kernel_rfl
            case hsel => kernel_rfl
            case hst => kernel_rfl
            case hin => kernel_rfl
            case hlen => rfl
            case hb => exact hb3
            case hstep =>
              simp only [stepsW, posOf, reduceIte, Nat.reduceEqDiff, Option.map_some, Option.map_none, List.getD_cons_zero, List.getD_cons_succ, and_true, Nat.zero_add, Nat.reduceAdd]
              refine ⟨?_, ?_, ?_, ?_, ?_, ?_, ?_⟩
              · intro k W h
                unfold getsV
                go_simp
                first | exact stays _ | exact ⟨rfl, stays _⟩
              · intro k W h
                unfold getsV
                go_simp
                first | exact stays _ | exact ⟨rfl, stays _⟩
              · intro k W h
                have k1 := cellO_other h.1 c2 (by omega)
                unfold getsV
                go_simp
                first | exact stays _ | exact ⟨rfl, stays _⟩
              · intro k W h
                unfold getsV
                go_simp
                first | exact stays _ | exact ⟨rfl, stays _⟩
              · intro W h
                have k1 := block_cell (j := 1) h.2 rfl
                have k2 := frozen_of_row W _ 1 _ _ h.2
                unfold getsV
                go_simp
                first | exact h.store rfl | exact ⟨rfl, h.store rfl⟩
              · intro k W h
                unfold getsV
                go_simp
                first | exact stays _ | exact ⟨rfl, stays _⟩
              · intro W h
                have k1 := block_cell (j := 4) h.2 rfl
                have k2 := frozen_of_row W _ 4 _ _ h.2
                unfold getsV
                go_simp
                first | exact h.store rfl | exact ⟨rfl, h.store rfl⟩
            case hend =>
              intro W hG hb
              have x0W := cellO_other hG x0 (by omega)
              have f1W : W.cell? ⟨w.heap.size + 1 + z1.os.size, 1, none⟩ = some (.int .i64 4) := block_cell hb rfl
              have fzW : ∀ j, W.frozen? ⟨w.heap.size + 1 + z1.os.size, j, none⟩ = false := fun j => frozen_of_row W _ j _ _ hb
              have hbzW := blk_lt hb
              clear f1 fz hbz x0
              go_wp2_with fail
              all_goals go_meet
              case rel => exact ⟨⟨atR us 1, 4, ⟨#[]⟩, 0, wordAt us 2, 0, o⟩, by rw [HE.out, q1, q2, q3, q4, q5]; rfl, hG, hb⟩
          · have kk : ((n : Int) + 1 == 3) = false := by rw [beq_eq_false_iff_ne]; omega
            have hN : parseR (bs s) = none := by rw [HPR.out, HE.out, q1, q2, q3, q4, q5]; simp [goodOr, k]
            have r0 := block_cell (j := 0) (u := .int .i64 0) hr3 rfl
            have r1 := block_cell (j := 1) (u := .int .i64 0) hr3 rfl
            have r2 := block_cell (j := 2) (u := .string ⟨#[]⟩) hr3 rfl
            have r3 := block_cell (j := 3) (u := .int .i64 0) hr3 rfl
            have r4 := block_cell (j := 4) (u := .string ⟨#[]⟩) hr3 rfl
            have r5 := block_cell (j := 5) (u := .int .i64 0) hr3 rfl
            have r6 := block_cell (j := 6) (u := .bool false) hr3 rfl
            have rz := fun j => frozen_of_row _ _ j _ _ hr3
            have hz := blk_lt hr3
            have hB0 := hB2
            clear hb3 hr3
            go_wp2_with fail
            rw [hN]
            refine bodyPost_ret (v := parseRV none) (results_event rfl _ _ w.heap.size zeroE _ rfl rfl (by simp only [zeroE]; go_simp) (by simp only [zeroE]; go_simp) (by simp only [zeroE]; go_simp) (by simp only [zeroE]; go_simp) (by simp only [zeroE]; go_simp) (by simp only [zeroE]; go_simp) (by simp only [zeroE]; go_simp)) rfl (Ret.of rfl ?_)
            repeat (first | with_reducible exact hB0 | with_reducible refine B_set ?_ (by first | (simp; done) | (simp; omega)) _ | with_reducible refine B_alloc ?_ _ | with_reducible refine B_ext ?_ _ | with_reducible refine B_drew ?_)
        have q1 : (w0.toList == [98, 117, 114, 121]) = false := by simpa using k1
        have q2 : (w0.toList == [114, 101, 98, 117, 114, 121]) = false := by simpa using k2
        have q3 : (w0.toList == [101, 120, 104, 117, 109, 101]) = false := by simpa using k3
        have q4 : (w0.toList == [108, 111, 119, 101, 114]) = false := by simpa using k4
        have q5 : (w0.toList == [103, 97, 116, 104, 101, 114]) = false := by simpa using k5
        clear k1 k2 k3 k4 k5
        have hN : parseR (bs s) = none := by rw [HPR.out, HE.out, q1, q2, q3, q4, q5]; simp [goodOr]
        have r0 := block_cell (j := 0) (u := .int .i64 0) hr3 rfl
        have r1 := block_cell (j := 1) (u := .int .i64 0) hr3 rfl
        have r2 := block_cell (j := 2) (u := .string ⟨#[]⟩) hr3 rfl
        have r3 := block_cell (j := 3) (u := .int .i64 0) hr3 rfl
        have r4 := block_cell (j := 4) (u := .string ⟨#[]⟩) hr3 rfl
        have r5 := block_cell (j := 5) (u := .int .i64 0) hr3 rfl
        have r6 := block_cell (j := 6) (u := .bool false) hr3 rfl
        have rz := fun j => frozen_of_row _ _ j _ _ hr3
        have hz := blk_lt hr3
        have hB0 := hB2
        clear hb3 hr3
        go_wp2_with fail
        rw [hN]
        refine bodyPost_ret (v := parseRV none) (results_event rfl _ _ w.heap.size zeroE _ rfl rfl (by simp only [zeroE]; go_simp) (by simp only [zeroE]; go_simp) (by simp only [zeroE]; go_simp) (by simp only [zeroE]; go_simp) (by simp only [zeroE]; go_simp) (by simp only [zeroE]; go_simp) (by simp only [zeroE]; go_simp)) rfl (Ret.of rfl ?_)
        repeat (first | with_reducible exact hB0 | with_reducible refine B_set ?_ (by first | (simp; done) | (simp; omega)) _ | with_reducible refine B_alloc ?_ _ | with_reducible refine B_ext ?_ _ | with_reducible refine B_drew ?_)
      case rest =>
        obtain ⟨e, he, hG, hb⟩ := hcut
        have hsz2 := event_size hn h0 he HUS.out
        have HPX : Hid (parseR (bs s) = if goodB (bs s) e then some e else none) := Lib.hid (by rw [HPR.out, he]; rfl)
        have hr4 := (hG.block _ (blk_lt hr3) (by simp; omega)).trans hr3
        have hB0 : Below w.heap.size w wc := grown_below hB2 hG (by omega)
        clear he HPR HE hG hr3 hB2 x0 f1 fz hbz hb3 HC2
        have hr3 := hr4
        have r0 := block_cell (j := 0) (u := .int .i64 0) hr3 rfl
        have r1 := block_cell (j := 1) (u := .int .i64 0) hr3 rfl
        have r2 := block_cell (j := 2) (u := .string ⟨#[]⟩) hr3 rfl
        have r3 := block_cell (j := 3) (u := .int .i64 0) hr3 rfl
        have r4 := block_cell (j := 4) (u := .string ⟨#[]⟩) hr3 rfl
        have r5 := block_cell (j := 5) (u := .int .i64 0) hr3 rfl
        have r6 := block_cell (j := 6) (u := .bool false) hr3 rfl
        have rz := fun j => frozen_of_row _ _ j _ _ hr3
        have hz := blk_lt hr3
        obtain ⟨dy, kd, si, lv, rm, co, od⟩ := e
        dsimp only at hsz2
        have f0 := block_cell (j := 0) (u := .int .i64 dy) hb rfl
        have f1 := block_cell (j := 1) (u := .int .i64 kd) hb rfl
        have f2 := block_cell (j := 2) (u := .string si) hb rfl
        have f3 := block_cell (j := 3) (u := .int .i64 lv) hb rfl
        have f4 := block_cell (j := 4) (u := .string rm) hb rfl
        have f5 := block_cell (j := 5) (u := .int .i64 co) hb rfl
        have f6 := block_cell (j := 6) (u := .bool od) hb rfl
        have hbz := blk_lt hb
        clear hb hr3 hr4
        by_cases hd : checkEventP ⟨dy, kd, si, lv, rm, co, od⟩ = 0
        · go_wp2_with (first
            | (go_at_call 9; refine (rCheckEvent_any dy kd si lv rm co od _ (by omega) (by omega)).mono ?_; rintro e wq ⟨rfl, z3, rfl⟩; rw [hd])
            | (go_at_call 11; refine (rFormat_any dy kd si lv rm co od _ (ok_of hd) hsz2.1 hsz2.2).mono ?_; rintro e wq ⟨rfl, z4, rfl⟩))
          · rename_i ht
            have hg : goodB (bs s) ⟨dy, kd, si, lv, rm, co, od⟩ = false := by
              unfold goodB
              rw [hd, toB_list ht.symm]
              rfl
            refine bodyPost_ret (v := parseRV none) (results_event rfl _ _ w.heap.size zeroE _ rfl rfl (by simp only [zeroE]; go_simp) (by simp only [zeroE]; go_simp) (by simp only [zeroE]; go_simp) (by simp only [zeroE]; go_simp) (by simp only [zeroE]; go_simp) (by simp only [zeroE]; go_simp) (by simp only [zeroE]; go_simp)) rfl (Ret.of ?_ ?_)
            · rw [HPX.out, hg, if_neg (by decide)]
            · repeat (first | with_reducible exact hB0 | with_reducible refine B_set ?_ (by first | (simp; done) | (simp; omega)) _ | with_reducible refine B_alloc ?_ _ | with_reducible refine B_ext ?_ _ | with_reducible refine B_drew ?_)
          · rename_i ht
            have hg : goodB (bs s) ⟨dy, kd, si, lv, rm, co, od⟩ = true := by
              unfold goodB
              rw [hd, toB_list ht.symm]
              rfl
            refine bodyPost_ret (v := parseRV (some ⟨dy, kd, si, lv, rm, co, od⟩)) (results_event rfl _ _ w.heap.size ⟨dy, kd, si, lv, rm, co, od⟩ _ rfl rfl (by simp only [zeroE]; go_simp) (by simp only [zeroE]; go_simp) (by simp only [zeroE]; go_simp) (by simp only [zeroE]; go_simp) (by simp only [zeroE]; go_simp) (by simp only [zeroE]; go_simp) (by simp only [zeroE]; go_simp)) rfl (Ret.of ?_ ?_)
            · rw [HPX.out, hg, if_pos rfl]
            · repeat (first | with_reducible exact hB0 | with_reducible refine B_set ?_ (by first | (simp; done) | (simp; omega)) _ | with_reducible refine B_alloc ?_ _ | with_reducible refine B_ext ?_ _ | with_reducible refine B_drew ?_)
        · have hg : goodB (bs s) ⟨dy, kd, si, lv, rm, co, od⟩ = false := by
            unfold goodB
            rw [beq_eq_false_iff_ne.2 hd]
            rfl
          go_wp2_with (first
            | (go_at_call 9; refine (rCheckEvent_any dy kd si lv rm co od _ (by omega) (by omega)).mono ?_; rintro e wq ⟨rfl, z3, rfl⟩))
          refine bodyPost_ret (v := parseRV none) (results_event rfl _ _ w.heap.size zeroE _ rfl rfl (by simp only [zeroE]; go_simp) (by simp only [zeroE]; go_simp) (by simp only [zeroE]; go_simp) (by simp only [zeroE]; go_simp) (by simp only [zeroE]; go_simp) (by simp only [zeroE]; go_simp) (by simp only [zeroE]; go_simp)) rfl (Ret.of ?_ ?_)
          · rw [HPX.out, hg, if_neg (by decide)]
          · repeat (first | with_reducible exact hB0 | with_reducible refine B_set ?_ (by first | (simp; done) | (simp; omega)) _ | with_reducible refine B_alloc ?_ _ | with_reducible refine B_ext ?_ _ | with_reducible refine B_drew ?_)
end Go.Proofs.YtpohkolapgofdaaGreatDoor
