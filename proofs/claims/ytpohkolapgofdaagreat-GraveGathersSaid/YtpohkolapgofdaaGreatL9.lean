/- Walk of the reference: lots with another one, ascending. -/
import Derived.Test.YtpohkolapgofdaaGreatL8
import Derived.Test.YtpohkolapgofdaaGreatF2
namespace Go.Proofs.YtpohkolapgofdaaGreat
open Go.RowKit
attribute [local go_sem] World.cell?_alloc_mark ext_size ext_cell ext_frozen lt_add_r lt_add_r2 lt_add_r3 lt_add_r4 lt_add_r5 lt_add_r6 lt_add_r7 lt_add_r8
attribute [local go_sem] ext_setCell alloc_setCell_lt

theorem elLot : ElTy Tryz.prog 33 40 6 64 := elTy_of (z := .agg #[.string ⟨#[]⟩, .int .i64 0, .string ⟨#[]⟩, .int .i64 0, .int .i64 0, .int .i64 0]) (by kernel_rfl) (by kernel_rfl) rfl (by decide)
/-- A slice of lots of the call's own comes back. -/
def LotsPost (w : World) (ls : List Lot) (e : Ending) (w' : World) : Prop :=
  ∃ v, e = .returned v ∧ w'.ownsRow w.heap.size 40 6 v ls.length (ls.flatMap Lot.cells) ∧ ∃ z, w' = w.ext z
theorem Sl.drop {α : Type} {w : World} {size : Nat} {cells : α → List Value} {b off : Nat} {xs : List α} (h : Sl w size cells (some ⟨b, off, none⟩) xs) (k : Nat) : Sl w size cells (some ⟨b, off + k * size, none⟩) (xs.drop k) := fun hl => by
  obtain ⟨b', off', hA, hlt, hc⟩ := h (by simp at hl; omega)
  simp only [Option.some.injEq, Addr.mk.injEq, and_true] at hA
  obtain ⟨rfl, rfl⟩ := hA
  refine ⟨b, off + k * size, rfl, hlt, fun j x hx i u hu => ?_⟩
  rw [List.getElem?_drop] at hx
  have := hc _ _ hx i u hu
  rw [show off + k * size + j * size + i = off + (k + j) * size + i by rw [Nat.add_mul]; omega]
  exact this
theorem with_step {l : Lot} {ls : List Lot} {k : Nat} (hk : k < ls.length) (h : rWithP l ls = ls.take k ++ rWithP l (ls.drop k)) (hl : lessS ls[k].remain l.remain = true) : rWithP l ls = ls.take (k + 1) ++ rWithP l (ls.drop (k + 1)) := by
  rw [h, List.drop_eq_getElem_cons hk, rWithP, if_pos hl, List.take_succ_eq_append_getElem hk, List.append_assoc]
  rfl
theorem sl_lot {w : World} {q : Nat} {x : Lot} {t : TypeId} {fr : Nat × Nat} (h : w.heap[q]? = some (.cells #[.string x.remain, .int .i64 x.state, .string x.site, .int .i64 x.level, .int .i64 x.container, .int .i64 x.since] t fr)) : Sl w 6 Lot.cells (some ⟨q, 0, none⟩) [x] :=
  sl_block lot_len h (by simp [Lot.cells])

theorem own_ge {W : World} {base size n : Nat} {e : TypeId} {v : Value} {xs : List Value} (h : W.ownsRow base e size v n xs) : ∀ g, v.ownBlock = some g → base ≤ g := by
  rcases h.2 with ⟨rfl, _⟩ | ⟨g, cap, cur, rfl, hb, _⟩
  · intro g hg; cases hg
  · intro r hr
    have : g = r := by simpa [Value.ownBlock] using hr
    omega
theorem below_own {W0 W w1 : World} {n size k : Nat} {e : TypeId} {v : Value} {xs : List Value} (hB : Below n W0 W) (h : W.ownsRow n e size v k xs) (hg : W.grownBy w1 v.ownBlock) (hn : n ≤ W0.heap.size := by omega) : Below n W0 w1 :=
  hB.grown hg (Nat.le_trans hn hB.size) (fun j hj => own_ge h j hj)
theorem cell_same {n : Nat} {W0 A B : World} {b o : Nat} (hA : Below n W0 A) (hB : Below n W0 B) (hb : b < n) : B.cell? ⟨b, o, none⟩ = A.cell? ⟨b, o, none⟩ := (hB.cell (p := ⟨b, o, none⟩) hb).trans (hA.cell (p := ⟨b, o, none⟩) hb).symm
theorem with_eq {l x : Lot} {ls : List Lot} {k : Nat} (hk : k < ls.length) (hx : ls[k] = x) (h : rWithP l ls = ls.take k ++ rWithP l (ls.drop k)) (hl : lessS x.remain l.remain = false) (he : (x.remain.toList == l.remain.toList) = true) :
    rWithP l ls = (ls.take k ++ [l]) ++ ls.drop (k + 1) := by
  subst hx
  rw [h, List.drop_eq_getElem_cons hk, rWithP, if_neg (by rw [hl]; exact Bool.false_ne_true), if_pos he, List.append_assoc]
  rfl
theorem with_ne {l x : Lot} {ls : List Lot} {k : Nat} (hk : k < ls.length) (hx : ls[k] = x) (h : rWithP l ls = ls.take k ++ rWithP l (ls.drop k)) (hl : lessS x.remain l.remain = false) (he : (x.remain.toList == l.remain.toList) = false) :
    rWithP l ls = (ls.take k ++ [l]) ++ ls.drop k := by
  subst hx
  rw [h, List.append_assoc]
  congr 1
  conv => lhs; rw [List.drop_eq_getElem_cons hk, rWithP, if_neg (by rw [hl]; exact Bool.false_ne_true), if_neg (by rw [he]; exact Bool.false_ne_true)]
  rw [List.drop_eq_getElem_cons hk]
  rfl
theorem with_end {l : Lot} {ls : List Lot} {k : Nat} (hk : ls.length ≤ k) (h : rWithP l ls = ls.take k ++ rWithP l (ls.drop k)) : rWithP l ls = (ls.take k ++ [l]) ++ [] := by
  rw [h, List.drop_eq_nil_of_le hk, rWithP, List.append_nil]
theorem lots_done {w w2 : World} {n : Nat} {v : Value} {ls us bs : List Lot} {k : Nat} (hw : w.heap.size ≤ n) (h : w2.ownsRow n 40 6 v k (us.flatMap Lot.cells ++ bs.flatMap Lot.cells)) (hk : k = us.length + bs.length) (hls : ls = us ++ bs) (hB : Below w.heap.size w w2) : LotsPost w ls (.returned v) w2 := by
  subst hls hk
  refine ⟨v, rfl, ?_, ext_below hB⟩
  rw [List.length_append, List.flatMap_append]
  exact own_mono' h hw
set_option maxRecDepth 100000 in
set_option maxHeartbeats 2000000 in
theorem rWith_any (ls : List Lot) (L : Option Addr) (ln lc : Nat) (rm : ByteArray) (sta : Int) (si : ByteArray) (lv co sc : Int) (w : World) (hl : LotsIn w ls L ln) (hcap : ls.length ≤ lc) (hl2 : ls.length ≤ 10000) :
    Calls Tryz.prog 92 #[.slice L ln lc, .agg #[.string rm, .int .i64 sta, .string si, .int .i64 lv, .int .i64 co, .int .i64 sc]] w (LotsPost w (rWithP ⟨rm, sta, si, lv, co, sc⟩ ls)) := by
  have hln := hl.hn
  subst hln
  go_enter Tryz.func92, Tryz.ntmps92
  go_wp2_with fail
  obtain ⟨W0, hW0⟩ : ∃ W0, W0 = w.alloc (.cells #[.string rm, .int .i64 sta, .string si, .int .i64 lv, .int .i64 co, .int .i64 sc] 40) := ⟨_, rfl⟩
  rw [← hW0]
  have hB : Below w.heap.size w W0 := by rw [hW0]; repeat (first | exact B_refl | exact Below.refl _ _ | assumption | with_reducible refine B_alloc ?_ _ | with_reducible refine B_ext ?_ _ | with_reducible refine B_drew ?_ | with_reducible refine B_drewN ?_ _ | with_reducible refine B_set ?_ (by simp; omega) _)
  have hblk : W0.heap[w.heap.size]? = some (.cells #[.string rm, .int .i64 sta, .string si, .int .i64 lv, .int .i64 co, .int .i64 sc] 40) := by rw [hW0]; exact heap_alloc_new _ _
  have hz : W0.heap.size = w.heap.size + 1 := by rw [hW0]; simp
  generalize hn₀ : w.heap.size = n₀ at *
  clear hW0
  go_loopw [5, 6] (fun v i wr => ∃ k : Nat, k ≤ ls.length ∧ i = .int .i64 k ∧ (rWithP ⟨rm, sta, si, lv, co, sc⟩ ls = ls.take k ++ rWithP ⟨rm, sta, si, lv, co, sc⟩ (ls.drop k)) ∧ wr.ownsRow (n₀ + 1) 40 6 v k ((ls.take k).flatMap Lot.cells) ∧ Below (n₀ + 1) W0 wr) (fun _ i _ => ls.length - (intOf i).toNat)
  case atStart => exact ⟨0, Nat.zero_le _, rfl, rfl, World.ownsRow_nil _ _ _ _, Below.refl _ _⟩
  case round =>
    obtain ⟨k, hk, rfl, hf, hown, hBr⟩ := hrel
    have g0 : wr.cell? ⟨n₀, 0, none⟩ = some (.string rm) := by have := (hBr.block n₀ (by omega)).trans hblk; simp [World.cell?, this]
    have g1 : wr.cell? ⟨n₀, 1, none⟩ = some (.int .i64 sta) := by have := (hBr.block n₀ (by omega)).trans hblk; simp [World.cell?, this]
    have g2 : wr.cell? ⟨n₀, 2, none⟩ = some (.string si) := by have := (hBr.block n₀ (by omega)).trans hblk; simp [World.cell?, this]
    have g3 : wr.cell? ⟨n₀, 3, none⟩ = some (.int .i64 lv) := by have := (hBr.block n₀ (by omega)).trans hblk; simp [World.cell?, this]
    have g4 : wr.cell? ⟨n₀, 4, none⟩ = some (.int .i64 co) := by have := (hBr.block n₀ (by omega)).trans hblk; simp [World.cell?, this]
    have g5 : wr.cell? ⟨n₀, 5, none⟩ = some (.int .i64 sc) := by have := (hBr.block n₀ (by omega)).trans hblk; simp [World.cell?, this]
    have hwr : n₀ + 1 ≤ wr.heap.size := by have := hBr.size; omega
    by_cases hlt : k < ls.length
    · obtain ⟨b, off, rfl, hb, hc0⟩ := (hl.sl).at hlt
      have hc : ∀ j u, (ls[k].cells)[j]? = some u → wr.cell? ⟨b, off + k * 6 + j, none⟩ = some u := fun j u hu => by
        have h1 := (hB.trans (hBr.mono (by omega))).cell (p := ⟨b, off + k * 6 + j, none⟩) (by rw [← hn₀]; exact hb)
        exact h1.trans (hc0 j u hu)
      have x0 : wr.cell? ⟨b, off + k * 6, none⟩ = some (.string ls[k].remain) := hc 0 _ rfl
      have x1 : wr.cell? ⟨b, off + k * 6 + 1, none⟩ = some (.int .i64 ls[k].state) := hc 1 _ rfl
      have x2 : wr.cell? ⟨b, off + k * 6 + 2, none⟩ = some (.string ls[k].site) := hc 2 _ rfl
      have x3 : wr.cell? ⟨b, off + k * 6 + 3, none⟩ = some (.int .i64 ls[k].level) := hc 3 _ rfl
      have x4 : wr.cell? ⟨b, off + k * 6 + 4, none⟩ = some (.int .i64 ls[k].container) := hc 4 _ rfl
      have x5 : wr.cell? ⟨b, off + k * 6 + 5, none⟩ = some (.int .i64 ls[k].since) := hc 5 _ rfl
      have hlt2 : (k : Int) < (ls.length : Int) := by omega
      have hk0 : (0 : Int) ≤ (k : Int) := by omega
      have hbr : b < wr.heap.size := by omega
      have hnr : n₀ < wr.heap.size := by omega
      have HW := Lib.hid (show lessS ls[k].remain rm = true → _ from with_step hlt hf)
      have HT := Lib.hid (List.take_succ_eq_append_getElem hlt)
      clear hc hc0
      cases hls : Op.bytesLess ls[k].remain.toList rm.toList
      · have HF := Lib.hid hf
        clear hf
        generalize hx : ls[k] = x at *
        obtain ⟨a0, a1, a2, a3, a4, a5⟩ := x
        dsimp only at x0 x1 x2 x3 x4 x5 hls HW HT
        go_wp2_with fail
        (refine wp_region_ext_lit (by kernel_rfl) (by kernel_rfl) ?_
         repeat (first | go_big_quiet_skip | (go_big_quiet_want; go_big_quiet_op; first | go_big_quiet_on | (apply Exists.intro; refine ⟨fun _ => ?_, ?_⟩; (fail); go_big_quiet_on)))
         refine wpQuiet_nil ?_
         rintro _ ⟨zq, rfl⟩)
        go_wp2_with (at_builtin; refine wpList_append_sl rfl _ _ rfl elLot lot_len lot_one (base := n₀ + 1) (n := k) (m := 1) (v := u5) rfl ((own_ext hown _).alloc _) rfl (ys := [⟨rm, sta, si, lv, co, sc⟩]) rfl (sl_lot (t := 40) (fr := (0, 0)) (x := ⟨rm, sta, si, lv, co, sc⟩) (G_new _ _ _ (by simp [ext_size]))) (by simp [maxLen]; omega) (by omega) (by simp [ext_size]; omega) ?_; intro v' w1 h1 h2 h3)
        have hown2 : w1.ownsRow (n₀ + 1) 40 6 v' (k + 1) ((ls.take k ++ [(⟨rm, sta, si, lv, co, sc⟩ : Lot)]).flatMap Lot.cells) := by simpa using h1
        have hB2 : Below (n₀ + 1) W0 w1 := below_own (B_alloc (B_ext hBr _) _) ((own_ext hown _).alloc _) h2
        have y0 := (cell_same (o := off + k * 6) hBr hB2 (b := b) (by omega)).trans x0
        have p0 := (cell_same (o := 0) hBr hB2 (b := n₀) (by omega)).trans g0
        have hbr1 : b < w1.heap.size := by have := hB2.size; omega
        have hnr1 : n₀ < w1.heap.size := by have := hB2.size; omega
        clear h1 h2 h3 x0 x1 x2 x3 x4 x5 g0 g1 g2 g3 g4 g5 hbr hnr hown
        cases heq : (a0.toList == rm.toList)
        · go_wp2_with fail
          (refine wp_region_ext_lit (by kernel_rfl) (by kernel_rfl) ?_
           repeat (first | go_big_quiet_skip | (go_big_quiet_want; go_big_quiet_op; first | go_big_quiet_on | (apply Exists.intro; refine ⟨fun _ => ?_, ?_⟩; (fail); go_big_quiet_on)))
           refine wpQuiet_nil ?_
           rintro _ ⟨zq, rfl⟩)
          go_wp2_with (at_builtin; refine wpList_append_sl rfl _ _ rfl elLot lot_len lot_one (base := n₀ + 1) (n := k + 1) (v := v') rfl (own_ext hown2 _) rfl (ys := ls.drop k) (by simp) (((hl.sl.keep (n := n₀) (by exact B_ext (hB.trans (hB2.mono (by omega))) _)).drop k)) (by simp [maxLen]; omega) (by omega) (by have := hB2.size; simp [ext_size]; omega) ?_; intro v2 w2 h1 h2 h3)
          have hB3 : Below (n₀ + 1) W0 w2 := below_own (B_ext hB2 _) (own_ext hown2 _) h2
          clear h2 h3
          go_wp2_with fail
          go_ret
          first
            | exact lots_done (by omega) h1 (by simp; omega) (with_ne hlt hx HF.out hls heq) (by rw [hn₀]; exact hB.trans (hB3.mono (by omega)))
            | exact lots_done (by omega) h1 (by have := HKL.out; simp; omega) (with_ne hlt hx HF.out hls heq) (by rw [hn₀]; exact hB.trans (hB3.mono (by omega)))
        · by_cases hkc : k + 1 = lc
          · subst hkc
            have HKL := Lib.hid (show ls.length = k + 1 by omega)
            clear hcap
            go_wp2_with fail
            (refine wp_region_ext_lit (by kernel_rfl) (by kernel_rfl) ?_
             repeat (first | go_big_quiet_skip | (go_big_quiet_want; go_big_quiet_op; first | go_big_quiet_on | (apply Exists.intro; refine ⟨fun _ => ?_, ?_⟩; (fail); go_big_quiet_on)))
             refine wpQuiet_nil ?_
             rintro _ ⟨zq, rfl⟩)
            go_wp2_with (at_builtin; refine wpList_append_sl rfl _ _ rfl elLot lot_len lot_one (base := n₀ + 1) (n := k + 1) (v := v') rfl (own_ext hown2 _) rfl (ys := ([] : List Lot)) (by have := HKL.out; simp; omega) (Sl.nil) (by simp [maxLen]; omega) (by omega) (by have := hB2.size; simp [ext_size]; omega) ?_; intro v2 w2 h1 h2 h3)
            have hB3 : Below (n₀ + 1) W0 w2 := below_own (B_ext hB2 _) (own_ext hown2 _) h2
            clear h2 h3
            go_wp2_with fail
            go_ret
            first
              | exact lots_done (by omega) h1 (by simp; omega) (by have := HKL.out; rw [with_eq hlt hx HF.out hls heq, List.drop_eq_nil_of_le (by omega)]) (by rw [hn₀]; exact hB.trans (hB3.mono (by omega)))
              | exact lots_done (by omega) h1 (by have := HKL.out; simp; omega) (by have := HKL.out; rw [with_eq hlt hx HF.out hls heq, List.drop_eq_nil_of_le (by omega)]) (by rw [hn₀]; exact hB.trans (hB3.mono (by omega)))
          · go_wp2_with fail
            (refine wp_region_ext_lit (by kernel_rfl) (by kernel_rfl) ?_
             repeat (first | go_big_quiet_skip | (go_big_quiet_want; go_big_quiet_op; first | go_big_quiet_on | (apply Exists.intro; refine ⟨fun _ => ?_, ?_⟩; (fail); go_big_quiet_on)))
             refine wpQuiet_nil ?_
             rintro _ ⟨zq, rfl⟩)
            go_wp2_with (at_builtin; refine wpList_append_sl rfl _ _ rfl elLot lot_len lot_one (base := n₀ + 1) (n := k + 1) (v := v') rfl (own_ext hown2 _) rfl (ys := ls.drop (k + 1)) (by simp) (((hl.sl.keep (n := n₀) (by exact B_ext (hB.trans (hB2.mono (by omega))) _)).drop (k + 1))) (by simp [maxLen]; omega) (by omega) (by have := hB2.size; simp [ext_size]; omega) ?_; intro v2 w2 h1 h2 h3)
            have hB3 : Below (n₀ + 1) W0 w2 := below_own (B_ext hB2 _) (own_ext hown2 _) h2
            clear h2 h3
            go_wp2_with fail
            go_ret
            first
              | exact lots_done (by omega) h1 (by simp; omega) (with_eq hlt hx HF.out hls heq) (by rw [hn₀]; exact hB.trans (hB3.mono (by omega)))
              | exact lots_done (by omega) h1 (by have := HKL.out; simp; omega) (with_eq hlt hx HF.out hls heq) (by rw [hn₀]; exact hB.trans (hB3.mono (by omega)))
      · have HF := Lib.hid hf
        clear hf
        generalize hx : ls[k] = x at *
        obtain ⟨a0, a1, a2, a3, a4, a5⟩ := x
        dsimp only at x0 x1 x2 x3 x4 x5 hls HW HT
        go_wp2_with fail
        (refine wp_region_ext_lit (by kernel_rfl) (by kernel_rfl) ?_
         repeat (first | go_big_quiet_skip | (go_big_quiet_want; go_big_quiet_op; first | go_big_quiet_on | (apply Exists.intro; refine ⟨fun _ => ?_, ?_⟩; (fail); go_big_quiet_on)))
         refine wpQuiet_nil ?_
         rintro _ ⟨zq, rfl⟩)
        go_wp2_with (at_builtin; refine wpList_append_sl rfl _ _ rfl elLot lot_len lot_one (base := n₀ + 1) (n := k) (m := 1) (v := u5) rfl ((own_ext hown _).alloc _) rfl (ys := [⟨a0, a1, a2, a3, a4, a5⟩]) rfl (sl_lot (t := 40) (fr := (0, 0)) (x := ⟨a0, a1, a2, a3, a4, a5⟩) (G_new _ _ _ (by simp [ext_size]))) (by simp [maxLen]; omega) (by omega) (by simp [ext_size]; omega) ?_; intro v' w1 h1 h2 h3)
        have hown2 : w1.ownsRow (n₀ + 1) 40 6 v' (k + 1) ((ls.take (k + 1)).flatMap Lot.cells) := by rw [HT.out]; simpa using h1
        have hB2 : Below (n₀ + 1) W0 w1 := below_own (B_alloc (B_ext hBr _) _) ((own_ext hown _).alloc _) h2
        clear h1 h2 h3
        go_wp2_with fail
        go_roundw
        case rel => exact ⟨k + 1, by omega, by go_num, HW.out hls, hown2, hB2⟩
        case measure => simp [intOf]; omega
    · have hnl : decide ((k : Int) < (ls.length : Int)) = false := by simp; omega
      have HF := Lib.hid hf
      have hkl : k = ls.length := by omega
      have hnr : n₀ < wr.heap.size := by omega
      clear hf
      go_wp2_with fail
      (refine wp_region_ext_lit (by kernel_rfl) (by kernel_rfl) ?_
       repeat (first | go_big_quiet_skip | (go_big_quiet_want; go_big_quiet_op; first | go_big_quiet_on | (apply Exists.intro; refine ⟨fun _ => ?_, ?_⟩; (fail); go_big_quiet_on)))
       refine wpQuiet_nil ?_
       rintro _ ⟨zq, rfl⟩)
      go_wp2_with (at_builtin; refine wpList_append_sl rfl _ _ rfl elLot lot_len lot_one (base := n₀ + 1) (n := k) (m := 1) (v := u5) rfl ((own_ext hown _).alloc _) rfl (ys := [⟨rm, sta, si, lv, co, sc⟩]) rfl (sl_lot (t := 40) (fr := (0, 0)) (x := ⟨rm, sta, si, lv, co, sc⟩) (G_new _ _ _ (by simp [ext_size]))) (by simp [maxLen]; omega) (by omega) (by simp [ext_size]; omega) ?_; intro v' w1 h1 h2 h3)
      have hown2 : w1.ownsRow (n₀ + 1) 40 6 v' (k + 1) ((ls.take k ++ [(⟨rm, sta, si, lv, co, sc⟩ : Lot)]).flatMap Lot.cells) := by simpa using h1
      have hB2 : Below (n₀ + 1) W0 w1 := below_own (B_alloc (B_ext hBr _) _) ((own_ext hown _).alloc _) h2
      clear h1 h2 h3 g0 g1 g2 g3 g4 g5 hnr hown
      cases L with
      | none =>
        have HL0 := Lib.hid (show ls.length = 0 by
          cases hq : ls with
          | nil => rfl
          | cons y ys => obtain ⟨b, off, h, _⟩ := hl.sl (by rw [hq]; simp); cases h)
        go_wp2_with fail
        (refine wp_region_ext_lit (by kernel_rfl) (by kernel_rfl) ?_
         repeat (first | go_big_quiet_skip | (go_big_quiet_want; go_big_quiet_op; first | go_big_quiet_on | (apply Exists.intro; refine ⟨fun _ => ?_, ?_⟩; (fail); go_big_quiet_on)))
         refine wpQuiet_nil ?_
         rintro _ ⟨zq, rfl⟩)
        go_wp2_with (at_builtin; refine wpList_append_sl rfl _ _ rfl elLot lot_len lot_one (base := n₀ + 1) (n := k + 1) (v := v') rfl (own_ext hown2 _) rfl (ys := ([] : List Lot)) (by simp) (Sl.nil) (by simp [maxLen]; omega) (by omega) (by have := hB2.size; simp [ext_size]; omega) ?_; intro v2 w2 h1 h2 h3)
        have hB3 : Below (n₀ + 1) W0 w2 := below_own (B_ext hB2 _) (own_ext hown2 _) h2
        clear h2 h3
        go_wp2_with fail
        go_ret
        first
          | exact lots_done (by omega) h1 (by simp; omega) (with_end (by omega) HF.out) (by rw [hn₀]; exact hB.trans (hB3.mono (by omega)))
          | exact lots_done (by omega) h1 (by have := HKL.out; simp; omega) (with_end (by omega) HF.out) (by rw [hn₀]; exact hB.trans (hB3.mono (by omega)))
      | some ad =>
        obtain ⟨b, off, pth⟩ := ad
        by_cases hkc : ls.length = lc
        · subst hkc
          go_wp2_with fail
          (refine wp_region_ext_lit (by kernel_rfl) (by kernel_rfl) ?_
           repeat (first | go_big_quiet_skip | (go_big_quiet_want; go_big_quiet_op; first | go_big_quiet_on | (apply Exists.intro; refine ⟨fun _ => ?_, ?_⟩; (fail); go_big_quiet_on)))
           refine wpQuiet_nil ?_
           rintro _ ⟨zq, rfl⟩)
          go_wp2_with (at_builtin; refine wpList_append_sl rfl _ _ rfl elLot lot_len lot_one (base := n₀ + 1) (n := k + 1) (v := v') rfl (own_ext hown2 _) rfl (ys := ([] : List Lot)) (by simp) (Sl.nil) (by simp [maxLen]; omega) (by omega) (by have := hB2.size; simp [ext_size]; omega) ?_; intro v2 w2 h1 h2 h3)
          have hB3 : Below (n₀ + 1) W0 w2 := below_own (B_ext hB2 _) (own_ext hown2 _) h2
          clear h2 h3
          go_wp2_with fail
          go_ret
          first
            | exact lots_done (by omega) h1 (by simp; omega) (with_end (by omega) HF.out) (by rw [hn₀]; exact hB.trans (hB3.mono (by omega)))
            | exact lots_done (by omega) h1 (by have := HKL.out; simp; omega) (with_end (by omega) HF.out) (by rw [hn₀]; exact hB.trans (hB3.mono (by omega)))
        · go_wp2_with fail
          (refine wp_region_ext_lit (by kernel_rfl) (by kernel_rfl) ?_
           repeat (first | go_big_quiet_skip | (go_big_quiet_want; go_big_quiet_op; first | go_big_quiet_on | (apply Exists.intro; refine ⟨fun _ => ?_, ?_⟩; (fail); go_big_quiet_on)))
           refine wpQuiet_nil ?_
           rintro _ ⟨zq, rfl⟩)
          go_wp2_with (at_builtin; refine wpList_append_sl rfl _ _ rfl elLot lot_len lot_one (base := n₀ + 1) (n := k + 1) (v := v') rfl (own_ext hown2 _) rfl (ys := ([] : List Lot)) (by simp) (Sl.nil) (by simp [maxLen]; omega) (by omega) (by have := hB2.size; simp [ext_size]; omega) ?_; intro v2 w2 h1 h2 h3)
          have hB3 : Below (n₀ + 1) W0 w2 := below_own (B_ext hB2 _) (own_ext hown2 _) h2
          clear h2 h3
          go_wp2_with fail
          go_ret
          first
            | exact lots_done (by omega) h1 (by simp; omega) (with_end (by omega) HF.out) (by rw [hn₀]; exact hB.trans (hB3.mono (by omega)))
            | exact lots_done (by omega) h1 (by have := HKL.out; simp; omega) (with_end (by omega) HF.out) (by rw [hn₀]; exact hB.trans (hB3.mono (by omega)))
end Go.Proofs.YtpohkolapgofdaaGreat
