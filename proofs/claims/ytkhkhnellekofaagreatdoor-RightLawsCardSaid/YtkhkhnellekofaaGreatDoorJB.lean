/- Walks of chapter 2's dates: the day so many months later. -/
import Derived.Test.YtkhkhnellekofaaGreatDoorJ6
import Derived.Test.YtkhkhnellekofaaGreatDoorJL
set_option linter.unusedSimpArgs false
set_option linter.unusedVariables false
namespace Go.Proofs.YtkhkhnellekofaaGreatDoor
open Go.RowKit Go.Shelf
attribute [local go_sem] World.cell?_alloc_mark ext_size ext_cell ext_frozen lt_add_r lt_add_r2 lt_add_r3 lt_add_r4 lt_add_r5 lt_add_r6 lt_add_r7 lt_add_r8
attribute [local go_sem] ext_setCell alloc_setCell_lt

def lens12 : List Int := [31, 28, 31, 30, 31, 30, 31, 31, 30, 31, 30, 31]
def LensIn (w : World) : Prop := 0 < w.heap.size ∧ ∀ (k : Nat) (n : Int), lens12[k]? = some n → w.cell? ⟨0, k, none⟩ = some (.int .i64 n)
theorem LensIn.keep {w W : World} {n : Nat} (h : LensIn w) (hB : Below n w W) (hn : w.heap.size ≤ n := by first | exact Nat.le_refl _ | omega) : LensIn W :=
 ⟨Nat.lt_of_lt_of_le h.1 hB.size, fun k x hx => (hB.cell (p := ⟨0, _, none⟩) (Nat.lt_of_lt_of_le h.1 hn)).trans (h.2 k x hx)⟩
set_option maxRecDepth 100000 in
set_option maxHeartbeats 2000000 in
theorem rwithin_any (n lo hi : Int) (w : World) : Calls Tryz.prog 60 #[.int .i64 n, .int .i64 lo, .int .i64 hi] w (Ret0 w (.bool (inR n lo hi))) := by
 go_enter Tryz.func60, Tryz.ntmps60
 go_wp2_with fail
 all_goals go_ret
 all_goals exact ⟨by first | (simp_all [inR]; done) | (simp_all [inR]; omega), rfl⟩
set_option maxRecDepth 100000 in
set_option maxHeartbeats 2000000 in
theorem risDay_any (n : Int) (w : World) : Calls Tryz.prog 59 #[.int .i64 n] w (Ret0 w (.bool (isDayP n))) := by
 go_enter Tryz.func59, Tryz.ntmps59
 go_wp2_with (go_at_call 60; refine (rwithin_any _ _ _ _).mono ?_; rintro e wq ⟨rfl, rfl⟩)
 go_ret
 exact ⟨rfl, rfl⟩
set_option maxRecDepth 100000 in
set_option maxHeartbeats 2000000 in
theorem isLeap_any (y : Int) (w : World) (h0 : 0 ≤ y) (h1 : y ≤ 100000) : Calls Tryz.prog 111 #[.int .i64 y] w (Ret0 w (.bool (leapP y))) := by
 rw [← leapQ_eq h0]
 have w1 : wrap64 (y.tmod 4) = y.tmod 4 := by rw [Int.tmod_eq_emod_of_nonneg h0]; unfold wrap64; omega
 have w2 : wrap64 (y.tmod 100) = y.tmod 100 := by rw [Int.tmod_eq_emod_of_nonneg h0]; unfold wrap64; omega
 have w3 : wrap64 (y.tmod 400) = y.tmod 400 := by rw [Int.tmod_eq_emod_of_nonneg h0]; unfold wrap64; omega
 have v1 : IntKind.i64.wrap (y.tmod 4) = y.tmod 4 := by rw [IntKind.wrap_i64]; rw [Int.tmod_eq_emod_of_nonneg h0]; omega
 have v2 : IntKind.i64.wrap (y.tmod 100) = y.tmod 100 := by rw [IntKind.wrap_i64]; rw [Int.tmod_eq_emod_of_nonneg h0]; omega
 have v3 : IntKind.i64.wrap (y.tmod 400) = y.tmod 400 := by rw [IntKind.wrap_i64]; rw [Int.tmod_eq_emod_of_nonneg h0]; omega
 go_enter Tryz.func111, Tryz.ntmps111
 go_wp2_with fail
 all_goals go_ret
 all_goals exact ⟨by simp [leapQ, Int.tmod_eq_emod_of_nonneg h0, *], rfl⟩
set_option maxRecDepth 100000 in
set_option maxHeartbeats 2000000 in
theorem length_any (y : Int) (m : Nat) (w : World) (hL : LensIn w) (h0 : 0 ≤ y) (h1 : y ≤ 100000) (hm1 : 1 ≤ m) (hm2 : m ≤ 12) : Calls Tryz.prog 93 #[.int .i64 y, .int .i64 m] w (Ret0 w (.int .i64 (monthDaysP y m))) := by
 have hd := days_get y hm1 hm2
 have hlt : m - 1 < lens12.length := by simp [lens12]; omega
 have hc := hL.2 (m - 1) _ (List.getElem?_eq_getElem hlt)
 have hg : lens12.getD (m - 1) 0 = lens12[m - 1] := by rw [List.getD_eq_getElem?_getD, List.getElem?_eq_getElem hlt]; rfl
 have hg2 : [31, 28, 31, 30, 31, 30, 31, 31, 30, 31, 30, 31].getD (m - 1) 0 = lens12[m - 1] := hg
 rw [hg2] at hd
 generalize lens12[m - 1] = len at hc hd
 have hw : IntKind.i64.wrap ((m : Int) - 1) = (m : Int) - 1 := IntWalk.i64_in _ (by omega)
 have hn0 : (0 : Int) ≤ (m : Int) - 1 := by omega
 have hn1 : (m : Int) - 1 < 12 := by omega
 have htn : ((m : Int) - 1).toNat = m - 1 := by omega
 have HD := Lib.hid hd
 clear hd hg hg2 hL hlt
 by_cases h2 : m = 2
 · subst h2
   cases hl : leapP y
   · go_enter Tryz.func93, Tryz.ntmps93
     go_wp2_with (go_at_call 111; refine (isLeap_any _ _ h0 h1).mono ?_; rintro e wq ⟨rfl, rfl⟩; rw [hl])
     all_goals go_ret
     all_goals exact ⟨by rw [HD.out, hl]; rfl, rfl⟩
   · go_enter Tryz.func93, Tryz.ntmps93
     go_wp2_with (go_at_call 111; refine (isLeap_any _ _ h0 h1).mono ?_; rintro e wq ⟨rfl, rfl⟩; rw [hl])
     all_goals go_ret
     all_goals exact ⟨by rw [HD.out, hl]; rfl, rfl⟩
 · have hb : ((m : Int) == 2) = false := by rw [beq_eq_false_iff_ne]; omega
   have hb2 : ¬ (m : Int) = 2 := by omega
   go_enter Tryz.func93, Tryz.ntmps93
   go_wp2_with fail
   go_ret
   exact ⟨by rw [HD.out, hb]; simp, rfl⟩
set_option maxRecDepth 100000 in
set_option maxHeartbeats 2000000 in
theorem begin_any (y : Int) (w : World) (h0 : 1800 ≤ y) (h1 : y ≤ 100000) : Calls Tryz.prog 110 #[.int .i64 y] w (Ret0 w (.int .i64 (begP y))) := by
 have hp : 0 ≤ y - 1 := by omega
 have e1 : (y - 1).tdiv 4 = (y - 1) / 4 := Int.tdiv_eq_ediv_of_nonneg hp
 have e2 : (y - 1).tdiv 100 = (y - 1) / 100 := Int.tdiv_eq_ediv_of_nonneg hp
 have e3 : (y - 1).tdiv 400 = (y - 1) / 400 := Int.tdiv_eq_ediv_of_nonneg hp
 have hv : begP y = 365 * (y - 1800) + (y - 1) / 4 - (y - 1) / 100 + (y - 1) / 400 - 436 := by unfold begP; rw [leaps_div hp]; omega
 have HV := Lib.hid hv
 clear hv
 have k0 : IntKind.i64.wrap (y - 1) = y - 1 := IntWalk.i64_in _ (by omega)
 have k1 : IntKind.i64.wrap (y - 1800) = y - 1800 := IntWalk.i64_in _ (by omega)
 have k2 : IntKind.i64.wrap (365 * (y - 1800)) = 365 * (y - 1800) := IntWalk.i64_in _ (by omega)
 go_enter Tryz.func110, Tryz.ntmps110
 go_wp2_with fail
 go_ret
 refine ⟨congrArg Ending.returned (int_eq ?_), rfl⟩
 rw [HV.out]
theorem first_bounds {y : Int} {m : Nat} (h0 : 1800 ≤ y) (h1 : y ≤ 2500) (hm1 : 1 ≤ m) (hm2 : m ≤ 13) : 0 ≤ firstP y m ∧ firstP y m ≤ 1000000 := by
 have hb : begP y = 365 * (y - 1800) + (y - 1) / 4 - (y - 1) / 100 + (y - 1) / 400 - 436 := by unfold begP; rw [leaps_div (by omega)]; omega
 have h : ∀ k : Nat, k ≤ 12 → begP y ≤ firstP y (k + 1) ∧ firstP y (k + 1) ≤ begP y + 31 * k := fun k => by
  induction k with
  | zero => intro _; rw [first_one]; omega
  | succ k ih =>
   intro hk
   have := ih (by omega)
   have h2 := first_up y (show 1 ≤ k + 1 by omega)
   have h3 := days_pos y (show 1 ≤ k + 1 by omega) (show k + 1 ≤ 12 by omega)
   omega
 obtain ⟨k, rfl⟩ : ∃ k, m = k + 1 := ⟨m - 1, by omega⟩
 have := h k (by omega)
 omega
set_option maxRecDepth 100000 in
set_option maxHeartbeats 2000000 in
theorem dayOf_any (y : Int) (m : Nat) (d : Int) (w : World) (hL : LensIn w) (h0 : 1800 ≤ y) (h1 : y ≤ 2500) (hm1 : 1 ≤ m) (hm2 : m ≤ 12) (hd1 : 0 ≤ d) (hd2 : d ≤ 1000) :
    Calls Tryz.prog 92 #[.int .i64 y, .int .i64 m, .int .i64 d] w (Ret0 w (.int .i64 (firstP y m + d - 1))) := by
 have hbb := first_bounds (m := 1) h0 h1 (by omega) (by omega)
 rw [first_one] at hbb
 have k0 : IntKind.i64.wrap (begP y + d) = begP y + d := IntWalk.i64_in _ (by omega)
 have k1 : IntKind.i64.wrap (begP y + d - 1) = begP y + d - 1 := IntWalk.i64_in _ (by omega)
 go_enter Tryz.func92, Tryz.ntmps92
 go_wp2_with (go_at_call 110; refine (begin_any _ _ h0 (by omega)).mono ?_; rintro e wq ⟨rfl, rfl⟩)
 go_loop [7, 8] (fun n i => ∃ k : Nat, 1 ≤ k ∧ k ≤ m ∧ i = .int .i64 k ∧ n = .int .i64 (firstP y k + d - 1)) (fun _ i => m - (intOf i).toNat)
 case atStart => exact ⟨1, by omega, hm1, rfl, by rw [first_one]⟩
 case round =>
  obtain ⟨k, hk1, hk2, rfl, rfl⟩ := hrel
  by_cases hlt : k < m
  · have hb := first_bounds (m := k) h0 h1 hk1 (by omega)
    have hdp := days_pos y hk1 (show k ≤ 12 by omega)
    have hu := first_up y hk1
    have HU := Lib.hid hu
    have k2 : IntKind.i64.wrap (firstP y k + d - 1 + monthDaysP y k) = firstP y k + d - 1 + monthDaysP y k := IntWalk.i64_in _ (by omega)
    have hlt2 : (k : Int) < (m : Int) := by omega
    clear hu
    go_wp2_with (go_at_call 93; refine (length_any y k _ hL (by omega) (by omega) hk1 (by omega)).mono ?_; rintro e wq ⟨rfl, rfl⟩)
    go_round
    case rel => exact ⟨k + 1, by omega, by omega, by go_num, by rw [HU.out]; exact int_eq (by omega)⟩
    case measure => simp [intOf]; omega
  · obtain rfl : k = m := by omega
    have hlt2 : ¬ (k : Int) < (k : Int) := by omega
    go_wp2_with fail
    go_ret
    exact ⟨rfl, rfl⟩
def dateV (y m d : Int) : Value := .agg #[.int .i64 y, .int .i64 m, .int .i64 d]
theorem results_date {fn : Func} {p : Tmp} (h : fn.results = #[.cell p 120]) (tmps : Array Value) (w : World) (B : Nat) (x y z : Int) (hp : tmps.getD p undef = .pointer (some ⟨B, 0, none⟩))
    (h0 : w.cell? ⟨B, 0, none⟩ = some (.int .i64 x)) (h1 : w.cell? ⟨B, 1, none⟩ = some (.int .i64 y)) (h2 : w.cell? ⟨B, 2, none⟩ = some (.int .i64 z)) : (results fn tmps).run Tryz.prog w = .ok (dateV x y z) w := by
 rw [results_c1 h, hp]
 unfold dateV
 go_simp
theorem J_set3 {w : World} {g : Nat} {z0 z1 z2 a b c : Value} {t : TypeId} {fr : Nat × Nat} (h : w.heap[g]? = some (.cells #[z0, z1, z2] t fr)) : (((w.setCell ⟨g, 0, none⟩ a).setCell ⟨g, 1, none⟩ b).setCell ⟨g, 2, none⟩ c).heap[g]? = some (.cells #[a, b, c] t fr) := by
 have := Joins.block_setCell (i := 2) (Joins.block_setCell (i := 1) (Joins.block_setCell (i := 0) h a) b) c
 simpa using this
set_option maxRecDepth 100000 in
set_option maxHeartbeats 2000000 in
theorem dateOf_any (day : Int) (w : World) (hL : LensIn w) (h0 : 0 ≤ day) (h1 : day ≤ 200000) :
    Calls Tryz.prog 91 #[.int .i64 day] w (fun e w' => DateIs day (yearP day) (monthP day) ∧ Ret w (dateV (yearP day) (monthP day) (day - firstP (yearP day) (monthP day) + 1)) e w') := by
 have hlow := beg_low h0 h1
 have hhigh := beg_high h0 h1
 have hdv : day.tdiv 366 = day / 366 := Int.tdiv_eq_ediv_of_nonneg h0
 have hq0 : 0 ≤ day / 366 := by omega
 have hq1 : day / 366 ≤ 546 := by omega
 rw [hdv] at hlow hhigh
 have hyp : yearP day = yearGo day 10 (1800 + day / 366) := by unfold yearP; rw [hdv]
 have HY := Lib.hid hyp
 have HH := Lib.hid hhigh
 clear hyp hhigh
 go_enter Tryz.func91, Tryz.ntmps91
 go_wp2_with fail
 go_loopg [] 10 (fun gg wr => ∃ (f : Nat) (y : Int), f ≤ gg ∧ y + f = 1800 + day / 366 + 10 ∧ 1800 ≤ y ∧ y ≤ 2400 ∧ Hid (yearP day = yearGo day f y) ∧ Hid (begP y ≤ day) ∧ Below w.heap.size w wr ∧ wr.heap[w.heap.size]? = some (.cells #[.int .i64 0, .int .i64 0, .int .i64 0] 120) ∧ wr.heap[w.heap.size + 1]? = some (.cells #[.int .i64 y, .int .i64 1, .int .i64 0] 120))
 case atStart => exact ⟨10, 1800 + day / 366, Nat.le_refl _, by omega, by omega, by omega, HY.out, hlow, Bw, J_alloc (J_new _ _ _ rfl), J_new _ _ _ (by simp)⟩
 case round =>
  obtain ⟨f, y, hf, hyf, hy0, hy1, HYF, HBY, hB, g0, g1⟩ := hrel
  have a0 : wr.cell? ⟨w.heap.size + 1, 0, none⟩ = some (.int .i64 y) := by simp [World.cell?, g1]
  have a1 : wr.cell? ⟨w.heap.size + 1, 1, none⟩ = some (.int .i64 1) := by simp [World.cell?, g1]
  have a2 : wr.cell? ⟨w.heap.size + 1, 2, none⟩ = some (.int .i64 0) := by simp [World.cell?, g1]
  have z0 : wr.frozen? ⟨w.heap.size + 1, 0, none⟩ = false := by simp [World.frozen?, g1]
  have z1 : wr.frozen? ⟨w.heap.size + 1, 1, none⟩ = false := by simp [World.frozen?, g1]
  have z2 : wr.frozen? ⟨w.heap.size + 1, 2, none⟩ = false := by simp [World.frozen?, g1]
  have b0 : wr.cell? ⟨w.heap.size, 0, none⟩ = some (.int .i64 0) := by simp [World.cell?, g0]
  have b1 : wr.cell? ⟨w.heap.size, 1, none⟩ = some (.int .i64 0) := by simp [World.cell?, g0]
  have b2 : wr.cell? ⟨w.heap.size, 2, none⟩ = some (.int .i64 0) := by simp [World.cell?, g0]
  have x0 : wr.frozen? ⟨w.heap.size, 0, none⟩ = false := by simp [World.frozen?, g0]
  have x1 : wr.frozen? ⟨w.heap.size, 1, none⟩ = false := by simp [World.frozen?, g0]
  have x2 : wr.frozen? ⟨w.heap.size, 2, none⟩ = false := by simp [World.frozen?, g0]
  have e1 : w.heap.size + 1 < wr.heap.size := blk_lt g1
  have e0 : w.heap.size < wr.heap.size := blk_lt g0
  have hLr := hL.keep hB
  have k0 : IntKind.i64.wrap (y + 1) = y + 1 := IntWalk.i64_in _ (by omega)
  by_cases hc : begP (y + 1) ≤ day
  · have hf1 : f ≠ 0 := by
      rintro rfl
      have := HH.out
      rw [show y = 1800 + day / 366 + 10 by omega] at hc
      omega
    obtain ⟨f', rfl⟩ : ∃ f', f = f' + 1 := ⟨f - 1, by omega⟩
    have HN : Hid (yearP day = yearGo day f' (y + 1)) := by
     show _ = _
     rw [HYF.out, year_step (by rw [first_one]; exact hc)]
    have HC := Lib.hid hc
    go_wp2_with (go_at_call 110; refine (begin_any _ _ (by omega) (by omega)).mono ?_; rintro e wq ⟨rfl, rfl⟩)
    go_roundg f'
    case measure => omega
    case rel =>
     refine ⟨f', y + 1, Nat.le_refl _, by omega, by omega, by omega, HN, HC.out, by repeat (first | exact B_refl | exact Below.refl _ _ | assumption | with_reducible refine B_alloc ?_ _ | with_reducible refine B_ext ?_ _ | with_reducible refine B_drew ?_ | with_reducible refine B_drewN ?_ _ | with_reducible refine B_set ?_ (by dsimp only; omega) _), J_ne (by omega) g0, ?_⟩
     have := Joins.block_setCell (i := 0) g1 (.int .i64 (y + 1))
     simpa using this
  · have HN : Hid (yearP day = y) := by
      show _ = _
      rw [HYF.out, year_stop (by rw [first_one]; exact hc)]
    have hfb := first_bounds (m := 1) hy0 (by omega) (by omega) (by omega)
    rw [first_one] at hfb
    have k1 : IntKind.i64.wrap (day - begP y) = day - begP y := IntWalk.i64_in _ (by omega)
    have hmp : monthP day = monthGo day y 12 1 := by unfold monthP; rw [HN.out]
    have HMP := Lib.hid hmp
    have hyr : day < firstP y 12 + monthDaysP y 12 := by
     rw [← first_year hy0, first_one]; omega
    have HYR := Lib.hid hyr
    have HBY2 := HBY.out
    have HB0 : Hid (firstP y 1 ≤ day) := by show _ ≤ _; rw [first_one]; exact HBY2
    clear hmp hyr HBY2
    have G0 := Lib.hid g0
    have G1 := Lib.hid g1
    go_upto_region 5 with (go_at_call 110; refine (begin_any _ _ (by omega) (by omega)).mono ?_; rintro e wq ⟨rfl, rfl⟩)
    clear a0 a1 a2 z0 z1 z2 b0 b1 b2 x0 x1 x2 g0 g1
    go_loopg [0] 12 (fun gg v wm => ∃ (m : Nat), 1 ≤ m ∧ m ≤ 12 ∧ 12 - m ≤ gg ∧ v = .int .i64 (day - firstP y m) ∧ Hid (monthP day = monthGo day y (13 - m) m) ∧ Hid (firstP y m ≤ day) ∧ Below w.heap.size w wm ∧ wm.heap[w.heap.size]? = some (.cells #[.int .i64 0, .int .i64 0, .int .i64 0] 120) ∧ wm.heap[w.heap.size + 1]? = some (.cells #[.int .i64 y, .int .i64 m, .int .i64 0] 120))
    case atStart => exact ⟨1, by omega, by omega, by omega, by rw [first_one], HMP.out, HB0.out, hB, G0.out, G1.out⟩
    case round =>
     obtain ⟨m, hm1, hm2, hgm, rfl, HM, HLO, hBm, g0, g1⟩ := hrel
     have a0 : wr.cell? ⟨w.heap.size + 1, 0, none⟩ = some (.int .i64 y) := by simp [World.cell?, g1]
     have a1 : wr.cell? ⟨w.heap.size + 1, 1, none⟩ = some (.int .i64 m) := by simp [World.cell?, g1]
     have a2 : wr.cell? ⟨w.heap.size + 1, 2, none⟩ = some (.int .i64 0) := by simp [World.cell?, g1]
     have z0 : wr.frozen? ⟨w.heap.size + 1, 0, none⟩ = false := by simp [World.frozen?, g1]
     have z1 : wr.frozen? ⟨w.heap.size + 1, 1, none⟩ = false := by simp [World.frozen?, g1]
     have z2 : wr.frozen? ⟨w.heap.size + 1, 2, none⟩ = false := by simp [World.frozen?, g1]
     have b0 : wr.cell? ⟨w.heap.size, 0, none⟩ = some (.int .i64 0) := by simp [World.cell?, g0]
     have b1 : wr.cell? ⟨w.heap.size, 1, none⟩ = some (.int .i64 0) := by simp [World.cell?, g0]
     have b2 : wr.cell? ⟨w.heap.size, 2, none⟩ = some (.int .i64 0) := by simp [World.cell?, g0]
     have x0 : wr.frozen? ⟨w.heap.size, 0, none⟩ = false := by simp [World.frozen?, g0]
     have x1 : wr.frozen? ⟨w.heap.size, 1, none⟩ = false := by simp [World.frozen?, g0]
     have x2 : wr.frozen? ⟨w.heap.size, 2, none⟩ = false := by simp [World.frozen?, g0]
     have e1 : w.heap.size + 1 < wr.heap.size := blk_lt g1
     have e0 : w.heap.size < wr.heap.size := blk_lt g0
     have hLm := hL.keep hBm
     have hdp := days_pos y hm1 hm2
     have hfm := first_bounds (m := m) hy0 (by omega) hm1 (by omega)
     have hu := first_up y hm1
     have HU := Lib.hid hu
     have hlo := HLO.out
     have k2 : IntKind.i64.wrap (day - firstP y m - monthDaysP y m) = day - firstP y m - monthDaysP y m := IntWalk.i64_in _ (by omega)
     have k3 : IntKind.i64.wrap ((m : Int) + 1) = (m : Int) + 1 := IntWalk.i64_in _ (by omega)
     have k4 : IntKind.i64.wrap (day - firstP y m + 1) = day - firstP y m + 1 := IntWalk.i64_in _ (by omega)
     by_cases hc2 : monthDaysP y m ≤ day - firstP y m
     · have hm12 : m < 12 := by
         rcases Nat.lt_or_ge m 12 with h | h
         · exact h
         · have := HYR.out
           obtain rfl : m = 12 := by omega
           rw [show ((12 : Nat) : Int) = 12 from rfl] at hc2
           omega
       have HN2 : Hid (monthP day = monthGo day y (13 - (m + 1)) (m + 1)) := by
        show _ = _
        rw [HM.out, show 13 - m = (13 - (m + 1)) + 1 by omega, month_step hm12 (by rw [hu]; omega)]
       have hlo2 : firstP y (m + 1) ≤ day := by rw [hu]; omega
       have HL2 := Lib.hid hlo2
       clear hu hlo hlo2
       go_wp2_with (go_at_call 93; refine (length_any y m _ hLm (by omega) (by omega) hm1 hm2).mono ?_; rintro e wq ⟨rfl, rfl⟩)
       go_roundg (12 - (m + 1))
       case measure => omega
       case rel =>
        refine ⟨m + 1, by omega, by omega, Nat.le_refl _, by rw [HU.out]; exact int_eq (by omega), HN2, HL2.out, by repeat (first | exact B_refl | exact Below.refl _ _ | assumption | with_reducible refine B_alloc ?_ _ | with_reducible refine B_ext ?_ _ | with_reducible refine B_drew ?_ | with_reducible refine B_drewN ?_ _ | with_reducible refine B_set ?_ (by dsimp only; omega) _), J_ne (by omega) g0, ?_⟩
        have := Joins.block_setCell (i := 1) g1 (.int .i64 ((m : Int) + 1))
        simpa using this
     · have HN2 : Hid (monthP day = m) := by
         show _ = _
         rw [HM.out, month_stop (by rw [hu]; omega)]
       have HD : Hid (DateIs day (yearP day) (monthP day)) := by
        show DateIs _ _ _
        rw [HN.out, HN2.out]
        exact ⟨hy0, by omega, hm1, hm2, hlo, by omega⟩
       clear hu hlo
       go_wp2_with (go_at_call 93; refine (length_any y m _ hLm (by omega) (by omega) hm1 hm2).mono ?_; rintro e wq ⟨rfl, rfl⟩)
       refine bodyPost_ret (v := dateV (yearP day) (monthP day) (day - firstP (yearP day) (monthP day) + 1)) ?_ rfl ?_
       · rw [HN.out, HN2.out]
         have g2 := J_set3 (a := .int .i64 y) (b := .int .i64 m) (c := .int .i64 (day - firstP y m + 1)) (J_ne (b := w.heap.size + 1) (o := 2) (v := .int .i64 (day - firstP y m + 1)) (by omega) g0)
         refine results_date rfl _ _ w.heap.size _ _ _ rfl ?_ ?_ ?_
         all_goals simp [World.cell?, g2]
       · exact ⟨HD.out, Ret.of rfl (by repeat (first | exact B_refl | exact Below.refl _ _ | assumption | with_reducible refine B_alloc ?_ _ | with_reducible refine B_ext ?_ _ | with_reducible refine B_drew ?_ | with_reducible refine B_drewN ?_ _ | with_reducible refine B_set ?_ (by dsimp only; omega) _))⟩
set_option maxRecDepth 100000 in
set_option maxHeartbeats 2000000 in
theorem rlater_any (day mo : Int) (w : World) (hL : LensIn w) (h0 : 0 ≤ day) (h1 : day ≤ 200000) (hm0 : -12000 ≤ mo) (hm1 : mo ≤ 12000) :
    Calls Tryz.prog 61 #[.int .i64 day, .int .i64 mo] w (fun e w' => ∃ n : Int, ∃ ok : Bool, (ok = true → addMonthsP day mo = n ∧ 0 ≤ n) ∧ (ok = false → addMonthsP day mo = -1) ∧ Ret w (.tuple #[.int .i64 n, .bool ok]) e w') := by
 have hA : addMonthsP day mo = if !inR ((yearP day * 12 + monthP day - 1 + mo) / 12) 1800 2347 then -1 else
     if isDayP (firstP ((yearP day * 12 + monthP day - 1 + mo) / 12) ((yearP day * 12 + monthP day - 1 + mo) % 12 + 1).toNat + min (day - firstP (yearP day) (monthP day) + 1) (monthDaysP ((yearP day * 12 + monthP day - 1 + mo) / 12) ((yearP day * 12 + monthP day - 1 + mo) % 12 + 1)) - 1) then
      firstP ((yearP day * 12 + monthP day - 1 + mo) / 12) ((yearP day * 12 + monthP day - 1 + mo) % 12 + 1).toNat + min (day - firstP (yearP day) (monthP day) + 1) (monthDaysP ((yearP day * 12 + monthP day - 1 + mo) / 12) ((yearP day * 12 + monthP day - 1 + mo) % 12 + 1)) - 1 else -1 := rfl
 have HA := Lib.hid hA
 clear hA
 have HD := Lib.hid (fun W h => dateOf_any day W h h0 h1)
 generalize yearP day = y at *
 generalize monthP day = m at *
 generalize addMonthsP day mo = R at *
 go_enter Tryz.func61, Tryz.ntmps61
 go_upto_region 2 with (go_at_call 91; refine (HD.out _ hL).mono ?_; rintro e wq ⟨hdi, rfl, z, rfl⟩; simp only [dateV])
 obtain ⟨d1, d2, d3, d4, d5, d6⟩ := hdi
 obtain ⟨f1, f2⟩ := days_pos y d3 d4
 obtain ⟨X, hX⟩ : ∃ X, X = day - firstP y m + 1 := ⟨_, rfl⟩
 obtain ⟨N, hN⟩ : ∃ N, N = 12 * y + m - 1 + mo := ⟨_, rfl⟩
 have HA2 : Hid (R = if !inR (N / 12) 1800 2347 then -1 else if isDayP (firstP (N / 12) (N % 12 + 1).toNat + min X (monthDaysP (N / 12) (N % 12 + 1)) - 1) then firstP (N / 12) (N % 12 + 1).toNat + min X (monthDaysP (N / 12) (N % 12 + 1)) - 1 else -1) := by
  show _ = _
  rw [HA.out, hX, hN, show y * 12 + (m : Int) - 1 + mo = 12 * y + m - 1 + mo by omega]
 have hX1 : 1 ≤ X := by omega
 have hX2 : X ≤ 31 := by omega
 rw [← hX]
 have k1 : IntKind.i64.wrap (12 * y) = 12 * y := IntWalk.i64_in _ (by omega)
 have k2 : IntKind.i64.wrap (12 * y + m) = 12 * y + m := IntWalk.i64_in _ (by omega)
 have k3 : IntKind.i64.wrap (12 * y + m - 1) = 12 * y + m - 1 := IntWalk.i64_in _ (by omega)
 have k4 : IntKind.i64.wrap (12 * y + m - 1 + mo) = N := by rw [hN]; exact IntWalk.i64_in _ (by omega)
 have hNb : -20000 ≤ N ∧ N ≤ 100000 := by omega
 obtain ⟨hNb1, hNb2⟩ := hNb
 clear HA hX hN HD d5 d6 f1 f2
 by_cases hN0 : N < 0
 · have hN1 : inR (N / 12) 1800 2347 = false := by simp [inR]; omega
   have HR : Hid (R = -1) := by show _ = _; rw [HA2.out, hN1]; rfl
   clear hN1
   go_wp2_with fail
   go_ret2
   exact ⟨0, false, by simp, fun _ => HR.out, Ret.of rfl Bw⟩
 · have hN1 : 0 ≤ N := by omega
   have hq0 : 0 ≤ N / 12 := by omega
   obtain ⟨mm, hmm⟩ : ∃ mm : Nat, (mm : Int) = N % 12 + 1 := ⟨(N % 12 + 1).toNat, by omega⟩
   have hmm1 : 1 ≤ mm := by omega
   have hmm2 : mm ≤ 12 := by omega
   have ht : (N % 12 + 1).toNat = mm := by omega
   have HA3 : Hid (R = if !inR (N / 12) 1800 2347 then -1 else if isDayP (firstP (N / 12) mm + min X (monthDaysP (N / 12) mm) - 1) then firstP (N / 12) mm + min X (monthDaysP (N / 12) mm) - 1 else -1) := by
    show _ = _
    rw [HA2.out, ht, ← hmm]
   have k5 : IntKind.i64.wrap (N % 12 + 1) = (mm : Int) := by rw [hmm]; exact IntWalk.i64_in _ (by omega)
   obtain ⟨Y, hY⟩ : ∃ Y, N / 12 = Y := ⟨_, rfl⟩
   rw [hY] at HA3
   have hY1 : Y ≤ 10000 := by omega
   have hq1 : 0 ≤ Y := by omega
   clear HA2 ht
   have HMM := Lib.hid hmm
   clear hmm
   cases hin : inR Y 1800 2347
   · have HR : Hid (R = -1) := by show _ = _; rw [HA3.out, hin]; rfl
     go_wp2_with (go_at_call 60; refine (rwithin_any _ _ _ _).mono ?_; rintro e wq ⟨rfl, rfl⟩; rw [hin])
     all_goals go_ret2
     all_goals exact ⟨0, false, by simp, fun _ => HR.out, Ret.of rfl Bw⟩
   · have hYr : 1800 ≤ Y ∧ Y ≤ 2347 := by simpa [inR] using hin
     obtain ⟨f1, f2⟩ := days_pos Y hmm1 hmm2
     have hfb := first_bounds (m := mm) hYr.1 (by omega) hmm1 (by omega)
     have HR : Hid (R = if isDayP (firstP Y mm + min X (monthDaysP Y mm) - 1) then firstP Y mm + min X (monthDaysP Y mm) - 1 else -1) := by show _ = _; rw [HA3.out, hin]; rfl
     have HLW : Hid (∀ W, Below w.heap.size w W → LensIn W) := fun W h => hL.keep h
     clear HA3 hL
     go_upto_region 6 with (go_at_call 60; refine (rwithin_any _ _ _ _).mono ?_; rintro e wq ⟨rfl, rfl⟩; rw [hin])
     have HLg := Lib.hid (fun W (hW : Below w.heap.size w W) => length_any Y mm W (HLW.out _ hW) hq1 (by omega) hmm1 hmm2)
     have HDy := Lib.hid (fun d W (hW : Below w.heap.size w W) (hd0 : 0 ≤ d) (hd1 : d ≤ 1000) => dayOf_any Y mm d W (HLW.out _ hW) hYr.1 (by omega) hmm1 hmm2 hd0 hd1)
     generalize monthDaysP Y mm = L at *
     clear hfb
     refine wp_region_ext_lit (by kernel_rfl) (by kernel_rfl) ?_
     repeat (first | go_big_quiet_skip | (go_big_quiet_want; go_big_quiet_op; first | go_big_quiet_on | (apply Exists.intro; refine ⟨fun _ => ?_, ?_⟩; (first | (go_at_call 93; exact quietx0 (HLg.out _ Bw)) | (go_at_call 92; exact quietx0 (HDy.out _ _ Bw (by omega) (by omega)))); go_big_quiet_on)))
     refine wpQuiet_nil ?_
     rintro _ ⟨zq, rfl⟩
     generalize hO : firstP Y mm + min X L - 1 = out at *
     have HO := Lib.hid hO
     clear hO HLg HDy HLW
     cases hd : isDayP out
     · have HD2 := Lib.hid hd
       go_wp2_with (go_at_call 59; refine (risDay_any _ _).mono ?_; rintro e wq ⟨rfl, rfl⟩; rw [hd])
       go_ret2
       exact ⟨out, false, by simp, fun _ => by rw [HR.out, HD2.out]; rfl, Ret.of rfl Bw⟩
     · have HD2 := Lib.hid hd
       go_wp2_with (go_at_call 59; refine (risDay_any _ _).mono ?_; rintro e wq ⟨rfl, rfl⟩; rw [hd])
       go_ret2
       refine ⟨out, true, fun _ => ⟨by rw [HR.out, HD2.out]; rfl, ?_⟩, by simp, Ret.of rfl Bw⟩
       have h := HD2.out
       simp [isDayP, inR] at h
       omega
end Go.Proofs.YtkhkhnellekofaaGreatDoor
