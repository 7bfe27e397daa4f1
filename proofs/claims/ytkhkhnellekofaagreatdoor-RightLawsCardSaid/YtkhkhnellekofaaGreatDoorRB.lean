/- Walk of chapter 5's checkRecord and CheckRecords. -/
import Derived.Test.YtkhkhnellekofaaGreatDoorO4
import Derived.Test.YtkhkhnellekofaaGreatDoorJ1
set_option linter.unusedSimpArgs false
set_option linter.unusedVariables false
namespace Go.Proofs.YtkhkhnellekofaaGreatDoor
open Go.RowKit Go.Shelf
attribute [local go_sem] World.cell?_alloc_mark ext_size ext_cell ext_frozen lt_add_r lt_add_r2 lt_add_r3 lt_add_r4 lt_add_r5 lt_add_r6 lt_add_r7 lt_add_r8
attribute [local go_sem] ext_setCell alloc_setCell_lt

theorem isDay0 : isDayP 0 = true := by decide
theorem inR04 : inR 0 0 4 = true := by decide
theorem inR14 : inR 1 0 4 = true := by decide
theorem inR24 : inR 2 0 4 = true := by decide
theorem inR34 : inR 3 0 4 = true := by decide
theorem inR44 : inR 4 0 4 = true := by decide
set_option maxRecDepth 100000 in
set_option maxHeartbeats 2000000 in
theorem checkRecord_any (x : Rec) (w : World) (h1 : x.name.size ≤ 100000) (h2 : x.other.size ≤ 100000) (h3 : x.place.size ≤ 100000) : Calls Tryz.prog 49 #[x.v] w (Ret w (.int .i64 (checkRecP x))) := by
 obtain ⟨R, hR⟩ : ∃ R, R = checkRecP x := ⟨_, rfl⟩
 rw [← hR]
 have HR := Lib.hid hR
 clear hR
 obtain ⟨kd, nm, ot, pl, dy, tl, nu, de⟩ := x
 simp only at h1 h2 h3
 unfold Rec.v
 go_enter Tryz.func49, Tryz.ntmps49
 cases hk : inR kd 0 4
 · go_wp2_with (go_at_call 55; refine (within5_any _ _ _ _).mono ?_; rintro e wq ⟨rfl, rfl⟩; rw [hk])
   go_ret
   exact Ret.of (int_eq (by rw [HR.out]; simp [checkRecP, *])) Bw
 · go_upto_region 3 with (go_at_call 55; refine (within5_any _ _ _ _).mono ?_; rintro e wq ⟨rfl, rfl⟩; rw [hk])
   go_cut [11] from 7 (fun v wc => v = .bool (!isDayP dy || !isDayP tl) ∧ Below w.heap.size w wc ∧ wc.heap[w.heap.size]? = some (.cells #[.int .i64 kd, .string nm, .string ot, .string pl, .int .i64 dy, .int .i64 tl, .int .i64 nu, .int .i64 de] 65))
   case first =>
    go_wp2_with (first
                  | (go_at_call 55; refine (within5_any _ _ _ _).mono ?_; intro e wq hq; rcases Ret0.bools hq with ⟨rfl, ⟨hb, rfl⟩ | ⟨hb, rfl⟩⟩ <;> clear hq)
                  | (go_at_call 50; refine (isDay5_any _ _).mono ?_; intro e wq hq; rcases Ret0.bools hq with ⟨rfl, ⟨hb, rfl⟩ | ⟨hb, rfl⟩⟩ <;> clear hq)
                  | (go_at_call 83; refine (isName5_any _ _ (by assumption)).mono ?_; intro e wq hq; rcases Ret0.bools hq with ⟨rfl, ⟨hb, rfl⟩ | ⟨hb, rfl⟩⟩ <;> clear hq))
    all_goals go_meet
    all_goals (refine ⟨bool_eq (by first | (simp [noB, *]; done)), Bw, by first | exact J_new _ _ _ rfl | repeat (first | assumption | with_reducible refine J_alloc ?_ | with_reducible refine J_ext ?_ | with_reducible refine J_ne (by omega) ?_)⟩)
   case rest =>
    obtain ⟨rfl, hB, g0⟩ := hcut
    have d0 : wc.cell? ⟨w.heap.size, 0, none⟩ = some (.int .i64 kd) := by simp only [World.cell?, g0]; rfl
    have d1 : wc.cell? ⟨w.heap.size, 1, none⟩ = some (.string nm) := by simp only [World.cell?, g0]; rfl
    have d2 : wc.cell? ⟨w.heap.size, 2, none⟩ = some (.string ot) := by simp only [World.cell?, g0]; rfl
    have d3 : wc.cell? ⟨w.heap.size, 3, none⟩ = some (.string pl) := by simp only [World.cell?, g0]; rfl
    have d4 : wc.cell? ⟨w.heap.size, 4, none⟩ = some (.int .i64 dy) := by simp only [World.cell?, g0]; rfl
    have d5 : wc.cell? ⟨w.heap.size, 5, none⟩ = some (.int .i64 tl) := by simp only [World.cell?, g0]; rfl
    have d6 : wc.cell? ⟨w.heap.size, 6, none⟩ = some (.int .i64 nu) := by simp only [World.cell?, g0]; rfl
    have d7 : wc.cell? ⟨w.heap.size, 7, none⟩ = some (.int .i64 de) := by simp only [World.cell?, g0]; rfl
    have e0 : w.heap.size < wc.heap.size := blk_lt g0
    cases hb : (!isDayP dy || !isDayP tl)
    · have hx0 : ∀ W, Sem.run Tryz.prog (Instr.index 114 (.agg #[.string nm, .string ot, .string pl]) (.int .i64 0)) W = .ok (.string nm) W := fun W => by kernel_rfl
      have hx1 : ∀ W, Sem.run Tryz.prog (Instr.index 114 (.agg #[.string nm, .string ot, .string pl]) (.int .i64 1)) W = .ok (.string ot) W := fun W => by kernel_rfl
      have hx2 : ∀ W, Sem.run Tryz.prog (Instr.index 114 (.agg #[.string nm, .string ot, .string pl]) (.int .i64 2)) W = .ok (.string pl) W := fun W => by kernel_rfl
      go_upto_block 1 with fail
      go_cut [4, 29] from 30 (fun _ _ W => W = wc ∧ nameOr nm = true ∧ nameOr ot = true ∧ nameOr pl = true)
      case first =>
       go_wp2_with fail
       go_loopw [4, 29] (fun _ i wr => ∃ k : Nat, k ≤ 3 ∧ i = .int .i64 k ∧ wr = wc ∧ Hid (∀ j s, j < k → [nm, ot, pl][j]? = some s → nameOr s = true)) (fun _ i _ => 3 - (intOf i).toNat)
       case atStart => exact ⟨0, by omega, rfl, rfl, fun j s hj => absurd hj (Nat.not_lt_zero _)⟩
       case round =>
        obtain ⟨k, hk3, rfl, rfl, HK⟩ := hrel
        obtain rfl | rfl | rfl | rfl : k = 0 ∨ k = 1 ∨ k = 2 ∨ k = 3 := by omega
        · cases hz : noB nm
          · have hz1 : (nm).toList.isEmpty = false := hz
            have hz2 : ¬ (nm).toList = [] := by simpa using hz1
            cases hq : isNameP nm
            · have hno : nameOr nm = false := by simp [nameOr, hz, hq]
              have HRX : Hid (R = 4) := by show _ = _; rw [HR.out]; simp [checkRecP, *]
              clear HR HK hno
              go_wp2_with (go_at_call 83; refine (isName5_any _ _ (by assumption)).mono ?_; rintro e wq ⟨rfl, rfl⟩; rw [hq])
              go_ret
              rw [HRX.out]
              exact Ret.of rfl Bw
            · have hno : nameOr nm = true := by simp [nameOr, hz, hq]
              have HNO := Lib.hid hno
              clear hno
              go_wp2_with (go_at_call 83; refine (isName5_any _ _ (by assumption)).mono ?_; rintro e wq ⟨rfl, rfl⟩; rw [hq])
              go_round
              case rel => exact ⟨0 + 1, by omega, by go_num, by first | exact True.intro | rfl, fun j s hj hs => by
               rcases Nat.lt_succ_iff_lt_or_eq.1 hj with hj | rfl
               · exact HK.out j s hj hs
               · simp at hs; rw [← hs]; exact HNO.out⟩
              case measure => simp [intOf]
          · have hz1 : (nm).toList.isEmpty = true := hz
            have hz2 : (nm).toList = [] := by simpa using hz1
            have hno : nameOr nm = true := by simp [nameOr, hz]
            have HNO := Lib.hid hno
            clear hno
            go_wp2_with fail
            go_round
            case rel => exact ⟨0 + 1, by omega, by go_num, by first | exact True.intro | rfl, fun j s hj hs => by
             rcases Nat.lt_succ_iff_lt_or_eq.1 hj with hj | rfl
             · exact HK.out j s hj hs
             · simp at hs; rw [← hs]; exact HNO.out⟩
            case measure => simp [intOf]
        · have hq1 := HK.out 0 nm (by omega) rfl
          cases hz : noB ot
          · have hz1 : (ot).toList.isEmpty = false := hz
            have hz2 : ¬ (ot).toList = [] := by simpa using hz1
            cases hq : isNameP ot
            · have hno : nameOr ot = false := by simp [nameOr, hz, hq]
              have HRX : Hid (R = 4) := by show _ = _; rw [HR.out]; simp [checkRecP, *]
              clear HR HK hno
              go_wp2_with (go_at_call 83; refine (isName5_any _ _ (by assumption)).mono ?_; rintro e wq ⟨rfl, rfl⟩; rw [hq])
              go_ret
              rw [HRX.out]
              exact Ret.of rfl Bw
            · have hno : nameOr ot = true := by simp [nameOr, hz, hq]
              have HNO := Lib.hid hno
              clear hno
              go_wp2_with (go_at_call 83; refine (isName5_any _ _ (by assumption)).mono ?_; rintro e wq ⟨rfl, rfl⟩; rw [hq])
              go_round
              case rel => exact ⟨1 + 1, by omega, by go_num, by first | exact True.intro | rfl, fun j s hj hs => by
               rcases Nat.lt_succ_iff_lt_or_eq.1 hj with hj | rfl
               · exact HK.out j s hj hs
               · simp at hs; rw [← hs]; exact HNO.out⟩
              case measure => simp [intOf]
          · have hz1 : (ot).toList.isEmpty = true := hz
            have hz2 : (ot).toList = [] := by simpa using hz1
            have hno : nameOr ot = true := by simp [nameOr, hz]
            have HNO := Lib.hid hno
            clear hno
            go_wp2_with fail
            go_round
            case rel => exact ⟨1 + 1, by omega, by go_num, by first | exact True.intro | rfl, fun j s hj hs => by
             rcases Nat.lt_succ_iff_lt_or_eq.1 hj with hj | rfl
             · exact HK.out j s hj hs
             · simp at hs; rw [← hs]; exact HNO.out⟩
            case measure => simp [intOf]
        · have hq1 := HK.out 0 nm (by omega) rfl
          have hq2 := HK.out 1 ot (by omega) rfl
          cases hz : noB pl
          · have hz1 : (pl).toList.isEmpty = false := hz
            have hz2 : ¬ (pl).toList = [] := by simpa using hz1
            cases hq : isNameP pl
            · have hno : nameOr pl = false := by simp [nameOr, hz, hq]
              have HRX : Hid (R = 4) := by show _ = _; rw [HR.out]; simp [checkRecP, *]
              clear HR HK hno
              go_wp2_with (go_at_call 83; refine (isName5_any _ _ (by assumption)).mono ?_; rintro e wq ⟨rfl, rfl⟩; rw [hq])
              go_ret
              rw [HRX.out]
              exact Ret.of rfl Bw
            · have hno : nameOr pl = true := by simp [nameOr, hz, hq]
              have HNO := Lib.hid hno
              clear hno
              go_wp2_with (go_at_call 83; refine (isName5_any _ _ (by assumption)).mono ?_; rintro e wq ⟨rfl, rfl⟩; rw [hq])
              go_round
              case rel => exact ⟨2 + 1, by omega, by go_num, by first | exact True.intro | rfl, fun j s hj hs => by
               rcases Nat.lt_succ_iff_lt_or_eq.1 hj with hj | rfl
               · exact HK.out j s hj hs
               · simp at hs; rw [← hs]; exact HNO.out⟩
              case measure => simp [intOf]
          · have hz1 : (pl).toList.isEmpty = true := hz
            have hz2 : (pl).toList = [] := by simpa using hz1
            have hno : nameOr pl = true := by simp [nameOr, hz]
            have HNO := Lib.hid hno
            clear hno
            go_wp2_with fail
            go_round
            case rel => exact ⟨2 + 1, by omega, by go_num, by first | exact True.intro | rfl, fun j s hj hs => by
             rcases Nat.lt_succ_iff_lt_or_eq.1 hj with hj | rfl
             · exact HK.out j s hj hs
             · simp at hs; rw [← hs]; exact HNO.out⟩
            case measure => simp [intOf]
        · go_wp2_with fail
          go_meet
          exact ⟨rfl, HK.out 0 nm (by omega) rfl, HK.out 1 ot (by omega) rfl, HK.out 2 pl (by omega) rfl⟩
      case rest =>
       obtain ⟨rfl, q1, q2, q3⟩ := hcut
       have hkk : kd = 0 ∨ kd = 1 ∨ kd = 2 ∨ kd = 3 ∨ kd = 4 := by
        unfold inR at hk
        simp at hk
        omega
       have HB := Lib.hid hB
       have hs := hB.size
       have p1 : isDayP dy = true := by cases hd : isDayP dy <;> simp_all
       have p2 : isDayP tl = true := by cases hd : isDayP tl <;> simp_all
       clear hx0 hx1 hx2 g0 hB hb
       cases z1 : noB nm
       · have y1 : nm.toList.isEmpty = false := z1
         have y1' : ¬ nm.toList = [] := by simpa using y1
         rcases hkk with rfl | rfl | rfl | rfl | rfl
         · cases z2 : noB ot
           · have y2 : ot.toList.isEmpty = false := z2
             have w2 : ¬ ot.toList = [] := by simpa using y2
             (go_wp2_with fail
              go_ret
              exact Ret.of (int_eq (by rw [HR.out]; simp [checkRecP, p1, p2, isDay0, inR04, inR14, inR24, inR34, inR44, *])) (HB.out.trans (Below.mono (B := wc.heap.size) Bw hs)))
           · have y2 : ot.toList.isEmpty = true := z2
             have w2 : ot.toList = [] := by simpa using y2
             cases z3 : noB pl
             · have y3 : pl.toList.isEmpty = false := z3
               have w3 : ¬ pl.toList = [] := by simpa using y3
               (go_wp2_with fail
                go_ret
                exact Ret.of (int_eq (by rw [HR.out]; simp [checkRecP, p1, p2, isDay0, inR04, inR14, inR24, inR34, inR44, *])) (HB.out.trans (Below.mono (B := wc.heap.size) Bw hs)))
             · have y3 : pl.toList.isEmpty = true := z3
               have w3 : pl.toList = [] := by simpa using y3
               by_cases t1 : tl = 0
               · skip
                 by_cases u1 : nu = 0
                 · skip
                   by_cases u2 : de = 0
                   · skip
                     (go_wp2_with fail
                      go_ret
                      exact Ret.of (int_eq (by rw [HR.out]; simp [checkRecP, p1, p2, isDay0, inR04, inR14, inR24, inR34, inR44, *])) (HB.out.trans (Below.mono (B := wc.heap.size) Bw hs)))
                   · skip
                     (go_wp2_with fail
                      go_ret
                      exact Ret.of (int_eq (by rw [HR.out]; simp [checkRecP, p1, p2, isDay0, inR04, inR14, inR24, inR34, inR44, *])) (HB.out.trans (Below.mono (B := wc.heap.size) Bw hs)))
                 · skip
                   (go_wp2_with fail
                    go_ret
                    exact Ret.of (int_eq (by rw [HR.out]; simp [checkRecP, p1, p2, isDay0, inR04, inR14, inR24, inR34, inR44, *])) (HB.out.trans (Below.mono (B := wc.heap.size) Bw hs)))
               · skip
                 (go_wp2_with fail
                  go_ret
                  exact Ret.of (int_eq (by rw [HR.out]; simp [checkRecP, p1, p2, isDay0, inR04, inR14, inR24, inR34, inR44, *])) (HB.out.trans (Below.mono (B := wc.heap.size) Bw hs)))
         · cases z2 : noB ot
           · have y2 : ot.toList.isEmpty = false := z2
             have w2 : ¬ ot.toList = [] := by simpa using y2
             (go_wp2_with fail
              go_ret
              exact Ret.of (int_eq (by rw [HR.out]; simp [checkRecP, p1, p2, isDay0, inR04, inR14, inR24, inR34, inR44, *])) (HB.out.trans (Below.mono (B := wc.heap.size) Bw hs)))
           · have y2 : ot.toList.isEmpty = true := z2
             have w2 : ot.toList = [] := by simpa using y2
             cases z3 : noB pl
             · have y3 : pl.toList.isEmpty = false := z3
               have w3 : ¬ pl.toList = [] := by simpa using y3
               (go_wp2_with fail
                go_ret
                exact Ret.of (int_eq (by rw [HR.out]; simp [checkRecP, p1, p2, isDay0, inR04, inR14, inR24, inR34, inR44, *])) (HB.out.trans (Below.mono (B := wc.heap.size) Bw hs)))
             · have y3 : pl.toList.isEmpty = true := z3
               have w3 : pl.toList = [] := by simpa using y3
               by_cases t1 : tl = 0
               · skip
                 by_cases u1 : nu = 0
                 · skip
                   by_cases u2 : de = 0
                   · skip
                     (go_wp2_with fail
                      go_ret
                      exact Ret.of (int_eq (by rw [HR.out]; simp [checkRecP, p1, p2, isDay0, inR04, inR14, inR24, inR34, inR44, *])) (HB.out.trans (Below.mono (B := wc.heap.size) Bw hs)))
                   · skip
                     (go_wp2_with fail
                      go_ret
                      exact Ret.of (int_eq (by rw [HR.out]; simp [checkRecP, p1, p2, isDay0, inR04, inR14, inR24, inR34, inR44, *])) (HB.out.trans (Below.mono (B := wc.heap.size) Bw hs)))
                 · skip
                   (go_wp2_with fail
                    go_ret
                    exact Ret.of (int_eq (by rw [HR.out]; simp [checkRecP, p1, p2, isDay0, inR04, inR14, inR24, inR34, inR44, *])) (HB.out.trans (Below.mono (B := wc.heap.size) Bw hs)))
               · skip
                 (go_wp2_with fail
                  go_ret
                  exact Ret.of (int_eq (by rw [HR.out]; simp [checkRecP, p1, p2, isDay0, inR04, inR14, inR24, inR34, inR44, *])) (HB.out.trans (Below.mono (B := wc.heap.size) Bw hs)))
         · cases z2 : noB ot
           · have y2 : ot.toList.isEmpty = false := z2
             have w2 : ¬ ot.toList = [] := by simpa using y2
             cases z3 : noB pl
             · have y3 : pl.toList.isEmpty = false := z3
               have w3 : ¬ pl.toList = [] := by simpa using y3
               (go_wp2_with fail
                go_ret
                exact Ret.of (int_eq (by rw [HR.out]; simp [checkRecP, p1, p2, isDay0, inR04, inR14, inR24, inR34, inR44, *])) (HB.out.trans (Below.mono (B := wc.heap.size) Bw hs)))
             · have y3 : pl.toList.isEmpty = true := z3
               have w3 : pl.toList = [] := by simpa using y3
               by_cases a1 : dy = 0
               · skip
                 by_cases t1 : tl = 0
                 · skip
                   by_cases u1 : nu = 0
                   · skip
                     by_cases u2 : de = 0
                     · skip
                       (go_wp2_with fail
                        go_ret
                        exact Ret.of (int_eq (by rw [HR.out]; simp [checkRecP, p1, p2, isDay0, inR04, inR14, inR24, inR34, inR44, *])) (HB.out.trans (Below.mono (B := wc.heap.size) Bw hs)))
                     · skip
                       (go_wp2_with fail
                        go_ret
                        exact Ret.of (int_eq (by rw [HR.out]; simp [checkRecP, p1, p2, isDay0, inR04, inR14, inR24, inR34, inR44, *])) (HB.out.trans (Below.mono (B := wc.heap.size) Bw hs)))
                   · skip
                     (go_wp2_with fail
                      go_ret
                      exact Ret.of (int_eq (by rw [HR.out]; simp [checkRecP, p1, p2, isDay0, inR04, inR14, inR24, inR34, inR44, *])) (HB.out.trans (Below.mono (B := wc.heap.size) Bw hs)))
                 · skip
                   (go_wp2_with fail
                    go_ret
                    exact Ret.of (int_eq (by rw [HR.out]; simp [checkRecP, p1, p2, isDay0, inR04, inR14, inR24, inR34, inR44, *])) (HB.out.trans (Below.mono (B := wc.heap.size) Bw hs)))
               · skip
                 (go_wp2_with fail
                  go_ret
                  exact Ret.of (int_eq (by rw [HR.out]; simp [checkRecP, p1, p2, isDay0, inR04, inR14, inR24, inR34, inR44, *])) (HB.out.trans (Below.mono (B := wc.heap.size) Bw hs)))
           · have y2 : ot.toList.isEmpty = true := z2
             have w2 : ot.toList = [] := by simpa using y2
             (go_wp2_with fail
              go_ret
              exact Ret.of (int_eq (by rw [HR.out]; simp [checkRecP, p1, p2, isDay0, inR04, inR14, inR24, inR34, inR44, *])) (HB.out.trans (Below.mono (B := wc.heap.size) Bw hs)))
         · cases z2 : noB ot
           · have y2 : ot.toList.isEmpty = false := z2
             have w2 : ¬ ot.toList = [] := by simpa using y2
             (go_wp2_with fail
              go_ret
              exact Ret.of (int_eq (by rw [HR.out]; simp [checkRecP, p1, p2, isDay0, inR04, inR14, inR24, inR34, inR44, *])) (HB.out.trans (Below.mono (B := wc.heap.size) Bw hs)))
           · have y2 : ot.toList.isEmpty = true := z2
             have w2 : ot.toList = [] := by simpa using y2
             cases z3 : noB pl
             · have y3 : pl.toList.isEmpty = false := z3
               have w3 : ¬ pl.toList = [] := by simpa using y3
               by_cases t1 : tl = 0
               · skip
                 cases v1 : inR de 1 12
                 · go_wp2_with (go_at_call 55; refine (within5_any _ _ _ _).mono ?_; rintro e wq ⟨rfl, rfl⟩; rw [v1])
                   go_ret
                   exact Ret.of (int_eq (by rw [HR.out]; simp [checkRecP, p1, p2, isDay0, inR34, *])) (HB.out.trans (Below.mono (B := wc.heap.size) Bw hs))
                 · cases v2 : inR nu 1 de
                   · go_wp2_with (go_at_call 55; refine (within5_any _ _ _ _).mono ?_; rintro e wq ⟨rfl, rfl⟩; first | rw [v1] | rw [v2])
                     go_ret
                     exact Ret.of (int_eq (by rw [HR.out]; simp [checkRecP, p1, p2, isDay0, inR34, *])) (HB.out.trans (Below.mono (B := wc.heap.size) Bw hs))
                   · have b1 : 1 ≤ de ∧ de ≤ 12 := by unfold inR at v1; simpa using v1
                     have b2 : 1 ≤ nu ∧ nu ≤ de := by unfold inR at v2; simpa using v2
                     have HG := Lib.hid (fun W => gcd5_any nu de W (by omega) (by omega))
                     clear b1 b2
                     by_cases v3 : Int.gcd nu de = 1
                     · have HG1 : Hid (R = 0) := by show _ = _; rw [HR.out]; simp [checkRecP, p1, p2, isDay0, inR34, *]
                       rw [v3] at HG
                       go_wp2_with (first
                        | (go_at_call 55; refine (within5_any _ _ _ _).mono ?_; rintro e wq ⟨rfl, rfl⟩; first | rw [v1] | rw [v2])
                        | (go_at_call 84; refine (HG.out _).mono ?_; rintro e wq ⟨rfl, z, rfl⟩))
                       go_ret
                       exact Ret.of (int_eq HG1.out.symm) (HB.out.trans (Below.mono (B := wc.heap.size) Bw hs))
                     · have v4 : ((Int.gcd nu de : Int) == 1) = false := by simpa using (by omega : ¬ (Int.gcd nu de : Int) = 1)
                       have v5 : ¬ ((Int.gcd nu de : Nat) : Int) = 1 := by omega
                       have HG1 : Hid (R = 3) := by show _ = _; rw [HR.out]; simp [checkRecP, p1, p2, isDay0, inR34, *]
                       go_wp2_with (first
                        | (go_at_call 55; refine (within5_any _ _ _ _).mono ?_; rintro e wq ⟨rfl, rfl⟩; first | rw [v1] | rw [v2])
                        | (go_at_call 84; refine (HG.out _).mono ?_; rintro e wq ⟨rfl, z, rfl⟩))
                       go_ret
                       exact Ret.of (int_eq HG1.out.symm) (HB.out.trans (Below.mono (B := wc.heap.size) Bw hs))
               · skip
                 (go_wp2_with fail
                  go_ret
                  exact Ret.of (int_eq (by rw [HR.out]; simp [checkRecP, p1, p2, isDay0, inR04, inR14, inR24, inR34, inR44, *])) (HB.out.trans (Below.mono (B := wc.heap.size) Bw hs)))
             · have y3 : pl.toList.isEmpty = true := z3
               have w3 : pl.toList = [] := by simpa using y3
               (go_wp2_with fail
                go_ret
                exact Ret.of (int_eq (by rw [HR.out]; simp [checkRecP, p1, p2, isDay0, inR04, inR14, inR24, inR34, inR44, *])) (HB.out.trans (Below.mono (B := wc.heap.size) Bw hs)))
         · cases z2 : noB ot
           · have y2 : ot.toList.isEmpty = false := z2
             have w2 : ¬ ot.toList = [] := by simpa using y2
             (go_wp2_with fail
              go_ret
              exact Ret.of (int_eq (by rw [HR.out]; simp [checkRecP, p1, p2, isDay0, inR04, inR14, inR24, inR34, inR44, *])) (HB.out.trans (Below.mono (B := wc.heap.size) Bw hs)))
           · have y2 : ot.toList.isEmpty = true := z2
             have w2 : ot.toList = [] := by simpa using y2
             cases z3 : noB pl
             · have y3 : pl.toList.isEmpty = false := z3
               have w3 : ¬ pl.toList = [] := by simpa using y3
               by_cases u1 : nu = 0
               · skip
                 by_cases u2 : de = 0
                 · skip
                   by_cases l1 : tl ≤ dy
                   · skip
                     (go_wp2_with fail
                      go_ret
                      exact Ret.of (int_eq (by rw [HR.out]; simp [checkRecP, p1, p2, isDay0, inR04, inR14, inR24, inR34, inR44, *])) (HB.out.trans (Below.mono (B := wc.heap.size) Bw hs)))
                   · skip
                     (go_wp2_with fail
                      go_ret
                      exact Ret.of (int_eq (by rw [HR.out]; simp [checkRecP, p1, p2, isDay0, inR04, inR14, inR24, inR34, inR44, *])) (HB.out.trans (Below.mono (B := wc.heap.size) Bw hs)))
                 · skip
                   (go_wp2_with fail
                    go_ret
                    exact Ret.of (int_eq (by rw [HR.out]; simp [checkRecP, p1, p2, isDay0, inR04, inR14, inR24, inR34, inR44, *])) (HB.out.trans (Below.mono (B := wc.heap.size) Bw hs)))
               · skip
                 (go_wp2_with fail
                  go_ret
                  exact Ret.of (int_eq (by rw [HR.out]; simp [checkRecP, p1, p2, isDay0, inR04, inR14, inR24, inR34, inR44, *])) (HB.out.trans (Below.mono (B := wc.heap.size) Bw hs)))
             · have y3 : pl.toList.isEmpty = true := z3
               have w3 : pl.toList = [] := by simpa using y3
               (go_wp2_with fail
                go_ret
                exact Ret.of (int_eq (by rw [HR.out]; simp [checkRecP, p1, p2, isDay0, inR04, inR14, inR24, inR34, inR44, *])) (HB.out.trans (Below.mono (B := wc.heap.size) Bw hs)))
       · have y1 : nm.toList.isEmpty = true := z1
         have y1' : nm.toList = [] := by simpa using y1
         rcases hkk with rfl | rfl | rfl | rfl | rfl
         · (go_wp2_with fail
            go_ret
            exact Ret.of (int_eq (by rw [HR.out]; simp [checkRecP, p1, p2, isDay0, inR04, inR14, inR24, inR34, inR44, *])) (HB.out.trans (Below.mono (B := wc.heap.size) Bw hs)))
         · (go_wp2_with fail
            go_ret
            exact Ret.of (int_eq (by rw [HR.out]; simp [checkRecP, p1, p2, isDay0, inR04, inR14, inR24, inR34, inR44, *])) (HB.out.trans (Below.mono (B := wc.heap.size) Bw hs)))
         · (go_wp2_with fail
            go_ret
            exact Ret.of (int_eq (by rw [HR.out]; simp [checkRecP, p1, p2, isDay0, inR04, inR14, inR24, inR34, inR44, *])) (HB.out.trans (Below.mono (B := wc.heap.size) Bw hs)))
         · (go_wp2_with fail
            go_ret
            exact Ret.of (int_eq (by rw [HR.out]; simp [checkRecP, p1, p2, isDay0, inR04, inR14, inR24, inR34, inR44, *])) (HB.out.trans (Below.mono (B := wc.heap.size) Bw hs)))
         · (go_wp2_with fail
            go_ret
            exact Ret.of (int_eq (by rw [HR.out]; simp [checkRecP, p1, p2, isDay0, inR04, inR14, inR24, inR34, inR44, *])) (HB.out.trans (Below.mono (B := wc.heap.size) Bw hs)))
    · (go_wp2_with fail
       go_ret
       exact Ret.of (int_eq (by rw [HR.out]; simp [checkRecP, *])) Bw)
end Go.Proofs.YtkhkhnellekofaaGreatDoor
