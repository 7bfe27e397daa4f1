/- Walk: which yards are valid (the reference). -/
import Derived.Test.YtpohkolapgofdaaGreatDoorA3
import Derived.Test.YtpohkolapgofdaaGreatDoorC1
namespace Go.Proofs.YtpohkolapgofdaaGreatDoor
open Go.RowKit
attribute [local go_sem] World.cell?_alloc_mark ext_size ext_cell ext_frozen lt_add_r lt_add_r2 lt_add_r3 lt_add_r4 lt_add_r5 lt_add_r6 lt_add_r7 lt_add_r8


set_option maxRecDepth 100000 in
set_option maxHeartbeats 2000000 in
theorem rCheckYard_any (ss : List Site) (rs : List Rest) (A R : Option Addr) (n c rn rc : Nat) (c0 c1 c2 : Int) (w : World) (hn : n = ss.length) (hrn : rn = rs.length) (hS : Sl w 6 Site.cells A ss) (hR : Sl w 3 Rest.cells R rs) (hl : ss.length ≤ 100000) (hlr : rs.length ≤ 100000) (hsh : Short ss) :
    Calls Tryz.prog 52 #[.agg #[.slice A n c, .slice R rn rc, .int .i64 c0, .int .i64 c1, .int .i64 c2]] w (Ret w (.int .i64 (checkYardR ss rs c0 c1 c2))) := by
  subst hn hrn
  go_enter Tryz.func52, Tryz.ntmps52
  by_cases hbig : 60 < (ss.length : Int)
  · go_wp2_with fail
    go_ret
    exact Ret.of (int_eq (by rw [checkYardR, if_pos (by simpa using hbig)])) (by repeat (first | exact Below.refl _ _ | exact Below.refl (World.heap _).size _ | assumption | refine B_alloc ?_ _ | refine B_ext ?_ _ | refine B_drew ?_ | refine B_drewN ?_ _ | refine B_set ?_ (by simp; omega) _))
  have hCY : checkYardR ss rs c0 c1 c2 = sitesR (if decide (40 < (rs.length : Int)) then 8 else restsR (coversP c0 c1 c2) [] rs) [] ss := by rw [checkYardR, if_neg (by simpa using hbig)]
  rw [hCY]
  clear hCY
  generalize hT : (if decide (40 < (rs.length : Int)) = true then 8 else restsR (coversP c0 c1 c2) [] rs) = T
  have HT := Lib.hid hT
  clear hT
  go_wp2_with fail
  obtain ⟨W0, hW0⟩ : ∃ W0, W0 = w.alloc (.cells #[.slice A ss.length c, .slice R rs.length rc, .int .i64 c0, .int .i64 c1, .int .i64 c2] 40) := ⟨_, rfl⟩
  rw [← hW0]
  have hB : Below w.heap.size w W0 := by rw [hW0]; repeat (first | exact Below.refl _ _ | exact Below.refl (World.heap _).size _ | assumption | refine B_alloc ?_ _ | refine B_ext ?_ _ | refine B_drew ?_ | refine B_drewN ?_ _ | refine B_set ?_ (by simp; omega) _)
  have hblk : W0.heap[w.heap.size]? = some (.cells #[.slice A ss.length c, .slice R rs.length rc, .int .i64 c0, .int .i64 c1, .int .i64 c2] 40) := by rw [hW0]; exact heap_alloc_new w _
  have hz : w.heap.size < W0.heap.size := by rw [hW0]; simp
  have g0 : W0.cell? ⟨w.heap.size, 0, none⟩ = some (.slice A ss.length c) := by rw [hW0]; simp [go_sem]
  have g1 : W0.cell? ⟨w.heap.size, 1, none⟩ = some (.slice R rs.length rc) := by rw [hW0]; simp [go_sem]
  clear hW0
  have HBL := Lib.hid hblk
  clear hblk
  go_loopw [3, 4, 5] (fun i _ _ wr => ∃ k : Nat, k ≤ ss.length ∧ i = .int .i64 k ∧ sitesR T [] ss = sitesR T (ss.take k) (ss.drop k) ∧ ∃ z, wr = W0.ext z) (fun i _ _ _ => ss.length - (intOf i).toNat)
  case atStart => exact ⟨0, Nat.zero_le _, rfl, rfl, ext_below (Below.refl _ _)⟩
  case round =>
    obtain ⟨k, hk, rfl, hf, z, rfl⟩ := hrel
    by_cases hlt : k < ss.length
    · rw [List.drop_eq_getElem_cons hlt, sitesR] at hf
      have hS2 := (hS.keep hB).take k
      obtain ⟨b, off, hA, hb, hc⟩ := (hS.keep hB).at hlt
      subst hA
      have h0 : W0.cell? ⟨b, off + k * 6, none⟩ = some (.string ss[k].name) := hc 0 _ rfl
      have h1 : W0.cell? ⟨b, off + k * 6 + 1, none⟩ = some (.int .i64 ss[k].kind) := hc 1 _ rfl
      have h2 : W0.cell? ⟨b, off + k * 6 + 2, none⟩ = some (.int .i64 ss[k].soil) := hc 2 _ rfl
      have h3 : W0.cell? ⟨b, off + k * 6 + 3, none⟩ = some (.int .i64 ss[k].depth) := hc 3 _ rfl
      have h4 : W0.cell? ⟨b, off + k * 6 + 4, none⟩ = some (.int .i64 ss[k].step) := hc 4 _ rfl
      have h5 : W0.cell? ⟨b, off + k * 6 + 5, none⟩ = some (.int .i64 ss[k].room) := hc 5 _ rfl
      have HSH := Lib.hid (hsh _ (List.getElem_mem hlt))
      have HF := Lib.hid hf
      have ht1 : ss.take (k + 1) = ss.take k ++ [ss[k]] := List.take_succ_eq_append_getElem hlt
      have HT1 := Lib.hid ht1
      clear hc hf ht1
      generalize ss[k] = s at *
      obtain ⟨nm, kd, so, d, st, r⟩ := s
      dsimp only at h0 h1 h2 h3 h4 h5 HSH HF HT1
      go_wp2_with (first
        | (go_at_call 79; refine (rCheckSite_any _ _ _ _ _ _ _ HSH.out).mono ?_; rintro e wq ⟨rfl, zq, rfl⟩))
      · go_ret
        exact Ret.of (int_eq (by rw [HF.out, if_pos (by assumption)])) (by repeat (first | exact Below.refl _ _ | exact Below.refl (World.heap _).size _ | assumption | refine B_alloc ?_ _ | refine B_ext ?_ _ | refine B_drew ?_ | refine B_drewN ?_ _ | refine B_set ?_ (by simp; omega) _))
      · have hx : (checkSiteR nm kd so d st r != 0) = false := by assumption
        have HX := Lib.hid hx
        have HS2 := Lib.hid hS2
        clear hx hS2
        go_loopw [5] (fun j wr => ∃ i : Nat, i ≤ k ∧ j = .int .i64 i ∧ anySite nm (ss.take k) = anySite nm ((ss.take k).drop i) ∧ ∃ z, wr = W0.ext z) (fun j _ => k - (intOf j).toNat)
        case atStart => exact ⟨0, Nat.zero_le _, rfl, rfl, ext_below (by repeat (first | exact Below.refl _ _ | exact Below.refl (World.heap _).size _ | assumption | refine B_alloc ?_ _ | refine B_ext ?_ _ | refine B_drew ?_ | refine B_drewN ?_ _ | refine B_set ?_ (by simp; omega) _))⟩
        case round =>
          obtain ⟨i, hi, rfl, hfi, zi, rfl⟩ := hrel
          by_cases hik : i < k
          · have hil : i < (ss.take k).length := by simp; omega
            rw [List.drop_eq_getElem_cons hil, anySite] at hfi
            obtain ⟨b', off', hA, _, hci⟩ := HS2.out.at hil
            simp only [Option.some.injEq, Addr.mk.injEq, and_true] at hA
            obtain ⟨rfl, rfl⟩ := hA
            have hi0 : W0.cell? ⟨b, off + i * 6, none⟩ = some (.string (ss.take k)[i].name) := hci 0 _ rfl
            have HFI := Lib.hid hfi
            have HIL : i < ss.length := by omega
            clear hci hfi
            generalize (ss.take k)[i] = s' at *
            go_wp2_with fail
            (refine wp_region_ext_lit (by kernel_rfl) (by kernel_rfl) ?_
             repeat (first | go_big_quiet_skip | (go_big_quiet_want; go_big_quiet_op; first | go_big_quiet_on | (apply Exists.intro; refine ⟨fun _ => ?_, ?_⟩; (fail); go_big_quiet_on)))
             refine wpQuiet_nil ?_
             rintro _ ⟨zq, rfl⟩)
            go_wp2_with fail
            · go_ret
              have ha : anySite nm (ss.take k) = true := by rw [HFI.out, if_pos (by assumption)]
              exact Ret.of (int_eq (by rw [HF.out, if_neg (by rw [HX.out]; simp), if_pos ha])) (by repeat (first | exact Below.refl _ _ | exact Below.refl (World.heap _).size _ | assumption | refine B_alloc ?_ _ | refine B_ext ?_ _ | refine B_drew ?_ | refine B_drewN ?_ _ | refine B_set ?_ (by simp; omega) _))
            · go_roundw
              case rel => exact ⟨i + 1, by omega, by go_num, by rw [HFI.out, if_neg (by simp_all)], ext_below (by repeat (first | exact Below.refl _ _ | exact Below.refl (World.heap _).size _ | assumption | refine B_alloc ?_ _ | refine B_ext ?_ _ | refine B_drew ?_ | refine B_drewN ?_ _ | refine B_set ?_ (by simp; omega) _))⟩
              case measure => simp [intOf]; omega
          · have hfi2 : anySite nm (ss.take k) = false := by rw [hfi, List.drop_eq_nil_of_le (by simp; omega)]; rfl
            have HFI := Lib.hid hfi2
            clear hfi hfi2
            go_wp2_with fail
            go_roundw
            case rel => exact ⟨k + 1, by omega, by go_num, by rw [HF.out, if_neg (by rw [HX.out]; simp), HFI.out, if_neg (by simp), HT1.out], ext_below (by repeat (first | exact Below.refl _ _ | exact Below.refl (World.heap _).size _ | assumption | refine B_alloc ?_ _ | refine B_ext ?_ _ | refine B_drew ?_ | refine B_drewN ?_ _ | refine B_set ?_ (by simp; omega) _))⟩
            case measure => simp [intOf]; omega
    · have hks : k = ss.length := by omega
      have hT1 : sitesR T [] ss = T := by rw [hf, List.drop_eq_nil_of_le (by omega)]; rfl
      have HTT := Lib.hid hT1
      clear hT1 hf hks
      by_cases hrb : 40 < (rs.length : Int)
      · go_wp2_with fail
        go_ret
        exact Ret.of (int_eq (by rw [HTT.out, ← HT.out, if_pos (by simpa using hrb)])) (by repeat (first | exact Below.refl _ _ | exact Below.refl (World.heap _).size _ | assumption | refine B_alloc ?_ _ | refine B_ext ?_ _ | refine B_drew ?_ | refine B_drewN ?_ _ | refine B_set ?_ (by simp; omega) _))
      have hT2 : T = restsR (coversP c0 c1 c2) [] rs := by rw [← HT.out, if_neg (by simpa using hrb)]
      have h3 : sitesR T [] ss = restsR (coversP c0 c1 c2) [] rs := HTT.out.trans hT2
      clear hT2 HT HTT
      have HTT := Lib.hid h3
      clear h3
      generalize hTC : coversP c0 c1 c2 = TC at HTT
      have HTC := Lib.hid hTC
      clear hTC
      have g2 : W0.cell? ⟨w.heap.size, 2, none⟩ = some (.int .i64 c0) := by simp [World.cell?, HBL.out]
      have g3 : W0.cell? ⟨w.heap.size, 3, none⟩ = some (.int .i64 c1) := by simp [World.cell?, HBL.out]
      have g4 : W0.cell? ⟨w.heap.size, 4, none⟩ = some (.int .i64 c2) := by simp [World.cell?, HBL.out]
      go_wp2_with fail
      go_loopw [6, 7, 8] (fun i _ _ wr => ∃ k : Nat, k ≤ rs.length ∧ i = .int .i64 k ∧ restsR TC [] rs = restsR TC (rs.take k) (rs.drop k) ∧ ∃ z, wr = W0.ext z) (fun i _ _ _ => rs.length - (intOf i).toNat)
      case atStart => exact ⟨0, Nat.zero_le _, rfl, rfl, ⟨_, rfl⟩⟩
      case round =>
        obtain ⟨k, hk, rfl, hf, z, rfl⟩ := hrel
        by_cases hlt : k < rs.length
        · rw [List.drop_eq_getElem_cons hlt, restsR] at hf
          have hR2 := (hR.keep hB).take k
          obtain ⟨b, off, hA, hb, hc⟩ := (hR.keep hB).at hlt
          subst hA
          have h0 : W0.cell? ⟨b, off + k * 3, none⟩ = some (.int .i64 rs[k].soil) := hc 0 _ rfl
          have h1 : W0.cell? ⟨b, off + k * 3 + 1, none⟩ = some (.int .i64 rs[k].container) := hc 1 _ rfl
          have h2 : W0.cell? ⟨b, off + k * 3 + 2, none⟩ = some (.int .i64 rs[k].days) := hc 2 _ rfl
          have HF := Lib.hid hf
          have ht1 : rs.take (k + 1) = rs.take k ++ [rs[k]] := List.take_succ_eq_append_getElem hlt
          have HT1 := Lib.hid ht1
          have HR2 := Lib.hid hR2
          clear hc hf ht1 hR2
          generalize rs[k] = s at *
          obtain ⟨so, co, dy⟩ := s
          dsimp only at h0 h1 h2 HF HT1
          go_wp2_with (first
            | (go_at_call 37; refine (bwithin_any _ _ _ _).mono ?_; intro e wq hq; rcases Ret0.bools hq with ⟨rfl, ⟨hb, rfl⟩ | ⟨hb, rfl⟩⟩ <;> clear hq)
            | (go_at_call 39; refine (rIsContainer_any _ _).mono ?_; intro e wq hq; rcases Ret0.bools hq with ⟨rfl, ⟨hb, rfl⟩ | ⟨hb, rfl⟩⟩ <;> clear hq))
          · have HX : Hid ((!inR so 0 9 || !inR co 0 2 || !inR dy 0 100000) = false) := by show _ = _; simp [*]
            obtain ⟨W1, hW1⟩ : ∃ W1, W1 = (W0.ext z).alloc (.cells #[.int .i64 so, .int .i64 co, .int .i64 dy] 94) := ⟨_, rfl⟩
            have e0 : W1.cell? ⟨W0.heap.size + z.os.size, 0, none⟩ = some (.int .i64 so) := by rw [hW1, ← ext_size]; simp [go_sem]
            have e1 : W1.cell? ⟨W0.heap.size + z.os.size, 1, none⟩ = some (.int .i64 co) := by rw [hW1, ← ext_size]; simp [go_sem]
            have q0 : W1.cell? ⟨w.heap.size, 1, none⟩ = some (.slice (some ⟨b, off, none⟩) rs.length rc) := by rw [hW1]; simp [go_sem, hz, g1]
            have hB1 : Below W0.heap.size W0 W1 := by rw [hW1]; repeat (first | exact Below.refl _ _ | exact Below.refl (World.heap _).size _ | assumption | refine B_alloc ?_ _ | refine B_ext ?_ _ | refine B_drew ?_ | refine B_drewN ?_ _ | refine B_set ?_ (by simp; omega) _)
            have hz1 : W0.heap.size + z.os.size < W1.heap.size := by rw [hW1]; simp [ext_size]
            have hz0 : w.heap.size < W1.heap.size := by omega
            have hbW : b < W1.heap.size := by omega
            have hBW1 : Below w.heap.size w W1 := hB.trans (hB1.mono (by omega))
            rw [← hW1]
            clear hW1
            go_loopw [8] (fun j wr => ∃ i : Nat, i ≤ k ∧ j = .int .i64 i ∧ anyRest so co (rs.take k) = anyRest so co ((rs.take k).drop i) ∧ ∃ z, wr = W1.ext z) (fun j _ => k - (intOf j).toNat)
            case atStart => exact ⟨0, Nat.zero_le _, rfl, rfl, ext_below (by repeat (first | exact Below.refl _ _ | exact Below.refl (World.heap _).size _ | assumption | refine B_alloc ?_ _ | refine B_ext ?_ _ | refine B_drew ?_ | refine B_drewN ?_ _ | refine B_set ?_ (by simp; omega) _))⟩
            case round =>
              obtain ⟨i, hi, rfl, hfi, zi, rfl⟩ := hrel
              by_cases hik : i < k
              · have hil : i < (rs.take k).length := by simp; omega
                rw [List.drop_eq_getElem_cons hil, anyRest] at hfi
                obtain ⟨b', off', hA, _, hci⟩ := (HR2.out.keep hB1).at hil
                simp only [Option.some.injEq, Addr.mk.injEq, and_true] at hA
                obtain ⟨rfl, rfl⟩ := hA
                have hi0 : W1.cell? ⟨b, off + i * 3, none⟩ = some (.int .i64 (rs.take k)[i].soil) := hci 0 _ rfl
                have hi1 : W1.cell? ⟨b, off + i * 3 + 1, none⟩ = some (.int .i64 (rs.take k)[i].container) := hci 1 _ rfl
                have HFI := Lib.hid hfi
                have HIL : i < rs.length := by omega
                clear hci hfi
                generalize (rs.take k)[i] = s' at *
                obtain ⟨so', co', dy'⟩ := s'
                dsimp only at hi0 hi1 HFI
                cases hq : (so' == so)
                all_goals
                 go_wp2_with fail
                 (refine wp_region_ext_lit (by kernel_rfl) (by kernel_rfl) ?_
                  repeat (first | go_big_quiet_skip | (go_big_quiet_want; go_big_quiet_op; first | go_big_quiet_on | (apply Exists.intro; refine ⟨fun _ => ?_, ?_⟩; (fail); go_big_quiet_on)))
                  refine wpQuiet_nil ?_
                  rintro _ ⟨zq, rfl⟩)
                 go_wp2_with fail
                · go_roundw
                  case rel => exact ⟨i + 1, by omega, by go_num, by rw [HFI.out, if_neg (by simp [hq])], ext_below (by repeat (first | exact Below.refl _ _ | exact Below.refl (World.heap _).size _ | assumption | refine B_alloc ?_ _ | refine B_ext ?_ _ | refine B_drew ?_ | refine B_drewN ?_ _ | refine B_set ?_ (by simp; omega) _))⟩
                  case measure => simp [intOf]; omega
                · have hq2 : (co' == co) = true := by assumption
                  go_ret
                  have ha : anyRest so co (rs.take k) = true := by rw [HFI.out, if_pos (by simp [hq, hq2])]
                  exact Ret.of (int_eq (by rw [HTT.out, HF.out, if_neg (by rw [HX.out]; simp), if_pos ha])) (by repeat (first | exact Below.refl _ _ | exact Below.refl (World.heap _).size _ | assumption | refine B_alloc ?_ _ | refine B_ext ?_ _ | refine B_drew ?_ | refine B_drewN ?_ _ | refine B_set ?_ (by simp; omega) _))
                · have hq2 : (co' == co) = false := by assumption
                  go_roundw
                  case rel => exact ⟨i + 1, by omega, by go_num, by rw [HFI.out, if_neg (by simp [hq, hq2])], ext_below (by repeat (first | exact Below.refl _ _ | exact Below.refl (World.heap _).size _ | assumption | refine B_alloc ?_ _ | refine B_ext ?_ _ | refine B_drew ?_ | refine B_drewN ?_ _ | refine B_set ?_ (by simp; omega) _))⟩
                  case measure => simp [intOf]; omega
              · have hfi2 : anyRest so co (rs.take k) = false := by rw [hfi, List.drop_eq_nil_of_le (by simp; omega)]; rfl
                have HFI := Lib.hid hfi2
                clear hfi hfi2
                go_wp2_with fail
                go_roundw
                case rel => exact ⟨k + 1, by omega, by go_num, by rw [HF.out, if_neg (by rw [HX.out]; simp), HFI.out, if_neg (by simp), HT1.out], ext_below (hB1.trans ((below_ext _ _).mono (by omega)))⟩
                case measure => simp [intOf]; omega
          all_goals
            go_ret
            refine Ret.of (int_eq ?_) (by repeat (first | exact Below.refl _ _ | exact Below.refl (World.heap _).size _ | assumption | refine B_alloc ?_ _ | refine B_ext ?_ _ | refine B_drew ?_ | refine B_drewN ?_ _ | refine B_set ?_ (by simp; omega) _))
            rw [HTT.out, HF.out, if_pos (by simp [*])]
        · have hT3 : sitesR T [] ss = TC := by rw [HTT.out, hf, List.drop_eq_nil_of_le (by omega)]; rfl
          have HT3 := Lib.hid hT3
          clear hT3 HTT hf
          go_wp2_with fail
          go_loop [9] (fun i => ∃ k : Nat, k ≤ 3 ∧ i = .int .i64 k ∧ TC = covK c0 c1 c2 k) (fun i => 3 - (intOf i).toNat)
          case atStart => exact ⟨0, by omega, rfl, HTC.out.symm⟩
          case round =>
            obtain ⟨k, hk, rfl, hf⟩ := hrel
            have HF := Lib.hid hf
            clear hf
            have h4 : k = 0 ∨ k = 1 ∨ k = 2 ∨ k = 3 := by omega
            rcases h4 with rfl | rfl | rfl | rfl
            all_goals go_wp2_with (go_at_call 37; refine (bwithin_any _ _ _ _).mono ?_; intro e wq hq; rcases Ret0.bools hq with ⟨rfl, ⟨hb, rfl⟩ | ⟨hb, rfl⟩⟩ <;> clear hq)
            all_goals first
              | (go_round
                 case rel => first | exact ⟨1, by omega, rfl, by rw [HF.out]; simp [covK, coversP, *]⟩ | exact ⟨2, by omega, rfl, by rw [HF.out]; simp [covK, *]⟩ | exact ⟨3, by omega, rfl, by rw [HF.out]; simp [covK, *]⟩
                 case measure => simp [intOf])
              | (go_ret
                 refine Ret.of (int_eq ?_) (by repeat (first | exact Below.refl _ _ | exact Below.refl (World.heap _).size _ | assumption | refine B_alloc ?_ _ | refine B_ext ?_ _ | refine B_drew ?_ | refine B_drewN ?_ _ | refine B_set ?_ (by simp; omega) _))
                 rw [HT3.out, HF.out]
                 simp [covK, coversP, *])

end Go.Proofs.YtpohkolapgofdaaGreatDoor
