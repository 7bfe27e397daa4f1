/- Walk: which yards are valid (the program). -/
import Derived.Test.YtpohkolapgofdaaGreatDoorA2
import Derived.Test.YtpohkolapgofdaaGreatDoorM0
namespace Go.Proofs.YtpohkolapgofdaaGreatDoor
open Go.RowKit
attribute [local go_sem] World.cell?_alloc_mark ext_size ext_cell ext_frozen lt_add_r lt_add_r2 lt_add_r3 lt_add_r4 lt_add_r5 lt_add_r6 lt_add_r7 lt_add_r8

def Short (ss : List Site) : Prop := ∀ s ∈ ss, s.name.size ≤ 100000

set_option maxRecDepth 100000 in
set_option maxHeartbeats 2000000 in
theorem checkYard_any (ss : List Site) (rs : List Rest) (A R : Option Addr) (n c rn rc : Nat) (c0 c1 c2 : Int) (w : World) (hn : n = ss.length) (hrn : rn = rs.length) (hS : Sl w 6 Site.cells A ss) (hR : Sl w 3 Rest.cells R rs) (hcap : ss.length ≤ c) (hl : ss.length ≤ 100000) (hlr : rs.length ≤ 100000) (hsh : Short ss) :
    Calls Tryz.prog 75 #[.agg #[.slice A n c, .slice R rn rc, .int .i64 c0, .int .i64 c1, .int .i64 c2]] w (Ret w (.int .i64 (checkYardP ss rs c0 c1 c2))) := by
  subst hn hrn
  go_enter Tryz.func75, Tryz.ntmps75
  by_cases hbig : 60 < (ss.length : Int)
  · go_wp2_with fail
    go_ret
    exact Ret.of (int_eq (by rw [checkYardP, if_pos (by simpa using hbig)])) (by repeat (first | exact Below.refl _ _ | exact Below.refl (World.heap _).size _ | assumption | refine B_alloc ?_ _ | refine B_ext ?_ _ | refine B_drew ?_ | refine B_drewN ?_ _ | refine B_set ?_ (by simp; omega) _))
  have hCY : checkYardP ss rs c0 c1 c2 = sitesP (if decide (40 < (rs.length : Int)) then 8 else restsP (coversP c0 c1 c2) [] rs) [] ss := by rw [checkYardP, if_neg (by simpa using hbig)]
  rw [hCY]
  clear hCY
  generalize hT : (if decide (40 < (rs.length : Int)) = true then 8 else restsP (coversP c0 c1 c2) [] rs) = T
  have HT := Lib.hid hT
  clear hT
  go_wp2_with fail
  obtain ⟨W0, hW0⟩ : ∃ W0, W0 = w.alloc (.cells #[.slice A ss.length c, .slice R rs.length rc, .int .i64 c0, .int .i64 c1, .int .i64 c2] 40) := ⟨_, rfl⟩
  rw [← hW0]
  have hB : Below w.heap.size w W0 := by rw [hW0]; repeat (first | exact Below.refl _ _ | exact Below.refl (World.heap _).size _ | assumption | refine B_alloc ?_ _ | refine B_ext ?_ _ | refine B_drew ?_ | refine B_drewN ?_ _ | refine B_set ?_ (by simp; omega) _)
  have hblk : W0.heap[w.heap.size]? = some (.cells #[.slice A ss.length c, .slice R rs.length rc, .int .i64 c0, .int .i64 c1, .int .i64 c2] 40) := by rw [hW0]; exact heap_alloc_new w _
  have hz : w.heap.size < W0.heap.size := by rw [hW0]; simp
  have g0 : W0.cell? ⟨w.heap.size, 0, none⟩ = some (.slice A ss.length c) := by rw [hW0]; simp [go_sem]
  have g1 : W0.cell? ⟨w.heap.size, 1, none⟩ = some (.slice R rs.length rc) := by rw [hW0]; simp [go_sem]
  clear hW0
  have HBL := Lib.hid hblk
  clear hblk
  go_loopw [3, 4, 5, 19] (fun _ _ _ i wr => ∃ k : Nat, k ≤ ss.length ∧ i = .int .i64 k ∧ sitesP T [] ss = sitesP T (ss.take k) (ss.drop k) ∧ ∃ z, wr = W0.ext z) (fun _ _ _ i _ => ss.length - (intOf i).toNat)
  case atStart => exact ⟨0, Nat.zero_le _, rfl, rfl, ext_below (Below.refl _ _)⟩
  case round =>
    obtain ⟨k, hk, rfl, hf, z, rfl⟩ := hrel
    by_cases hlt : k < ss.length
    · rw [List.drop_eq_getElem_cons hlt, sitesP] at hf
      obtain ⟨b, off, rfl, hb, hc⟩ := (hS.keep hB).at hlt
      have h0 : W0.cell? ⟨b, off + k * 6, none⟩ = some (.string ss[k].name) := hc 0 _ rfl
      have h1 : W0.cell? ⟨b, off + k * 6 + 1, none⟩ = some (.int .i64 ss[k].kind) := hc 1 _ rfl
      have h2 : W0.cell? ⟨b, off + k * 6 + 2, none⟩ = some (.int .i64 ss[k].soil) := hc 2 _ rfl
      have h3 : W0.cell? ⟨b, off + k * 6 + 3, none⟩ = some (.int .i64 ss[k].depth) := hc 3 _ rfl
      have h4 : W0.cell? ⟨b, off + k * 6 + 4, none⟩ = some (.int .i64 ss[k].step) := hc 4 _ rfl
      have h5 : W0.cell? ⟨b, off + k * 6 + 5, none⟩ = some (.int .i64 ss[k].room) := hc 5 _ rfl
      have HSH := Lib.hid (hsh _ (List.getElem_mem hlt))
      have HF := Lib.hid hf
      have ht1 : ss.take (k + 1) = ss.take k ++ [ss[k]] := List.take_succ_eq_append_getElem hlt
      have HT1 := Lib.hid ht1
      clear hc hf ht1
      generalize ss[k] = s at *
      obtain ⟨nm, kd, so, d, st, r⟩ := s
      dsimp only at h0 h1 h2 h3 h4 h5 HSH HF HT1
      go_wp2_with (first
        | (go_at_call 97; refine (checkSite_any _ _ _ _ _ _ _ HSH.out).mono ?_; rintro e wq ⟨rfl, zq, rfl⟩))
      · go_ret
        exact Ret.of (int_eq (by rw [HF.out, if_pos (by assumption)])) (by repeat (first | exact Below.refl _ _ | exact Below.refl (World.heap _).size _ | assumption | refine B_alloc ?_ _ | refine B_ext ?_ _ | refine B_drew ?_ | refine B_drewN ?_ _ | refine B_set ?_ (by simp; omega) _))
      · have hx : (checkSiteP nm kd so d st r != 0) = false := by assumption
        have hS2 := (hS.keep hB).take k
        (refine wp_region_ext_lit (by kernel_rfl) (by kernel_rfl) ?_
         repeat (first | go_big_quiet_skip | (go_big_quiet_want; go_big_quiet_op; first | go_big_quiet_on | (apply Exists.intro; refine ⟨fun _ => ?_, ?_⟩; (go_at_call 82; exact quietx (siteOf_any (ss.take k) _ _ k _ _ _ _ _ _ _ _ (by simp; omega) (hS2.keep (by repeat (first | exact Below.refl _ _ | exact Below.refl (World.heap _).size _ | assumption | refine B_alloc ?_ _ | refine B_ext ?_ _ | refine B_drew ?_ | refine B_drewN ?_ _ | refine B_set ?_ (by simp; omega) _))) (by simp; omega))); go_big_quiet_on)))
         refine wpQuiet_nil ?_
         rintro _ ⟨zq, rfl⟩)
        go_wp2_with fail
        · have hi := sitePtr_isSome ⟨b, off, none⟩ nm (ss.take k)
          have hi2 : (sitePtr (some ⟨b, off, none⟩) nm (ss.take k)).isSome = true := by assumption
          go_ret
          exact Ret.of (int_eq (by rw [HF.out, if_neg (by simp [hx]), if_pos (by rw [← hi]; exact hi2)])) (by repeat (first | exact Below.refl _ _ | exact Below.refl (World.heap _).size _ | assumption | refine B_alloc ?_ _ | refine B_ext ?_ _ | refine B_drew ?_ | refine B_drewN ?_ _ | refine B_set ?_ (by simp; omega) _))
        · have hi := sitePtr_isSome ⟨b, off, none⟩ nm (ss.take k)
          have hi2 : (sitePtr (some ⟨b, off, none⟩) nm (ss.take k)).isSome = false := by assumption
          go_roundw
          case rel => exact ⟨k + 1, by omega, by go_num, by rw [HF.out, if_neg (by simp [hx]), if_neg (by rw [← hi, hi2]; simp), HT1.out], ext_below (by repeat (first | exact Below.refl _ _ | exact Below.refl (World.heap _).size _ | assumption | refine B_alloc ?_ _ | refine B_ext ?_ _ | refine B_drew ?_ | refine B_drewN ?_ _ | refine B_set ?_ (by simp; omega) _))⟩
          case measure => simp [intOf]; omega
    · have hks : k = ss.length := by omega
      have hT1 : sitesP T [] ss = T := by rw [hf, List.drop_eq_nil_of_le (by omega)]; rfl
      have HTT := Lib.hid hT1
      clear hT1 hf hks
      by_cases hrb : 40 < (rs.length : Int)
      · go_wp2_with fail
        go_ret
        exact Ret.of (int_eq (by rw [HTT.out, ← HT.out, if_pos (by simpa using hrb)])) (by repeat (first | exact Below.refl _ _ | exact Below.refl (World.heap _).size _ | assumption | refine B_alloc ?_ _ | refine B_ext ?_ _ | refine B_drew ?_ | refine B_drewN ?_ _ | refine B_set ?_ (by simp; omega) _))
      have hmm := @run_makeMap Tryz.prog
      go_wp2_with fail
      have hS3 : Sl ((W0.ext z).alloc (.map #[] 0)) 3 Rest.cells R rs := hR.keep (by repeat (first | exact Below.refl _ _ | exact Below.refl (World.heap _).size _ | assumption | refine B_alloc ?_ _ | refine B_ext ?_ _ | refine B_drew ?_ | refine B_drewN ?_ _ | refine B_set ?_ (by simp; omega) _))
      have hB1 : Below w.heap.size w ((W0.ext z).alloc (.map #[] 0)) := by repeat (first | exact Below.refl _ _ | exact Below.refl (World.heap _).size _ | assumption | refine B_alloc ?_ _ | refine B_ext ?_ _ | refine B_drew ?_ | refine B_drewN ?_ _ | refine B_set ?_ (by simp; omega) _)
      have hm0 : MapAt ((W0.ext z).alloc (.map #[] 0)) (W0.heap.size + z.os.size) ekK evB [] := by rw [← ext_size]; exact MapAt.new _
      have hbl1 : ((W0.ext z).alloc (.map #[] 0)).heap[w.heap.size]? = some (.cells #[.slice A ss.length c, .slice R rs.length rc, .int .i64 c0, .int .i64 c1, .int .i64 c2] 40) := by
        rw [Below.heap_alloc _ _ _ (by rw [ext_size]; omega), ext_heap_lt _ _ _ hz]; exact HBL.out
      have hwbm : w.heap.size < W0.heap.size + z.os.size := by omega
      obtain ⟨W1, hW1⟩ : ∃ W1, W1 = (W0.ext z).alloc (.map #[] 0) := ⟨_, rfl⟩
      rw [← hW1] at hS3 hB1 hm0 hbl1 ⊢
      clear hW1
      have hT2 : T = restsP (coversP c0 c1 c2) [] rs := by rw [← HT.out, if_neg (by simpa using hrb)]
      have h3 : sitesP T [] ss = restsP (coversP c0 c1 c2) [] rs := HTT.out.trans hT2
      clear hT2 HT HTT
      have HTT := Lib.hid h3
      clear h3
      generalize hTC : coversP c0 c1 c2 = TC at HTT
      have HTC := Lib.hid hTC
      clear hTC hmm hB HBL hS g0 g1 hS3
      generalize W0.heap.size + z.os.size = bm at *
      have HBL1 := Lib.hid hbl1
      clear hbl1
      go_loopw [8, 9, 47] (fun _ _ i wr => ∃ (k : Nat) (m : List ((Int × Int) × Bool)), k ≤ rs.length ∧ i = .int .i64 k ∧ restsP TC [] rs = restsP TC m (rs.drop k) ∧ MapAt wr bm ekK evB m ∧ W1.grownBy wr (some bm)) (fun _ _ i _ => rs.length - (intOf i).toNat)
      case atStart => exact ⟨0, [], Nat.zero_le _, rfl, rfl, hm0, World.grownBy.refl _ _⟩
      case round =>
        obtain ⟨k, m, hk, rfl, hf, hm, hg⟩ := hrel
        by_cases hlt : k < rs.length
        · rw [List.drop_eq_getElem_cons hlt, restsP] at hf
          obtain ⟨b, off, rfl, hb, hc⟩ := hR.at hlt
          have hcw : ∀ o u, w.cell? ⟨b, o, none⟩ = some u → wr.cell? ⟨b, o, none⟩ = some u := fun o u h => hg.cell ((hB1.cell (p := ⟨b, o, none⟩) hb).trans h) (by simp; omega)
          have h0 : wr.cell? ⟨b, off + k * 3, none⟩ = some (.int .i64 rs[k].soil) := hcw _ _ (hc 0 _ rfl)
          have h1 : wr.cell? ⟨b, off + k * 3 + 1, none⟩ = some (.int .i64 rs[k].container) := hcw _ _ (hc 1 _ rfl)
          have h2 : wr.cell? ⟨b, off + k * 3 + 2, none⟩ = some (.int .i64 rs[k].days) := hcw _ _ (hc 2 _ rfl)
          have hbw : b < wr.heap.size := Nat.lt_of_lt_of_le hb (Nat.le_trans hB1.size hg.size)
          have HF := Lib.hid hf
          clear hc hcw hf
          generalize rs[k] = s at *
          obtain ⟨so, co, dy⟩ := s
          dsimp only at h0 h1 h2 HF
          go_wp2_with (first
            | (go_at_call 41; refine (within_any _ _ _ _).mono ?_; intro e wq hq; rcases Ret0.bools hq with ⟨rfl, ⟨hb, rfl⟩ | ⟨hb, rfl⟩⟩ <;> clear hq)
            | (go_at_call 43; refine (isContainer_any _ _).mono ?_; intro e wq hq; rcases Ret0.bools hq with ⟨rfl, ⟨hb, rfl⟩ | ⟨hb, rfl⟩⟩ <;> clear hq)
            | (at_lookup; refine wpList_lookup_run rfl _ _ rfl _ _ rfl rfl _ (run_lookup mapKB ((hm.alloc _).alloc _) (so, co)) ?_)
            | (at_mapUpdate; obtain ⟨w', hrun, hm', hg'⟩ := run_update mapKB ((hm.alloc (.cells #[.int .i64 so, .int .i64 co, .int .i64 dy] 94)).alloc (.cells #[.int .i64 so, .int .i64 co] 158)) (so, co) true; refine wpList_update_run rfl _ _ _ rfl _ _ _ rfl rfl rfl w' hrun ?_))
          · go_ret
            refine Ret.of (int_eq ?_) (grown_below hB1 (grown_alloc (grown_alloc hg _) _) (by omega))
            rw [HTT.out, HF.out, if_neg (by simp [*]), if_pos (by assumption)]
          · have hx : (mget eqK (so, co) m).getD false = false := by assumption
            go_roundw
            case rel => exact ⟨k + 1, _, by omega, by go_num, by rw [HF.out, if_neg (by simp [*]), if_neg (by rw [hx]; simp)], hm', grown_trans (grown_alloc (grown_alloc hg _) _) hg'⟩
            case measure => simp [intOf]; omega
          all_goals
            go_ret
            refine Ret.of (int_eq ?_) (grown_below hB1 (grown_alloc hg _) (by omega))
            rw [HTT.out, HF.out, if_pos (by simp [*])]
        · have hT3 : sitesP T [] ss = TC := by rw [HTT.out, hf, List.drop_eq_nil_of_le (by omega)]; rfl
          have HT3 := Lib.hid hT3
          have hbw : wr.heap[w.heap.size]? = some (.cells #[.slice A ss.length c, .slice R rs.length rc, .int .i64 c0, .int .i64 c1, .int .i64 c2] 40) := by
            rw [hg.block _ (Array.getElem?_eq_some_iff.1 HBL1.out).1 (by simp; omega)]; exact HBL1.out
          have g2 : wr.cell? ⟨w.heap.size, 2, none⟩ = some (.int .i64 c0) := by simp [World.cell?, hbw]
          have g3 : wr.cell? ⟨w.heap.size, 3, none⟩ = some (.int .i64 c1) := by simp [World.cell?, hbw]
          have g4 : wr.cell? ⟨w.heap.size, 4, none⟩ = some (.int .i64 c2) := by simp [World.cell?, hbw]
          have hBw : Below w.heap.size w wr := grown_below hB1 hg (by omega)
          clear hT3 HTT hf hbw hm hm0 hg hB1 HBL1
          obtain ⟨W2, hW2⟩ : ∃ W2 : World, W2 = wr := ⟨_, rfl⟩
          rw [← hW2] at g2 g3 g4 hBw ⊢
          clear hW2
          go_wp2_with fail
          go_loop [11, 80] (fun _ i => ∃ k : Nat, k ≤ 3 ∧ i = .int .i64 k ∧ TC = covK c0 c1 c2 k) (fun _ i => 3 - (intOf i).toNat)
          case atStart => exact ⟨0, by omega, rfl, HTC.out.symm⟩
          case round =>
            obtain ⟨k, hk, rfl, hf⟩ := hrel
            have HF := Lib.hid hf
            clear hf
            have i0 : ∀ W, (Instr.index 38 (.agg #[.int .i64 c0, .int .i64 c1, .int .i64 c2]) (.int .i64 0)).run Tryz.prog W = .ok (.int .i64 c0) W := fun _ => by kernel_rfl
            have i1 : ∀ W, (Instr.index 38 (.agg #[.int .i64 c0, .int .i64 c1, .int .i64 c2]) (.int .i64 1)).run Tryz.prog W = .ok (.int .i64 c1) W := fun _ => by kernel_rfl
            have i2 : ∀ W, (Instr.index 38 (.agg #[.int .i64 c0, .int .i64 c1, .int .i64 c2]) (.int .i64 2)).run Tryz.prog W = .ok (.int .i64 c2) W := fun _ => by kernel_rfl
            have h4 : k = 0 ∨ k = 1 ∨ k = 2 ∨ k = 3 := by omega
            rcases h4 with rfl | rfl | rfl | rfl
            all_goals go_wp2_with (go_at_call 41; refine (within_any _ _ _ _).mono ?_; intro e wq hq; rcases Ret0.bools hq with ⟨rfl, ⟨hb, rfl⟩ | ⟨hb, rfl⟩⟩ <;> clear hq)
            all_goals first
              | (go_round
                 case rel => first | exact ⟨1, by omega, rfl, by rw [HF.out]; simp [covK, coversP, *]⟩ | exact ⟨2, by omega, rfl, by rw [HF.out]; simp [covK, *]⟩ | exact ⟨3, by omega, rfl, by rw [HF.out]; simp [covK, *]⟩
                 case measure => simp [intOf])
              | (go_ret
                 refine Ret.of (int_eq ?_) (by repeat (first | exact Below.refl _ _ | exact Below.refl (World.heap _).size _ | assumption | refine B_alloc ?_ _ | refine B_ext ?_ _ | refine B_drew ?_ | refine B_drewN ?_ _ | refine B_set ?_ (by simp; omega) _))
                 rw [HT3.out, HF.out]
                 simp [covK, coversP, *])

end Go.Proofs.YtpohkolapgofdaaGreatDoor
