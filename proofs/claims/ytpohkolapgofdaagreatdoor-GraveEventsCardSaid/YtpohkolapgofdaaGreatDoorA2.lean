/- Walks: the site with a name, the rest of a container. -/
import Derived.Test.YtpohkolapgofdaaGreatDoorA1
namespace Go.Proofs.YtpohkolapgofdaaGreatDoor
open Go.RowKit
attribute [local go_sem] World.cell?_alloc_mark ext_size ext_cell ext_frozen lt_add_r lt_add_r2 lt_add_r3 lt_add_r4 lt_add_r5 lt_add_r6 lt_add_r7 lt_add_r8

set_option maxRecDepth 100000 in
set_option maxHeartbeats 2000000 in
theorem siteOf_any (ss : List Site) (A R : Option Addr) (n c rn rc : Nat) (c0 c1 c2 : Int) (nm : ByteArray) (w : World) (hn : n = ss.length) (hS : Sl w 6 Site.cells A ss) (hl : ss.length ≤ 100000) :
    Calls Tryz.prog 82 #[.agg #[.slice A n c, .slice R rn rc, .int .i64 c0, .int .i64 c1, .int .i64 c2], .string nm] w (Ret w (.pointer (sitePtr A nm ss))) := by
  subst hn
  go_enter Tryz.func82, Tryz.ntmps82
  go_wp2_with fail
  go_loop [5, 9] (fun _ i => ∃ k : Nat, k ≤ ss.length ∧ i = .int .i64 k ∧ siteIdx nm ss 0 = siteIdx nm (ss.drop k) k) (fun _ i => ss.length - (intOf i).toNat)
  case atStart => exact ⟨0, Nat.zero_le _, rfl, rfl⟩
  case round =>
    obtain ⟨k, hk, rfl, hf⟩ := hrel
    by_cases hlt : k < ss.length
    · rw [List.drop_eq_getElem_cons hlt, siteIdx] at hf
      obtain ⟨b, off, rfl, hb, hc⟩ := hS.at hlt
      have h0 : w.cell? ⟨b, off + k * 6, none⟩ = some (.string ss[k].name) := hc 0 _ rfl
      have HF := Lib.hid hf
      clear hc hf hS
      go_wp2_with fail
      · go_ret
        refine Ret.of ?_ (by repeat (first | exact Below.refl _ _ | exact Below.refl (World.heap _).size _ | assumption | refine B_alloc ?_ _ | refine B_ext ?_ _ | refine B_drew ?_ | refine B_drewN ?_ _ | refine B_set ?_ (by simp; omega) _))
        rw [sitePtr, HF.out, if_pos (by assumption)]
        rfl
      · go_round
        case rel => exact ⟨k + 1, by omega, by go_num, by rw [HF.out, if_neg (by simp_all)]⟩
        case measure => simp [intOf]; omega
    · rw [List.drop_eq_nil_of_le (by omega)] at hf
      have HF := Lib.hid hf
      clear hf
      go_wp2_with fail
      go_ret
      refine Ret.of ?_ (by repeat (first | exact Below.refl _ _ | exact Below.refl (World.heap _).size _ | assumption | refine B_alloc ?_ _ | refine B_ext ?_ _ | refine B_drew ?_ | refine B_drewN ?_ _ | refine B_set ?_ (by simp; omega) _))
      rw [sitePtr, HF.out]
      rfl

theorem site_res {w : World} {A : Option Addr} {ss : List Site} (hS : Sl w 6 Site.cells A ss) (nm : ByteArray) : SiteRes w (sitePtr A nm ss) (findSite nm ss) := by
  have h := siteIdx_find nm ss 0
  unfold sitePtr
  cases hi : siteIdx nm ss 0 with
  | none => rw [hi] at h; rw [h]; rfl
  | some j =>
    rw [hi] at h
    obtain ⟨i, s, hj, hs, hf⟩ := h
    obtain rfl : j = i := by omega
    rw [hf]
    have hlt : j < ss.length := (List.getElem?_eq_some_iff.1 hs).1
    obtain ⟨b, off, rfl, hb, hc⟩ := hS.at hlt
    refine ⟨b, _, rfl, hb, fun k u hu => ?_⟩
    refine hc k u ?_
    rw [List.getElem?_eq_getElem hlt] at hs
    simp only [Option.some.injEq] at hs
    rw [hs]; exact hu

set_option maxRecDepth 100000 in
set_option maxHeartbeats 2000000 in
theorem rest_any (rs : List Rest) (A R : Option Addr) (c n rc : Nat) (c0 c1 c2 : Int) (nm : ByteArray) (k so d st r co : Int) (w : World) (hS : Sl w 3 Rest.cells R rs) (hl : rs.length ≤ 100000) :
    Calls Tryz.prog 81 #[.agg #[.slice A n c, .slice R rs.length rc, .int .i64 c0, .int .i64 c1, .int .i64 c2], .agg #[.string nm, .int .i64 k, .int .i64 so, .int .i64 d, .int .i64 st, .int .i64 r], .int .i64 co] w (Ret w (.int .i64 (restP so co rs))) := by
  go_enter Tryz.func81, Tryz.ntmps81
  go_wp2_with fail
  obtain ⟨W0, hW0⟩ : ∃ W0, W0 = (w.alloc (.cells #[.slice A n c, .slice R rs.length rc, .int .i64 c0, .int .i64 c1, .int .i64 c2] 40)).alloc (.cells #[.string nm, .int .i64 k, .int .i64 so, .int .i64 d, .int .i64 st, .int .i64 r] 81) := ⟨_, rfl⟩
  rw [← hW0]
  have hB : Below w.heap.size w W0 := by rw [hW0]; repeat (first | exact Below.refl _ _ | exact Below.refl (World.heap _).size _ | assumption | refine B_alloc ?_ _ | refine B_ext ?_ _ | refine B_drew ?_ | refine B_drewN ?_ _ | refine B_set ?_ (by simp; omega) _)
  have g1 : W0.cell? ⟨w.heap.size + 1, 2, none⟩ = some (.int .i64 so) := by rw [hW0]; simp [go_sem]
  have hz : w.heap.size + 1 < W0.heap.size := by rw [hW0]; simp
  clear hW0
  go_loopw [8, 12] (fun _ i wr => ∃ k : Nat, k ≤ rs.length ∧ i = .int .i64 k ∧ restP so co rs = restP so co (rs.drop k) ∧ ∃ z, wr = W0.ext z) (fun _ i _ => rs.length - (intOf i).toNat)
  case atStart => exact ⟨0, Nat.zero_le _, rfl, rfl, ext_below (Below.refl _ _)⟩
  case round =>
    obtain ⟨k, hk, rfl, hf, z, rfl⟩ := hrel
    by_cases hlt : k < rs.length
    · rw [List.drop_eq_getElem_cons hlt, restP] at hf
      obtain ⟨b, off, rfl, hb, hc⟩ := (hS.keep hB).at hlt
      have h0 : W0.cell? ⟨b, off + k * 3, none⟩ = some (.int .i64 rs[k].soil) := hc 0 _ rfl
      have h1 : W0.cell? ⟨b, off + k * 3 + 1, none⟩ = some (.int .i64 rs[k].container) := hc 1 _ rfl
      have h2 : W0.cell? ⟨b, off + k * 3 + 2, none⟩ = some (.int .i64 rs[k].days) := hc 2 _ rfl
      have HF := Lib.hid hf
      clear hc hf hS
      go_wp2_with fail
      · go_ret
        exact Ret.of (int_eq (by rw [HF.out, if_pos (by simp_all)])) (by repeat (first | exact Below.refl _ _ | exact Below.refl (World.heap _).size _ | assumption | refine B_alloc ?_ _ | refine B_ext ?_ _ | refine B_drew ?_ | refine B_drewN ?_ _ | refine B_set ?_ (by simp; omega) _))
      all_goals
        go_round
        case rel => exact ⟨k + 1, by omega, by go_num, by rw [HF.out, if_neg (by simp_all)], ext_below (by repeat (first | exact Below.refl _ _ | exact Below.refl (World.heap _).size _ | assumption | refine B_alloc ?_ _ | refine B_ext ?_ _ | refine B_drew ?_ | refine B_drewN ?_ _ | refine B_set ?_ (by simp; omega) _))⟩
        case measure => simp [intOf]; omega
    · rw [List.drop_eq_nil_of_le (by omega), restP] at hf
      have HF := Lib.hid hf
      clear hf
      go_wp2_with fail
      go_ret
      exact Ret.of (int_eq (by rw [HF.out])) (by repeat (first | exact Below.refl _ _ | exact Below.refl (World.heap _).size _ | assumption | refine B_alloc ?_ _ | refine B_ext ?_ _ | refine B_drew ?_ | refine B_drewN ?_ _ | refine B_set ?_ (by simp; omega) _))

set_option maxRecDepth 100000 in
set_option maxHeartbeats 2000000 in
theorem takes_any (A R : Option Addr) (n c rn rc : Nat) (c0 c1 c2 : Int) (nm : ByteArray) (k so d st r l co : Int) (w : World) (hco : 0 ≤ co) (hco2 : co ≤ 2) :
    Calls Tryz.prog 102 #[.agg #[.slice A n c, .slice R rn rc, .int .i64 c0, .int .i64 c1, .int .i64 c2], .agg #[.string nm, .int .i64 k, .int .i64 so, .int .i64 d, .int .i64 st, .int .i64 r], .int .i64 l, .int .i64 co] w (Ret w (.bool (takesP c0 c1 c2 k d st l co))) := by
  go_enter Tryz.func102, Tryz.ntmps102
  by_cases hk : k = 0
  · subst hk
    by_cases h2 : co = 2
    · subst h2
      have hd : ((2 : Int) != 2) = false := rfl
      go_wp2_with fail
      go_quiet (fail)
      go_wp2_with fail
      go_ret
      exact Ret.of rfl (by repeat (first | exact Below.refl _ _ | exact Below.refl (World.heap _).size _ | assumption | refine B_alloc ?_ _ | refine B_ext ?_ _ | refine B_drew ?_ | refine B_drewN ?_ _ | refine B_set ?_ (by simp; omega) _))
    · have h01 : co = 0 ∨ co = 1 := by omega
      rcases h01 with rfl | rfl
      all_goals
       go_wp2_with fail
       (refine wp_region_ext_lit (by kernel_rfl) (by kernel_rfl) ?_
        repeat (first | go_big_quiet_skip | (go_big_quiet_want; go_big_quiet_op; first | go_big_quiet_on | (apply Exists.intro; refine ⟨fun _ => ?_, ?_⟩; (go_at_call 117; exact quietx (depth_any _ _ _ _ _ _ _ _)); go_big_quiet_on)))
        refine wpQuiet_nil ?_
        rintro _ ⟨zq, rfl⟩)
       go_wp2_with fail
       go_ret
       exact Ret.of (bool_eq (by simp [takesP, coverOf])) (by repeat (first | exact Below.refl _ _ | exact Below.refl (World.heap _).size _ | assumption | refine B_alloc ?_ _ | refine B_ext ?_ _ | refine B_drew ?_ | refine B_drewN ?_ _ | refine B_set ?_ (by simp; omega) _))
  · go_wp2_with fail
    all_goals go_ret
    all_goals refine Ret.of (bool_eq ?_) (by repeat (first | exact Below.refl _ _ | exact Below.refl (World.heap _).size _ | assumption | refine B_alloc ?_ _ | refine B_ext ?_ _ | refine B_drew ?_ | refine B_drewN ?_ _ | refine B_set ?_ (by simp; omega) _))
    all_goals go_tidy
    all_goals simp_all [takesP]

end Go.Proofs.YtpohkolapgofdaaGreatDoor
