/- Walks of the small functions: names, ranges, sites. -/
import Derived.Test.YtpohkolapgofdaaGreatDoorProg
import Derived.Test.YtpohkolapgofdaaGreatDoorK0
import Derived.Test.YtpohkolapgofdaaGreatDoorS0
namespace Go.Proofs.YtpohkolapgofdaaGreatDoor
open Go.RowKit
attribute [local go_sem] World.cell?_alloc_mark ext_size ext_cell ext_frozen lt_add_r lt_add_r2 lt_add_r3 lt_add_r4 lt_add_r5 lt_add_r6 lt_add_r7 lt_add_r8

theorem within_any (n lo hi : Int) (w : World) :
    Calls Tryz.prog 41 #[.int .i64 n, .int .i64 lo, .int .i64 hi] w (Ret0 w (.bool (inR n lo hi))) := by
  go_enter Tryz.func41, Tryz.ntmps41
  go_wp2
  all_goals go_ret
  all_goals (refine ⟨?_, rfl⟩; simp [inR, *])
  omega
theorem bwithin_any (n lo hi : Int) (w : World) :
    Calls Tryz.prog 37 #[.int .i64 n, .int .i64 lo, .int .i64 hi] w (Ret0 w (.bool (inR n lo hi))) := by
  go_enter Tryz.func37, Tryz.ntmps37
  go_wp2
  all_goals go_ret
  all_goals (refine ⟨?_, rfl⟩; simp [inR, *])
  omega
theorem isContainer_any (n : Int) (w : World) : Calls Tryz.prog 43 #[.int .i64 n] w (Ret0 w (.bool (inR n 0 2))) := by
  go_enter Tryz.func43, Tryz.ntmps43
  go_wp2_with (go_at_call 41; refine (within_any _ _ _ _).mono ?_; rintro e w2 ⟨rfl, rfl⟩)
  go_ret
  exact ⟨rfl, rfl⟩
theorem isDay_any (n : Int) (w : World) : Calls Tryz.prog 40 #[.int .i64 n] w (Ret0 w (.bool (inR n 0 200000))) := by
  go_enter Tryz.func40, Tryz.ntmps40
  go_wp2_with (go_at_call 41; refine (within_any _ _ _ _).mono ?_; rintro e w2 ⟨rfl, rfl⟩)
  go_ret
  exact ⟨rfl, rfl⟩
theorem rIsContainer_any (n : Int) (w : World) : Calls Tryz.prog 39 #[.int .i64 n] w (Ret0 w (.bool (inR n 0 2))) := by
  go_enter Tryz.func39, Tryz.ntmps39
  go_wp2_with (go_at_call 37; refine (bwithin_any _ _ _ _).mono ?_; rintro e w2 ⟨rfl, rfl⟩)
  go_ret
  exact ⟨rfl, rfl⟩
theorem rIsDay_any (n : Int) (w : World) : Calls Tryz.prog 36 #[.int .i64 n] w (Ret0 w (.bool (inR n 0 200000))) := by
  go_enter Tryz.func36, Tryz.ntmps36
  go_wp2_with (go_at_call 37; refine (bwithin_any _ _ _ _).mono ?_; rintro e w2 ⟨rfl, rfl⟩)
  go_ret
  exact ⟨rfl, rfl⟩
theorem letter_any (n : Int) (w : World) : Calls Tryz.prog 68 #[.int .u8 n] w (Ret0 w (.bool (letterI n))) := by
  go_enter Tryz.func68, Tryz.ntmps68
  go_wp2
  all_goals go_ret
  all_goals refine ⟨?_, rfl⟩
  all_goals refine bool_eq' ?_
  all_goals go_tidy
  all_goals simp [letterI]
  all_goals omega
theorem digit_any (n : Int) (w : World) : Calls Tryz.prog 69 #[.int .u8 n] w (Ret0 w (.bool (digitI n))) := by
  go_enter Tryz.func69, Tryz.ntmps69
  go_wp2
  all_goals go_ret
  all_goals refine ⟨?_, rfl⟩
  all_goals refine bool_eq' ?_
  all_goals go_tidy
  all_goals simp [digitI]
  all_goals omega

set_option maxRecDepth 100000 in
set_option maxHeartbeats 2000000 in
theorem isName_any (s : ByteArray) (w : World) (hs : s.size ≤ 100000) :
    Calls Tryz.prog 42 #[.string s] w (Ret w (.bool (isNameP s))) := by
  have hcv := fun W => run_bytes_of_string (P := Tryz.prog) W 9 96 5 s Tryz.underlying9 Tryz.underlying96 Tryz.underlying5
  go_enter Tryz.func42, Tryz.ntmps42
  go_wp2_with fail
  go_loop [3, 4, 5, 9] (fun _ _ _ i => ∃ k : Nat, k ≤ s.size ∧ i = .int .i64 k ∧ nmGo (bytesI s) 0 = nmGo ((bytesI s).drop k) k) (fun _ _ _ i => s.size - (intOf i).toNat)
  case atStart => exact ⟨0, Nat.zero_le _, rfl, rfl⟩
  case round =>
    obtain ⟨k, hk, rfl, hf⟩ := hrel
    by_cases hlt : k < s.size
    · have h1 : (bytesRow s (grownCap w s.size 0 5))[k]? = some (.int .u8 (s.data[k].toNat : Int)) := bytesRow_at s _ k hlt
      rw [bytesI_drop s k hlt] at hf
      have HF := Lib.hid hf
      clear hf
      generalize (s.data[k].toNat : Int) = c at *
      go_wp2_with fail
      all_goals first
        | (go_round
           case rel => exact ⟨k + 1, by omega, by go_num, by rw [HF.out, nmGo, if_neg (by go_tidy; simp [letterI] at *; omega)]⟩
           case measure => simp [intOf]; omega)
        | (go_ret
           refine Ret.of ?_ ((Below.refl _ _).alloc (Nat.le_refl _) _).drew
           refine bool_eq ?_
           rw [isNameP, HF.out, nmGo, if_pos (by go_tidy; simp [letterI] at *; omega)]
           rfl)
    · rw [List.drop_eq_nil_of_le (by rw [bytesI_len]; omega)] at hf
      go_wp2_with fail
      all_goals go_ret
      all_goals refine Ret.of ?_ ((Below.refl _ _).alloc (Nat.le_refl _) _).drew
      all_goals simp [isNameP, hf, nmGo, *]

set_option maxRecDepth 100000 in
set_option maxHeartbeats 2000000 in
theorem depth_any (nm : ByteArray) (k so d st r l : Int) (w : World) :
    Calls Tryz.prog 117 #[.agg #[.string nm, .int .i64 k, .int .i64 so, .int .i64 d, .int .i64 st, .int .i64 r], .int .i64 l] w (Ret w (.int .i64 (depthP k d st l))) := by
  go_enter Tryz.func117, Tryz.ntmps117
  go_wp2_with fail
  all_goals go_ret
  all_goals refine Ret.of ?_ ((Below.refl _ _).alloc (Nat.le_refl _) _)
  · simp [depthP, *]
  · simp_all [depthP]

set_option maxRecDepth 100000 in
set_option maxHeartbeats 2000000 in
theorem checkSite_any (nm : ByteArray) (k so d st r : Int) (w : World) (hs : nm.size ≤ 100000) :
    Calls Tryz.prog 97 #[.agg #[.string nm, .int .i64 k, .int .i64 so, .int .i64 d, .int .i64 st, .int .i64 r]] w (Ret w (.int .i64 (checkSiteP nm k so d st r))) := by
  have HS := Lib.hid hs
  clear hs
  go_enter Tryz.func97, Tryz.ntmps97
  go_wp2_with (first
    | (go_at_call 42; refine (isName_any _ _ HS.out).mono ?_; rintro e w1 ⟨rfl, z1, rfl⟩)
    | (go_at_call 41; refine (within_any _ _ _ _).mono ?_; rintro e w2 ⟨rfl, rfl⟩)
    | (go_at_call 117; refine (depth_any _ _ _ _ _ _ _ _).mono ?_; rintro e w3 ⟨rfl, z2, rfl⟩))
  all_goals go_ret
  all_goals refine Ret.of ?_ (by repeat (first | exact Below.refl _ _ | exact Below.refl (World.heap _).size _ | assumption | refine B_alloc ?_ _ | refine B_ext ?_ _ | refine B_drew ?_ | refine B_drewN ?_ _ | refine B_set ?_ (by simp; omega) _))
  all_goals go_tidy
  all_goals refine int_eq ?_
  all_goals simp_all [checkSiteP]

end Go.Proofs.YtpohkolapgofdaaGreatDoor
