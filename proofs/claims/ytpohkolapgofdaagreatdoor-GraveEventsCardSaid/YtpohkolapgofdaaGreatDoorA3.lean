/- Walks: the reference's names and sites; an event by itself. -/
import Derived.Test.YtpohkolapgofdaaGreatDoorA2
namespace Go.Proofs.YtpohkolapgofdaaGreatDoor
open Go.RowKit
attribute [local go_sem] World.cell?_alloc_mark ext_size ext_cell ext_frozen lt_add_r lt_add_r2 lt_add_r3 lt_add_r4 lt_add_r5 lt_add_r6 lt_add_r7 lt_add_r8

set_option maxRecDepth 100000 in
set_option maxHeartbeats 2000000 in
theorem bIsName_any (s : ByteArray) (w : World) (hs : s.size ≤ 100000) :
    Calls Tryz.prog 38 #[.string s] w (Ret0 w (.bool (isNameR s))) := by
  go_enter Tryz.func38, Tryz.ntmps38
  by_cases h0 : s.size = 0
  · have H0 := Lib.hid h0
    have h1 : (s.size : Int) < 1 := by omega
    clear h0
    go_wp2_with fail
    go_ret
    exact ⟨by simp [isNameR, h1], rfl⟩
  have h0' : 0 < s.size := by omega
  have hg : (bytesI s).getD 0 0 = (s[0].toNat : Int) := by simp only [bytesI, List.getD_eq_getElem?_getD, List.getElem?_map, Array.getElem?_toList]; rw [Array.getElem?_eq_getElem h0']; rfl
  go_wp2_with (first
    | (go_at_call 68; refine (letter_any _ _).mono ?_; intro e wq hq; rcases Ret0.bools hq with ⟨rfl, ⟨hb, rfl⟩ | ⟨hb, rfl⟩⟩ <;> clear hq)
    | (go_at_call 69; refine (digit_any _ _).mono ?_; intro e wq hq; rcases Ret0.bools hq with ⟨rfl, ⟨hb, rfl⟩ | ⟨hb, rfl⟩⟩ <;> clear hq))
  · have HG := Lib.hid hg
    clear hg
    go_loop [3] (fun i => ∃ k : Nat, 1 ≤ k ∧ k ≤ s.size ∧ i = .int .i64 k ∧ nmGoR ((bytesI s).drop 1) = nmGoR ((bytesI s).drop k)) (fun i => s.size - (intOf i).toNat)
    case atStart => exact ⟨1, by omega, by omega, rfl, rfl⟩
    case round =>
      obtain ⟨k, hk1, hk, rfl, hf⟩ := hrel
      by_cases hlt : k < s.size
      · rw [bytesI_drop s k hlt, show s.data[k] = s[k] from rfl] at hf
        have HF := Lib.hid hf
        clear hf
        have HL := Lib.hid hlt
        go_wp2_with (first
          | (go_at_call 68; refine (letter_any _ _).mono ?_; intro e wq hq; rcases Ret0.bools hq with ⟨rfl, ⟨hb, rfl⟩ | ⟨hb, rfl⟩⟩ <;> clear hq)
          | (go_at_call 69; refine (digit_any _ _).mono ?_; intro e wq hq; rcases Ret0.bools hq with ⟨rfl, ⟨hb, rfl⟩ | ⟨hb, rfl⟩⟩ <;> clear hq))
        all_goals first
          | (go_round
             case rel => exact ⟨k + 1, by omega, by have := HL.out; omega, by go_num, by rw [HF.out, nmGoR, if_neg (by simp [*])]⟩
             case measure => have := HL.out; simp [intOf]; omega)
          | (go_ret
             exact ⟨by rw [isNameR, HG.out, HF.out, nmGoR]; simp [*], rfl⟩)
      · have hnil : (bytesI s).drop k = [] := List.drop_eq_nil_of_le (by rw [bytesI_len]; omega)
        rw [hnil, nmGoR] at hf
        clear hnil
        have HF := Lib.hid hf
        clear hf
        go_wp2_with fail
        go_ret
        exact ⟨by rw [isNameR, HG.out, HF.out]; simp [*], rfl⟩
  · go_ret
    exact ⟨by rw [isNameR, hg]; simp [*], rfl⟩
  · go_ret
    exact ⟨by rw [isNameR, hg]; simp [*], rfl⟩

set_option maxRecDepth 100000 in
set_option maxHeartbeats 2000000 in
theorem rCheckSite_any (nm : ByteArray) (k so d st r : Int) (w : World) (hs : nm.size ≤ 100000) :
    Calls Tryz.prog 79 #[.agg #[.string nm, .int .i64 k, .int .i64 so, .int .i64 d, .int .i64 st, .int .i64 r]] w (Ret w (.int .i64 (checkSiteR nm k so d st r))) := by
  have HS := Lib.hid hs
  clear hs
  go_enter Tryz.func79, Tryz.ntmps79
  have h3 : k = 0 ∨ k = 3 ∨ ((k == 0) = false ∧ (k != 0) = true ∧ (k == 3) = false) := by simp; omega
  have hq : ((d != 0) = true) ∨ ((d != 0) = false ∧ (st != 0) = true) ∨ ((d != 0) = false ∧ (st != 0) = false) := by simp; omega
  rcases h3 with rfl | rfl | ⟨h3, h4, h5⟩ <;> rcases hq with hq | ⟨hq, hq2⟩ | ⟨hq, hq2⟩
  all_goals
   go_wp2_with (first
    | (go_at_call 38; refine (bIsName_any _ _ HS.out).mono ?_; intro e wq hq; rcases Ret0.bools hq with ⟨rfl, ⟨hb, rfl⟩ | ⟨hb, rfl⟩⟩ <;> clear hq)
    | (go_at_call 37; refine (bwithin_any _ _ _ _).mono ?_; intro e wq hq; rcases Ret0.bools hq with ⟨rfl, ⟨hb, rfl⟩ | ⟨hb, rfl⟩⟩ <;> clear hq))
  all_goals go_ret
  all_goals refine Ret.of (int_eq ?_) (by repeat (first | exact Below.refl _ _ | exact Below.refl (World.heap _).size _ | assumption | refine B_alloc ?_ _ | refine B_ext ?_ _ | refine B_drew ?_ | refine B_drewN ?_ _ | refine B_set ?_ (by simp; omega) _))
  all_goals go_tidy
  all_goals simp_all [checkSiteR]

set_option maxRecDepth 100000 in
set_option maxHeartbeats 2000000 in
theorem checkEvent_any (dy k : Int) (si : ByteArray) (l : Int) (rm : ByteArray) (c : Int) (o : Bool) (w : World) (hs : si.size ≤ 100000) (hr : rm.size ≤ 100000) :
    Calls Tryz.prog 10 #[.agg #[.int .i64 dy, .int .i64 k, .string si, .int .i64 l, .string rm, .int .i64 c, .bool o]] w (Ret w (.int .i64 (checkEventP ⟨dy, k, si, l, rm, c, o⟩))) := by
  have HS := Lib.hid hs
  have HR := Lib.hid hr
  clear hs hr
  go_enter Tryz.func10, Tryz.ntmps10
  have hk : k = 0 ∨ k = 1 ∨ k = 2 ∨ k = 3 ∨ k = 4 ∨ inR k 0 4 = false := by simp [inR]; omega
  rcases hk with rfl | rfl | rfl | rfl | rfl | hk
  all_goals
   go_wp2_with (first
      | (go_at_call 40; refine (isDay_any _ _).mono ?_; intro e wq hq; rcases Ret0.bools hq with ⟨rfl, ⟨hb, rfl⟩ | ⟨hb, rfl⟩⟩ <;> clear hq)
      | (go_at_call 41; refine (within_any _ _ _ _).mono ?_; intro e wq hq; rcases Ret0.bools hq with ⟨rfl, ⟨hb, rfl⟩ | ⟨hb, rfl⟩⟩ <;> clear hq)
      | (go_at_call 43; refine (isContainer_any _ _).mono ?_; intro e wq hq; rcases Ret0.bools hq with ⟨rfl, ⟨hb, rfl⟩ | ⟨hb, rfl⟩⟩ <;> clear hq)
      | (go_at_call 42; refine (isName_any _ _ (by first | exact HS.out | exact HR.out)).mono ?_; intro e wq hq; rcases Ret.bools hq with ⟨zq, rfl, ⟨hb, rfl⟩ | ⟨hb, rfl⟩⟩ <;> clear hq))
  all_goals go_ret
  all_goals refine Ret.of (int_eq ?_) (by repeat (first | exact Below.refl _ _ | exact Below.refl (World.heap _).size _ | assumption | refine B_alloc ?_ _ | refine B_ext ?_ _ | refine B_drew ?_ | refine B_drewN ?_ _ | refine B_set ?_ (by simp; omega) _))
  all_goals go_tidy
  all_goals simp_all [checkEventP]
end Go.Proofs.YtpohkolapgofdaaGreatDoor
