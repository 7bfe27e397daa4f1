/- The law RightLaws, walked. -/
import Derived.Test.YtkhkhnellekofaaGreatDoorRP
import Derived.Test.YtkhkhnellekofaaGreatDoorAX
set_option linter.unusedSimpArgs false
set_option linter.unusedVariables false
namespace Go.Proofs.YtkhkhnellekofaaGreatDoor
open Go.RowKit Go.Shelf
attribute [local go_sem] World.cell?_alloc_mark ext_size ext_cell ext_frozen lt_add_r lt_add_r2 lt_add_r3 lt_add_r4 lt_add_r5 lt_add_r6 lt_add_r7 lt_add_r8
attribute [local go_sem] ext_setCell alloc_setCell_lt

set_option maxRecDepth 100000 in
set_option maxHeartbeats 2000000 in
theorem rightLaws_any (ls : List Law) (A : Option Addr) (c : Nat) (day : Int) (w : World) (hL : Laid5 w) (hS : Sl w 4 Law.cells A ls) :
    Calls Tryz.prog 5 #[.slice A ls.length c, .int .i64 day] w (Ret w (.bool true)) := by
 have HL := Lib.hid hL
 have HS := Lib.hid hS
 have HLO := Lib.hid (fun W (hW : Below w.heap.size w W) => lawOnX_any ls A c day W (hS.keep hW))
 have HCR := Lib.hid (fun W (hW : Below w.heap.size w W) => rCheckLaws_any ls A ls.length c W rfl (hS.keep hW))
 have HCP := Lib.hid (fun W (hW : Below w.heap.size w W) => checkLaws5_any ls A ls.length c W rfl (hS.keep hW))
 unfold lawOnR at HLO
 clear hL hS
 go_enter Tryz.func5, Tryz.ntmps5
 by_cases h20 : 20 < ls.length
 · have h2 : (20 : Int) < (ls.length : Int) := by omega
   clear HLO HCR HCP
   go_wp2_with (go_at_call 15; go_must (refine (awake5_any _ HL.out).mono ?_); rintro e wq ⟨rfl, z0, rfl⟩)
   go_ret
   exact Ret.of rfl Bw
 · have h2 : ¬ (20 : Int) < (ls.length : Int) := by omega
   by_cases h0 : checkLawsP ls = 0
   · have hfew := laws_few h0
     rw [h0] at HLO HCR HCP
     cases hd : isDayP day
     · rw [hd] at HLO
       have hE : (if ((0 : Int) != 0) = true then (noLaw, (0 : Int)) else if false = true then ((lawOnP ls day).v, 0) else (noLaw, 2)) = (noLaw, 2) := rfl
       rw [hE] at HLO
       unfold noLaw at HLO
       simp only at HLO
       clear h0
       go_wp2_with (first
                     | (go_at_call 15; go_must (refine (awake5_any _ HL.out).mono ?_); rintro e wq ⟨rfl, z0, rfl⟩)
                     | (go_at_call 20; go_must (refine (HLO.out _ Bw).mono ?_); rintro e wq ⟨rfl, z1, rfl⟩)
                     | (go_at_call 21; go_must (refine (HCR.out _ Bw).mono ?_); rintro e wq ⟨rfl, z2, rfl⟩)
                     | (go_at_call 22; go_must (refine (HCP.out _ Bw).mono ?_); rintro e wq ⟨rfl, z3, rfl⟩)
                     | (go_at_call 23; go_must (refine (r5IsDay_any _ _).mono ?_); rintro e wq ⟨rfl, rfl⟩; rw [hd]))
       go_ret
       exact Ret.of (by first | rfl | simp) Bw
     · rw [hd] at HLO
       have hE : (if ((0 : Int) != 0) = true then (noLaw, (0 : Int)) else if true = true then ((lawOnP ls day).v, 0) else (noLaw, 2)) = ((lawOnP ls day).v, 0) := rfl
       rw [hE] at HLO
       have HRL := Lib.hid (fun W (hW : Below w.heap.size w W) => rLawOn_any ls A c day W hfew (HS.out.keep hW))
       generalize lawOnP ls day = x at *
       unfold Law.v at HLO HRL
       simp only at HLO
       clear h0
       go_upto_region 13 with (first
                                | (go_at_call 15; go_must (refine (awake5_any _ HL.out).mono ?_); rintro e wq ⟨rfl, z0, rfl⟩)
                                | (go_at_call 20; go_must (refine (HLO.out _ Bw).mono ?_); rintro e wq ⟨rfl, z1, rfl⟩)
                                | (go_at_call 21; go_must (refine (HCR.out _ Bw).mono ?_); rintro e wq ⟨rfl, z2, rfl⟩)
                                | (go_at_call 22; go_must (refine (HCP.out _ Bw).mono ?_); rintro e wq ⟨rfl, z3, rfl⟩)
                                | (go_at_call 23; go_must (refine (r5IsDay_any _ _).mono ?_); rintro e wq ⟨rfl, rfl⟩; rw [hd]))
       (refine wp_region_ext_lit (by kernel_rfl) (by kernel_rfl) ?_
        repeat (first | go_big_quiet_skip | (go_big_quiet_want; go_big_quiet_op; first | go_big_quiet_on | (apply Exists.intro; refine ⟨fun _ => ?_, ?_⟩; (go_at_call 24; exact quietx (HRL.out _ Bw)); go_big_quiet_on)))
        refine wpQuiet_nil ?_
        rintro _ ⟨zq, rfl⟩)
       go_wp2_with fail
       go_ret
       exact Ret.of (by first | rfl | simp) Bw
   · have hne : (checkLawsP ls != 0) = true := by simpa using h0
     rw [hne] at HLO
     simp only [if_true] at HLO
     unfold noLaw at HLO
     generalize checkLawsP ls = E at *
     have h0b : (E == 0) = false := by simpa using h0
     clear hne
     go_wp2_with (first
                   | (go_at_call 15; go_must (refine (awake5_any _ HL.out).mono ?_); rintro e wq ⟨rfl, z0, rfl⟩)
                   | (go_at_call 20; go_must (refine (HLO.out _ Bw).mono ?_); rintro e wq ⟨rfl, z1, rfl⟩)
                   | (go_at_call 21; go_must (refine (HCR.out _ Bw).mono ?_); rintro e wq ⟨rfl, z2, rfl⟩)
                   | (go_at_call 22; go_must (refine (HCP.out _ Bw).mono ?_); rintro e wq ⟨rfl, z3, rfl⟩)
                   | (go_at_call 23; go_must (refine (r5IsDay_any _ _).mono ?_); rintro e wq ⟨rfl, rfl⟩; rw [hd]))
     go_ret
     exact Ret.of (by first | rfl | simp) Bw
end Go.Proofs.YtkhkhnellekofaaGreatDoor
