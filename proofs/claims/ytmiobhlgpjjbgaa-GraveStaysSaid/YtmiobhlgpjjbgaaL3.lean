/- Walk: the law GraveLevels. -/
import Derived.Test.YtmiobhlgpjjbgaaL1
import Derived.Test.YtmiobhlgpjjbgaaL2
namespace Go.Proofs.Ytmiobhlgpjjbgaa
open Go.RowKit
attribute [local go_sem] World.cell?_alloc_mark ext_size ext_cell ext_frozen lt_add_r lt_add_r2 lt_add_r3 lt_add_r4 lt_add_r5 lt_add_r6 lt_add_r7 lt_add_r8

theorem depth_same {nm : ByteArray} {k so d st r : Int} (h : checkSiteP nm k so d st r = 0) (l : Int) : wrap64 (d - wrap64 (st * l)) = depthP k d st l := by
  unfold depthP
  split
  · rename_i hk
    unfold checkSiteP at h
    split at h
    · simp at h
    split at h
    · simp at h
    split at h
    · simp at h
    split at h
    · simp at h
    split at h
    · simp at h
    rename_i h5
    have hd : d = 0 := by simp_all
    have hs : st = 0 := by simp_all
    subst hd hs
    simp [wrap64]
  · rfl
theorem siteIdx_some {nm : ByteArray} {ss : List Site} {s : Site} (h : findSite nm ss = some s) : ∃ k : Nat, siteIdx nm ss 0 = some k ∧ ss[k]? = some s := by
  have := siteIdx_find nm ss 0
  split at this
  · rw [h] at this; cases this
  · rename_i j hj
    obtain ⟨i, s', rfl, hi, hf⟩ := this
    rw [h] at hf
    cases hf
    exact ⟨_, hj, by simpa using hi⟩
theorem siteIdx_none {nm : ByteArray} {ss : List Site} (h : findSite nm ss = none) : siteIdx nm ss 0 = none := by
  have := siteIdx_find nm ss 0
  split at this
  · assumption
  · obtain ⟨i, s', _, _, hf⟩ := this
    rw [h] at hf
    cases hf
theorem rDepth_any' (nm : ByteArray) (k so d st r l : Int) (w : World) (h : checkSiteP nm k so d st r = 0) :
    Calls Try.prog 31 #[.agg #[.string nm, .int .i64 k, .int .i64 so, .int .i64 d, .int .i64 st, .int .i64 r], .int .i64 l] w (Ret w (.int .i64 (depthP k d st l))) := by
  rw [← depth_same h l]
  exact rDepth_any nm k so d st r l w
theorem cell_kept {w W : World} {b o : Nat} {v : Value} (h : b < w.heap.size) (g : w.cell? ⟨b, o, none⟩ = some v) (hb : Below w.heap.size w W) : W.cell? ⟨b, o, none⟩ = some v := (hb.cell (p := ⟨b, o, none⟩) h).trans g


set_option maxRecDepth 100000 in
set_option maxHeartbeats 2000000 in
theorem graveLevels_any (ss : List Site) (rs : List Rest) (A R : Option Addr) (n c rn rc : Nat) (c0 c1 c2 : Int) (nm : ByteArray) (lv co : Int) (w : World) (hy : YardRaw w ss rs A n c R rn rc) :
    Calls Try.prog 5 #[.agg #[.slice A n c, .slice R rn rc, .int .i64 c0, .int .i64 c1, .int .i64 c2], .agg #[.string nm, .int .i64 lv], .int .i64 co] w (Ret w (.bool true)) := by
  have h1 := hy.hn
  have h2 := hy.hrn
  subst h1 h2
  go_enter Try.func5, Try.ntmps5
  cases hsm : smallP ss rs
  · go_wp2_with (first
                      | (go_at_call 12; refine (awake_any _).mono ?_; rintro e wq ⟨rfl, za, rfl⟩)
                      | (go_at_call 13; refine (small_any ss rs _ _ _ _ _ _ _ _ _ _ (hy.keep (by repeat (first | exact B_refl | exact Below.refl _ _ | assumption | with_reducible refine B_alloc ?_ _ | with_reducible refine B_ext ?_ _ | with_reducible refine B_drew ?_ | with_reducible refine B_drewN ?_ _ | with_reducible refine B_set ?_ (by simp; omega) _)))).mono ?_; rintro e wq ⟨rfl, zs, rfl⟩; rw [hsm]))
    go_ret
    exact Ret.of rfl (by repeat (first | exact B_refl | exact Below.refl _ _ | assumption | with_reducible refine B_alloc ?_ _ | with_reducible refine B_ext ?_ _ | with_reducible refine B_drew ?_ | with_reducible refine B_drewN ?_ _ | with_reducible refine B_set ?_ (by simp; omega) _))
  · obtain ⟨hyi, hl1, hl2⟩ := small_yard hy hsm
    have hc63 : ss.length ≤ 100000 := by omega
    have hc43 : rs.length ≤ 100000 := by omega
    obtain ⟨⟨n0, e0⟩, hRR⟩ : ∃ p, restOfR (findR ss rs c0 c1 c2 nm) rs co = p := ⟨_, rfl⟩
    obtain ⟨⟨m0, f0⟩, hDR⟩ : ∃ p, depthOfR (findR ss rs c0 c1 c2 nm) lv = p := ⟨_, rfl⟩
    obtain ⟨⟨i0, o0⟩, hTR⟩ : ∃ p, takesR c0 c1 c2 (findR ss rs c0 c1 c2 nm) lv co = p := ⟨_, rfl⟩
    have HRR := Lib.hid hRR
    have HDR := Lib.hid hDR
    have HTR := Lib.hid hTR
    clear hRR hDR hTR
    go_wp2_with (first
                      | (go_at_call 12; refine (awake_any _).mono ?_; rintro e wq ⟨rfl, za, rfl⟩)
                      | (go_at_call 13; refine (small_any ss rs _ _ _ _ _ _ _ _ _ _ (hy.keep (by repeat (first | exact B_refl | exact Below.refl _ _ | assumption | with_reducible refine B_alloc ?_ _ | with_reducible refine B_ext ?_ _ | with_reducible refine B_drew ?_ | with_reducible refine B_drewN ?_ _ | with_reducible refine B_set ?_ (by simp; omega) _)))).mono ?_; rintro e wq ⟨rfl, zs, rfl⟩; rw [hsm]))
    all_goals first
      | (go_ret; exact Ret.of rfl (by repeat (first | exact B_refl | exact Below.refl _ _ | assumption | with_reducible refine B_alloc ?_ _ | with_reducible refine B_ext ?_ _ | with_reducible refine B_drew ?_ | with_reducible refine B_drewN ?_ _ | with_reducible refine B_set ?_ (by simp; omega) _)))
      | skip
    generalize hW0 : World.ext (World.ext ((w.alloc (.cells #[.slice A ss.length c, .slice R rs.length rc, .int .i64 c0, .int .i64 c1, .int .i64 c2] 26)).alloc (.cells #[.string nm, .int .i64 lv] 54)) za) zs = W0
    have hB : Below w.heap.size w W0 := by rw [← hW0]; repeat (first | exact B_refl | exact Below.refl _ _ | assumption | with_reducible refine B_alloc ?_ _ | with_reducible refine B_ext ?_ _ | with_reducible refine B_drew ?_ | with_reducible refine B_drewN ?_ _ | with_reducible refine B_set ?_ (by simp; omega) _)
    have hblk : W0.heap[w.heap.size]? = some (.cells #[.slice A ss.length c, .slice R rs.length rc, .int .i64 c0, .int .i64 c1, .int .i64 c2] 26) := by rw [← hW0]; (repeat (first | with_reducible exact G_new _ _ _ (by simp) | with_reducible exact G_new _ _ _ (by simp [ext_size]) | with_reducible refine G_drew ?_ | with_reducible refine G_ext ?_ | with_reducible refine G_alloc ?_))
    have hblk1 : W0.heap[w.heap.size + 1]? = some (.cells #[.string nm, .int .i64 lv] 54) := by rw [← hW0]; (repeat (first | with_reducible exact G_new _ _ _ (by simp) | with_reducible exact G_new _ _ _ (by simp [ext_size]) | with_reducible refine G_drew ?_ | with_reducible refine G_ext ?_ | with_reducible refine G_alloc ?_))
    have hz := blk_lt hblk
    have hz1 := blk_lt hblk1
    have g0 : W0.cell? ⟨w.heap.size, 0, none⟩ = some (.slice A ss.length c) := by simp [World.cell?, hblk]
    have g1 : W0.cell? ⟨w.heap.size, 1, none⟩ = some (.slice R rs.length rc) := by simp [World.cell?, hblk]
    have g2 : W0.cell? ⟨w.heap.size, 2, none⟩ = some (.int .i64 c0) := by simp [World.cell?, hblk]
    have g3 : W0.cell? ⟨w.heap.size, 3, none⟩ = some (.int .i64 c1) := by simp [World.cell?, hblk]
    have g4 : W0.cell? ⟨w.heap.size, 4, none⟩ = some (.int .i64 c2) := by simp [World.cell?, hblk]
    have g5 : W0.cell? ⟨w.heap.size + 1, 0, none⟩ = some (.string nm) := by simp [World.cell?, hblk1]
    have g6 : W0.cell? ⟨w.heap.size + 1, 1, none⟩ = some (.int .i64 lv) := by simp [World.cell?, hblk1]
    clear hW0 hblk hblk1 hsm hy
    go_region_held3 (fun w' => w'.cell? ⟨w.heap.size, 0, none⟩ = some (.slice A ss.length c) ∧ w'.cell? ⟨w.heap.size, 1, none⟩ = some (.slice R rs.length rc) ∧ w'.cell? ⟨w.heap.size, 2, none⟩ = some (.int .i64 c0) ∧ w'.cell? ⟨w.heap.size, 3, none⟩ = some (.int .i64 c1) ∧ w'.cell? ⟨w.heap.size, 4, none⟩ = some (.int .i64 c2) ∧ w'.cell? ⟨w.heap.size + 1, 0, none⟩ = some (.string nm) ∧ w'.cell? ⟨w.heap.size + 1, 1, none⟩ = some (.int .i64 lv))
                      ((refine ⟨cell_kept hz g0 ?_, cell_kept hz g1 ?_, cell_kept hz g2 ?_, cell_kept hz g3 ?_, cell_kept hz g4 ?_, cell_kept hz1 g5 ?_, cell_kept hz1 g6 ?_⟩ <;> ((repeat (first | exact B_refl | exact Below.refl _ _ | assumption | with_reducible refine B_alloc ?_ _ | with_reducible refine B_ext ?_ _ | with_reducible refine B_drew ?_ | with_reducible refine B_drewN ?_ _ | with_reducible refine B_set ?_ (by simp; omega) _)); done)))
      (first
        | (go_at_call 17; refine (copyYard_any ss rs _ _ _ _ _ _ _ _ _ _ (hyi.keep (m := w.heap.size) ?q1)).mono ?_
           case q1 => repeat (first | exact B_refl | exact Below.refl _ _ | assumption | with_reducible refine B_alloc ?_ _ | with_reducible refine B_ext ?_ _ | with_reducible refine B_drew ?_ | with_reducible refine B_drewN ?_ _ | with_reducible refine B_set ?_ (by simp; omega) _)
           intro e wq hq; obtain ⟨A2, k2, R2, r2, rfl, hy2, zc1, rfl⟩ := hq.form hc63 hc43 hyi.sh; clear hq)
        | (go_at_call 24; refine (restOf_any ss rs _ _ _ _ _ _ _ _ _ _ _ _ (hy2.keep ?q1)).mono ?_
           case q1 => repeat (first | exact B_refl | exact Below.refl _ _ | assumption | with_reducible refine B_alloc ?_ _ | with_reducible refine B_ext ?_ _ | with_reducible refine B_drew ?_ | with_reducible refine B_drewN ?_ _ | with_reducible refine B_set ?_ (by simp; omega) _)
           rintro e wq ⟨rfl, zd1, rfl⟩
           rw [HRR.out]
           unfold ret2))
    go_wp2_with fail
    go_region_held3 (fun w' => w'.cell? ⟨w.heap.size, 0, none⟩ = some (.slice A ss.length c) ∧ w'.cell? ⟨w.heap.size, 1, none⟩ = some (.slice R rs.length rc) ∧ w'.cell? ⟨w.heap.size, 2, none⟩ = some (.int .i64 c0) ∧ w'.cell? ⟨w.heap.size, 3, none⟩ = some (.int .i64 c1) ∧ w'.cell? ⟨w.heap.size, 4, none⟩ = some (.int .i64 c2) ∧ w'.cell? ⟨w.heap.size + 1, 0, none⟩ = some (.string nm) ∧ w'.cell? ⟨w.heap.size + 1, 1, none⟩ = some (.int .i64 lv))
                      ((refine ⟨cell_kept hz g0 ?_, cell_kept hz g1 ?_, cell_kept hz g2 ?_, cell_kept hz g3 ?_, cell_kept hz g4 ?_, cell_kept hz1 g5 ?_, cell_kept hz1 g6 ?_⟩ <;> ((repeat (first | exact B_refl | exact Below.refl _ _ | assumption | with_reducible refine B_alloc ?_ _ | with_reducible refine B_ext ?_ _ | with_reducible refine B_drew ?_ | with_reducible refine B_drewN ?_ _ | with_reducible refine B_set ?_ (by simp; omega) _)); done)))
      (first
        | (go_at_call 17; refine (copyYard_any ss rs _ _ _ _ _ _ _ _ _ _ (hyi.keep (m := w.heap.size) ?q1)).mono ?_
           case q1 => repeat (first | exact B_refl | exact Below.refl _ _ | assumption | with_reducible refine B_alloc ?_ _ | with_reducible refine B_ext ?_ _ | with_reducible refine B_drew ?_ | with_reducible refine B_drewN ?_ _ | with_reducible refine B_set ?_ (by simp; omega) _)
           intro e wq hq; obtain ⟨A2, k2, R2, r2, rfl, hy2, zc2, rfl⟩ := hq.form hc63 hc43 hyi.sh; clear hq)
        | (go_at_call 25; refine (depthOf_any ss rs _ _ _ _ _ _ _ _ _ _ _ _ (hy2.keep ?q1)).mono ?_
           case q1 => repeat (first | exact B_refl | exact Below.refl _ _ | assumption | with_reducible refine B_alloc ?_ _ | with_reducible refine B_ext ?_ _ | with_reducible refine B_drew ?_ | with_reducible refine B_drewN ?_ _ | with_reducible refine B_set ?_ (by simp; omega) _)
           rintro e wq ⟨rfl, zd2, rfl⟩
           rw [HDR.out]
           unfold ret2))
    go_wp2_with fail
    go_region_held3 (fun w' => w'.cell? ⟨w.heap.size, 0, none⟩ = some (.slice A ss.length c) ∧ w'.cell? ⟨w.heap.size, 1, none⟩ = some (.slice R rs.length rc) ∧ w'.cell? ⟨w.heap.size, 2, none⟩ = some (.int .i64 c0) ∧ w'.cell? ⟨w.heap.size, 3, none⟩ = some (.int .i64 c1) ∧ w'.cell? ⟨w.heap.size, 4, none⟩ = some (.int .i64 c2) ∧ w'.cell? ⟨w.heap.size + 1, 0, none⟩ = some (.string nm) ∧ w'.cell? ⟨w.heap.size + 1, 1, none⟩ = some (.int .i64 lv))
                      ((refine ⟨cell_kept hz g0 ?_, cell_kept hz g1 ?_, cell_kept hz g2 ?_, cell_kept hz g3 ?_, cell_kept hz g4 ?_, cell_kept hz1 g5 ?_, cell_kept hz1 g6 ?_⟩ <;> ((repeat (first | exact B_refl | exact Below.refl _ _ | assumption | with_reducible refine B_alloc ?_ _ | with_reducible refine B_ext ?_ _ | with_reducible refine B_drew ?_ | with_reducible refine B_drewN ?_ _ | with_reducible refine B_set ?_ (by simp; omega) _)); done)))
      (first
        | (go_at_call 17; refine (copyYard_any ss rs _ _ _ _ _ _ _ _ _ _ (hyi.keep (m := w.heap.size) ?q1)).mono ?_
           case q1 => repeat (first | exact B_refl | exact Below.refl _ _ | assumption | with_reducible refine B_alloc ?_ _ | with_reducible refine B_ext ?_ _ | with_reducible refine B_drew ?_ | with_reducible refine B_drewN ?_ _ | with_reducible refine B_set ?_ (by simp; omega) _)
           intro e wq hq; obtain ⟨A2, k2, R2, r2, rfl, hy2, zc3, rfl⟩ := hq.form hc63 hc43 hyi.sh; clear hq)
        | (go_at_call 26; refine (gTakes_any ss rs _ _ _ _ _ _ _ _ _ _ _ _ _ (hy2.keep ?q1)).mono ?_
           case q1 => repeat (first | exact B_refl | exact Below.refl _ _ | assumption | with_reducible refine B_alloc ?_ _ | with_reducible refine B_ext ?_ _ | with_reducible refine B_drew ?_ | with_reducible refine B_drewN ?_ _ | with_reducible refine B_set ?_ (by simp; omega) _)
           rintro e wq ⟨rfl, zd3, rfl⟩
           rw [HTR.out]
           unfold ret2b))
    generalize hW1 : World.ext (World.ext (World.drew (World.ext (World.ext (World.drew (World.ext (World.ext (World.drew W0) zc1) zd1)) zc2) zd2)) zc3) zd3 = W1
    have hB1 : Below w.heap.size w W1 := by rw [← hW1]; repeat (first | exact B_refl | exact Below.refl _ _ | assumption | with_reducible refine B_alloc ?_ _ | with_reducible refine B_ext ?_ _ | with_reducible refine B_drew ?_ | with_reducible refine B_drewN ?_ _ | with_reducible refine B_set ?_ (by simp; omega) _)
    have hB01 : Below W0.heap.size W0 W1 := by rw [← hW1]; repeat (first | exact B_refl | exact Below.refl _ _ | assumption | with_reducible refine B_alloc ?_ _ | with_reducible refine B_ext ?_ _ | with_reducible refine B_drew ?_ | with_reducible refine B_drewN ?_ _ | with_reducible refine B_set ?_ (by simp; omega) _)
    have k0 := cell_kept hz g0 hB01
    have k1 := cell_kept hz g1 hB01
    have k2 := cell_kept hz g2 hB01
    have k3 := cell_kept hz g3 hB01
    have k4 := cell_kept hz g4 hB01
    have k5 := cell_kept hz1 g5 hB01
    have k6 := cell_kept hz1 g6 hB01
    have j0 : w.heap.size < W1.heap.size := Nat.lt_of_lt_of_le hz hB01.size
    have j1 : w.heap.size + 1 < W1.heap.size := Nat.lt_of_lt_of_le hz1 hB01.size
    clear hW1 hB01 g0 g1 g2 g3 g4 g5 g6 hz hz1 hB
    have e1 := HRR.out
    have e2 := HDR.out
    have e3 := HTR.out
    clear HRR HDR HTR
    cases hc : (checkYardP ss rs c0 c1 c2 != 0)
    · have hcy : checkYardP ss rs c0 c1 c2 = 0 := by simpa using hc
      cases hf : findSite nm ss with
      | none =>
        have hF : findR ss rs c0 c1 c2 nm = (zeroSite, 6) := by rw [findR, hc, if_neg Bool.false_ne_true, hf]
        have hsi : rSiteR nm ss = -1 := by rw [rSiteR, siteIdx_none hf]
        rw [hF] at e1 e2 e3
        simp [restOfR, depthOfR, takesR] at e1 e2 e3
        obtain ⟨rfl, rfl⟩ := e1
        obtain ⟨rfl, rfl⟩ := e2
        obtain ⟨rfl, rfl⟩ := e3
        clear hF hf hc
        go_wp2_with (first
                              | (go_at_call 18; refine (rCheckYard_any' ss rs _ _ _ _ _ _ _ _ _ _ (hyi.keep (m := w.heap.size) (by repeat (first | exact B_refl | exact Below.refl _ _ | assumption | with_reducible refine B_alloc ?_ _ | with_reducible refine B_ext ?_ _ | with_reducible refine B_drew ?_ | with_reducible refine B_drewN ?_ _ | with_reducible refine B_set ?_ (by simp; omega) _)))).mono ?_; rintro e wq ⟨rfl, zr, rfl⟩; rw [hcy])
                              | (go_at_call 27; refine (rSite_any ss rs _ _ _ _ _ _ _ _ _ _ _ (hyi.keep (m := w.heap.size) (by repeat (first | exact B_refl | exact Below.refl _ _ | assumption | with_reducible refine B_alloc ?_ _ | with_reducible refine B_ext ?_ _ | with_reducible refine B_drew ?_ | with_reducible refine B_drewN ?_ _ | with_reducible refine B_set ?_ (by simp; omega) _)))).mono ?_; rintro e wq ⟨rfl, zt, rfl⟩; rw [hsi]))
        go_ret
        exact Ret.of rfl (by repeat (first | exact B_refl | exact Below.refl _ _ | assumption | with_reducible refine B_alloc ?_ _ | with_reducible refine B_ext ?_ _ | with_reducible refine B_drew ?_ | with_reducible refine B_drewN ?_ _ | with_reducible refine B_set ?_ (by simp; omega) _))
      | some s =>
        have hF : findR ss rs c0 c1 c2 nm = (s, 0) := by rw [findR, hc, if_neg Bool.false_ne_true, hf]
        obtain ⟨i, hik, hgk⟩ := siteIdx_some hf
        have hsi : rSiteR nm ss = (i : Int) := by rw [rSiteR, hik]
        obtain ⟨hlt, hse⟩ := List.getElem?_eq_some_iff.1 hgk
        have hgood := yard_room hcy s (findSite_mem hf)
        obtain ⟨hr1, hr2, _⟩ := checkSite_room hgood
        obtain ⟨b, off, rfl, hb, hcl⟩ := (hyi.sl.keep (n := w.heap.size) hB1).at hlt
        rw [hse] at hcl
        have x0 : W1.cell? ⟨b, off + i * 6, none⟩ = some (.string s.name) := hcl 0 _ rfl
        have x1 : W1.cell? ⟨b, off + i * 6 + 1, none⟩ = some (.int .i64 s.kind) := hcl 1 _ rfl
        have x2 : W1.cell? ⟨b, off + i * 6 + 2, none⟩ = some (.int .i64 s.soil) := hcl 2 _ rfl
        have x3 : W1.cell? ⟨b, off + i * 6 + 3, none⟩ = some (.int .i64 s.depth) := hcl 3 _ rfl
        have x4 : W1.cell? ⟨b, off + i * 6 + 4, none⟩ = some (.int .i64 s.step) := hcl 4 _ rfl
        have x5 : W1.cell? ⟨b, off + i * 6 + 5, none⟩ = some (.int .i64 s.room) := hcl 5 _ rfl
        have hlt2 : (i : Int) < (ss.length : Int) := by omega
        have hi0 : ¬ ((i : Int) < 0) := by omega
        rw [hF] at e1 e2 e3
        clear hF hf hc hik hgk hse hcl
        obtain ⟨a, k, so, d, st, r⟩ := s
        dsimp only at x0 x1 x2 x3 x4 x5 hgood hr1 hr2
        have hIC := fun w => rIsContainer_any co w
        have hWI := fun w => bwithin_any lv 0 (r - 1) w
        cases hgc : inR co 0 2 <;> cases hgl : inR lv 0 (r - 1) <;> simp only [hgc] at hIC <;> simp only [hgl] at hWI <;> simp [restOfR, depthOfR, takesR, hgc, hgl] at e1 e2 e3 <;> obtain ⟨rfl, rfl⟩ := e1 <;> obtain ⟨rfl, rfl⟩ := e2 <;> obtain ⟨rfl, rfl⟩ := e3
        case true.true =>
          have hc1 : 0 ≤ co := by simp [inR] at hgc; omega
          have hc2 : co ≤ 2 := by simp [inR] at hgc; omega
          clear hgc hgl
          go_wp2_with (first
                                | (go_at_call 18; refine (rCheckYard_any' ss rs _ _ _ _ _ _ _ _ _ _ (hyi.keep (m := w.heap.size) (by repeat (first | exact B_refl | exact Below.refl _ _ | assumption | with_reducible refine B_alloc ?_ _ | with_reducible refine B_ext ?_ _ | with_reducible refine B_drew ?_ | with_reducible refine B_drewN ?_ _ | with_reducible refine B_set ?_ (by simp; omega) _)))).mono ?_; rintro e wq ⟨rfl, zr, rfl⟩; rw [hcy])
                                | (go_at_call 27; refine (rSite_any ss rs _ _ _ _ _ _ _ _ _ _ _ (hyi.keep (m := w.heap.size) (by repeat (first | exact B_refl | exact Below.refl _ _ | assumption | with_reducible refine B_alloc ?_ _ | with_reducible refine B_ext ?_ _ | with_reducible refine B_drew ?_ | with_reducible refine B_drewN ?_ _ | with_reducible refine B_set ?_ (by simp; omega) _)))).mono ?_; rintro e wq ⟨rfl, zt, rfl⟩; rw [hsi]))
          (refine wp_region_ext_lit (by kernel_rfl) (by kernel_rfl) ?_
           repeat (first | go_big_quiet_skip | (go_big_quiet_want; go_big_quiet_op; first | go_big_quiet_on | (apply Exists.intro; refine ⟨fun _ => ?_, ?_⟩; (first | (go_at_call 28; exact quietx0 (hIC _)) | (go_at_call 29; exact quietx0 (hWI _))); go_big_quiet_on)))
           refine wpQuiet_nil ?_
           rintro _ ⟨zq, rfl⟩)
          go_wp2_with (first
            | (go_at_call 30; refine (rRest_any ss rs _ _ _ _ _ _ _ _ _ _ _ _ _ _ _ _ _ (hyi.keep (m := w.heap.size) (by repeat (first | exact B_refl | exact Below.refl _ _ | assumption | with_reducible refine B_alloc ?_ _ | with_reducible refine B_ext ?_ _ | with_reducible refine B_drew ?_ | with_reducible refine B_drewN ?_ _ | with_reducible refine B_set ?_ (by simp; omega) _)))).mono ?_; rintro e wq ⟨rfl, zq, rfl⟩)
            | (go_at_call 31; refine (rDepth_any' _ _ _ _ _ _ _ _ hgood).mono ?_; rintro e wq ⟨rfl, zq, rfl⟩)
            | (go_at_call 32; refine (rTakes_any _ _ _ _ _ _ _ _ _ _ _ _ _ _ _ _ _ _ hc1 hc2).mono ?_; rintro e wq ⟨rfl, zq, rfl⟩))
          go_ret
          exact Ret.of rfl (by repeat (first | exact B_refl | exact Below.refl _ _ | assumption | with_reducible refine B_alloc ?_ _ | with_reducible refine B_ext ?_ _ | with_reducible refine B_drew ?_ | with_reducible refine B_drewN ?_ _ | with_reducible refine B_set ?_ (by simp; omega) _))
        all_goals
          clear hgc hgl
          go_wp2_with (first
                                | (go_at_call 18; refine (rCheckYard_any' ss rs _ _ _ _ _ _ _ _ _ _ (hyi.keep (m := w.heap.size) (by repeat (first | exact B_refl | exact Below.refl _ _ | assumption | with_reducible refine B_alloc ?_ _ | with_reducible refine B_ext ?_ _ | with_reducible refine B_drew ?_ | with_reducible refine B_drewN ?_ _ | with_reducible refine B_set ?_ (by simp; omega) _)))).mono ?_; rintro e wq ⟨rfl, zr, rfl⟩; rw [hcy])
                                | (go_at_call 27; refine (rSite_any ss rs _ _ _ _ _ _ _ _ _ _ _ (hyi.keep (m := w.heap.size) (by repeat (first | exact B_refl | exact Below.refl _ _ | assumption | with_reducible refine B_alloc ?_ _ | with_reducible refine B_ext ?_ _ | with_reducible refine B_drew ?_ | with_reducible refine B_drewN ?_ _ | with_reducible refine B_set ?_ (by simp; omega) _)))).mono ?_; rintro e wq ⟨rfl, zt, rfl⟩; rw [hsi]))
          (refine wp_region_ext_lit (by kernel_rfl) (by kernel_rfl) ?_
           repeat (first | go_big_quiet_skip | (go_big_quiet_want; go_big_quiet_op; first | go_big_quiet_on | (apply Exists.intro; refine ⟨fun _ => ?_, ?_⟩; (first | (go_at_call 28; exact quietx0 (hIC _)) | (go_at_call 29; exact quietx0 (hWI _))); go_big_quiet_on)))
           refine wpQuiet_nil ?_
           rintro _ ⟨zq, rfl⟩)
          go_wp2_with (first
            | (go_at_call 30; refine (rRest_any ss rs _ _ _ _ _ _ _ _ _ _ _ _ _ _ _ _ _ (hyi.keep (m := w.heap.size) (by repeat (first | exact B_refl | exact Below.refl _ _ | assumption | with_reducible refine B_alloc ?_ _ | with_reducible refine B_ext ?_ _ | with_reducible refine B_drew ?_ | with_reducible refine B_drewN ?_ _ | with_reducible refine B_set ?_ (by simp; omega) _)))).mono ?_; rintro e wq ⟨rfl, zq, rfl⟩)
            | (go_at_call 31; refine (rDepth_any' _ _ _ _ _ _ _ _ hgood).mono ?_; rintro e wq ⟨rfl, zq, rfl⟩))
          go_ret
          exact Ret.of rfl (by repeat (first | exact B_refl | exact Below.refl _ _ | assumption | with_reducible refine B_alloc ?_ _ | with_reducible refine B_ext ?_ _ | with_reducible refine B_drew ?_ | with_reducible refine B_drewN ?_ _ | with_reducible refine B_set ?_ (by simp; omega) _))
    · have hF : findR ss rs c0 c1 c2 nm = (zeroSite, checkYardP ss rs c0 c1 c2) := by rw [findR, if_pos hc]
      have hcn : checkYardP ss rs c0 c1 c2 ≠ 0 := by simpa using hc
      rw [hF] at e1 e2 e3
      clear hF hc
      obtain ⟨cy, hcy⟩ : ∃ cy, checkYardP ss rs c0 c1 c2 = cy := ⟨_, rfl⟩
      rw [hcy] at e1 e2 e3 hcn
      simp [restOfR, depthOfR, takesR, hcn] at e1 e2 e3
      obtain ⟨rfl, rfl⟩ := e1
      obtain ⟨rfl, rfl⟩ := e2
      obtain ⟨rfl, rfl⟩ := e3
      have HCY := Lib.hid hcy
      clear hcy
      go_wp2_with (go_at_call 18; refine (rCheckYard_any' ss rs _ _ _ _ _ _ _ _ _ _ (hyi.keep (m := w.heap.size) (by repeat (first | exact B_refl | exact Below.refl _ _ | assumption | with_reducible refine B_alloc ?_ _ | with_reducible refine B_ext ?_ _ | with_reducible refine B_drew ?_ | with_reducible refine B_drewN ?_ _ | with_reducible refine B_set ?_ (by simp; omega) _)))).mono ?_; rintro e wq ⟨rfl, zr, rfl⟩; rw [HCY.out])
      go_ret
      exact Ret.of rfl (by repeat (first | exact B_refl | exact Below.refl _ _ | assumption | with_reducible refine B_alloc ?_ _ | with_reducible refine B_ext ?_ _ | with_reducible refine B_drew ?_ | with_reducible refine B_drewN ?_ _ | with_reducible refine B_set ?_ (by simp; omega) _))
end Go.Proofs.Ytmiobhlgpjjbgaa
