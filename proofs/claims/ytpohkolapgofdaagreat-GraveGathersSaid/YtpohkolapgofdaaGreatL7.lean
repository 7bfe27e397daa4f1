/- Walk of the reference: the error of an event that moves a remain that lies. -/
import Derived.Test.YtpohkolapgofdaaGreatQ0
import Derived.Test.YtpohkolapgofdaaGreatX3
import Derived.Test.YtpohkolapgofdaaGreatR3
namespace Go.Proofs.YtpohkolapgofdaaGreat
open Go.RowKit
attribute [local go_sem] World.cell?_alloc_mark ext_size ext_cell ext_frozen lt_add_r lt_add_r2 lt_add_r3 lt_add_r4 lt_add_r5 lt_add_r6 lt_add_r7 lt_add_r8

set_option maxRecDepth 100000 in
set_option maxHeartbeats 2000000 in
theorem rTake_any (ss : List Site) (rs : List Rest) (A R : Option Addr) (n c rn rc : Nat) (c0 c1 c2 : Int) (ls : List Lot) (L : Option Addr) (ln lc : Nat) (dy kd : Int) (si : ByteArray) (lv : Int) (rm : ByteArray) (co : Int) (o : Bool) (w : World) (hy : YardIn w ss rs A n c R rn rc) (hl : LotsIn w ls L ln) (hr : ∀ s ∈ ss, s.room ≤ 100000)
    (hst : ∀ t ∈ ls, t.state = 1 → (∃ s, findSite t.site ss = some s) ∧ 0 ≤ t.level ∧ t.level ≤ 100000) (h1 : 0 ≤ lv) :
    Calls Tryz.prog 91 #[.agg #[.slice A n c, .slice R rn rc, .int .i64 c0, .int .i64 c1, .int .i64 c2], .slice L ln lc, .agg #[.int .i64 dy, .int .i64 kd, .string si, .int .i64 lv, .string rm, .int .i64 co, .bool o]] w (Ret w (.int .i64 (rTakeP ss rs ls dy kd lv rm o))) := by
  go_enter Tryz.func91, Tryz.ntmps91
  cases hf : findLot rm ls with
  | none =>
    have hfi : rFindR rm ls = -1 := by rw [rFindR, lotIdx_none hf]
    have hX : rTakeP ss rs ls dy kd lv rm o = 6 := by rw [rTakeP, hf]
    rw [hX]
    clear hX hf
    go_wp2_with (go_at_call 44; refine (rFind_any ls _ _ _ _ _ (hl.keep (m := w.heap.size) (by repeat (first | exact B_refl | exact Below.refl _ _ | assumption | with_reducible refine B_alloc ?_ _ | with_reducible refine B_ext ?_ _ | with_reducible refine B_drew ?_ | with_reducible refine B_drewN ?_ _ | with_reducible refine B_set ?_ (by simp; omega) _)))).mono ?_; rintro e wq ⟨rfl, zt, rfl⟩; rw [hfi])
    go_ret
    exact Ret.of rfl (by repeat (first | exact B_refl | exact Below.refl _ _ | assumption | with_reducible refine B_alloc ?_ _ | with_reducible refine B_ext ?_ _ | with_reducible refine B_drew ?_ | with_reducible refine B_drewN ?_ _ | with_reducible refine B_set ?_ (by simp; omega) _))
  | some t =>
    obtain ⟨i, hik, hgk⟩ := lotIdx_some hf
    have hfi : rFindR rm ls = (i : Int) := by rw [rFindR, hik]
    obtain ⟨hlt, hse⟩ := List.getElem?_eq_some_iff.1 hgk
    have hln := hl.hn
    have hl1 := hl.l1
    have hyn := hy.hn
    have hy1 := hy.l1
    subst hln hyn
    obtain ⟨b, off, rfl, hb, hcl⟩ := hl.sl.at hlt
    rw [hse] at hcl
    have x0 : w.cell? ⟨b, off + i * 6, none⟩ = some (.string t.remain) := hcl 0 _ rfl
    have x1 : w.cell? ⟨b, off + i * 6 + 1, none⟩ = some (.int .i64 t.state) := hcl 1 _ rfl
    have x2 : w.cell? ⟨b, off + i * 6 + 2, none⟩ = some (.string t.site) := hcl 2 _ rfl
    have x3 : w.cell? ⟨b, off + i * 6 + 3, none⟩ = some (.int .i64 t.level) := hcl 3 _ rfl
    have x4 : w.cell? ⟨b, off + i * 6 + 4, none⟩ = some (.int .i64 t.container) := hcl 4 _ rfl
    have x5 : w.cell? ⟨b, off + i * 6 + 5, none⟩ = some (.int .i64 t.since) := hcl 5 _ rfl
    have hlt2 : (i : Int) < (ls.length : Int) := by omega
    have hi0 : ¬ ((i : Int) < 0) := by omega
    have hq := hst t (findLot_mem hf)
    by_cases hs : t.state = 1
    · obtain ⟨⟨s, hfs⟩, ht0, ht1⟩ := hq hs
      have hX : rTakeP ss rs ls dy kd lv rm o = rLiesP rs ls s t dy kd lv o := by rw [rTakeP, hf]; simp [hs, hfs]
      obtain ⟨j, hjk, hhk⟩ := siteIdx_some hfs
      have hsi : rSiteR t.site ss = (j : Int) := by rw [rSiteR, hjk]
      obtain ⟨hjt, hje⟩ := List.getElem?_eq_some_iff.1 hhk
      obtain ⟨b', off', rfl, hb', hcj⟩ := hy.sl.at hjt
      rw [hje] at hcj
      have y0 : w.cell? ⟨b', off' + j * 6, none⟩ = some (.string s.name) := hcj 0 _ rfl
      have y1 : w.cell? ⟨b', off' + j * 6 + 1, none⟩ = some (.int .i64 s.kind) := hcj 1 _ rfl
      have y2 : w.cell? ⟨b', off' + j * 6 + 2, none⟩ = some (.int .i64 s.soil) := hcj 2 _ rfl
      have y3 : w.cell? ⟨b', off' + j * 6 + 3, none⟩ = some (.int .i64 s.depth) := hcj 3 _ rfl
      have y4 : w.cell? ⟨b', off' + j * 6 + 4, none⟩ = some (.int .i64 s.step) := hcj 4 _ rfl
      have y5 : w.cell? ⟨b', off' + j * 6 + 5, none⟩ = some (.int .i64 s.room) := hcj 5 _ rfl
      have hjt2 : (j : Int) < (ss.length : Int) := by omega
      have hj0 : (0 : Int) ≤ (j : Int) := by omega
      rw [hX]
      rw [hs] at x1
      have HFS := Lib.hid hfs
      clear hX hf hik hgk hse hcl hq hjk hhk hje hcj hfs
      generalize hT : rLiesP rs ls s t dy kd lv o = T
      have HT := Lib.hid hT
      clear hT
      go_wp2_with (go_at_call 44; refine (rFind_any ls _ _ _ _ _ (hl.keep (m := w.heap.size) (by repeat (first | exact B_refl | exact Below.refl _ _ | assumption | with_reducible refine B_alloc ?_ _ | with_reducible refine B_ext ?_ _ | with_reducible refine B_drew ?_ | with_reducible refine B_drewN ?_ _ | with_reducible refine B_set ?_ (by simp; omega) _)))).mono ?_; rintro e wq ⟨rfl, zt, rfl⟩; rw [hfi])
      generalize hW0 : World.alloc (World.ext (World.alloc (World.alloc w (.cells #[.slice (some ⟨b', off', none⟩) ss.length c, .slice R rn rc, .int .i64 c0, .int .i64 c1, .int .i64 c2] 26)) (.cells #[.int .i64 dy, .int .i64 kd, .string si, .int .i64 lv, .string rm, .int .i64 co, .bool o] 76)) zt) (.cells #[.string t.remain, .int .i64 1, .string t.site, .int .i64 t.level, .int .i64 t.container, .int .i64 t.since] 40) = W0
      have hB : Below w.heap.size w W0 := by rw [← hW0]; repeat (first | exact B_refl | exact Below.refl _ _ | assumption | with_reducible refine B_alloc ?_ _ | with_reducible refine B_ext ?_ _ | with_reducible refine B_drew ?_ | with_reducible refine B_drewN ?_ _ | with_reducible refine B_set ?_ (by simp; omega) _)
      have hblk : W0.heap[w.heap.size]? = some (.cells #[.slice (some ⟨b', off', none⟩) ss.length c, .slice R rn rc, .int .i64 c0, .int .i64 c1, .int .i64 c2] 26) := by rw [← hW0]; (repeat (first | with_reducible exact G_new _ _ _ (by simp) | with_reducible exact G_new _ _ _ (by simp [ext_size]) | with_reducible refine G_drew ?_ | with_reducible refine G_ext ?_ | with_reducible refine G_alloc ?_))
      have hblk1 : W0.heap[w.heap.size + 1]? = some (.cells #[.int .i64 dy, .int .i64 kd, .string si, .int .i64 lv, .string rm, .int .i64 co, .bool o] 76) := by rw [← hW0]; (repeat (first | with_reducible exact G_new _ _ _ (by simp) | with_reducible exact G_new _ _ _ (by simp [ext_size]) | with_reducible refine G_drew ?_ | with_reducible refine G_ext ?_ | with_reducible refine G_alloc ?_))
      have hblk2 : W0.heap[w.heap.size + 1 + 1 + zt.os.size]? = some (.cells #[.string t.remain, .int .i64 1, .string t.site, .int .i64 t.level, .int .i64 t.container, .int .i64 t.since] 40) := by rw [← hW0]; (repeat (first | with_reducible exact G_new _ _ _ (by simp) | with_reducible exact G_new _ _ _ (by simp [ext_size]) | with_reducible refine G_drew ?_ | with_reducible refine G_ext ?_ | with_reducible refine G_alloc ?_))
      obtain ⟨B, hBe⟩ : ∃ B, B = w.heap.size + 1 + 1 + zt.os.size := ⟨_, rfl⟩
      rw [← hBe] at hblk2 ⊢
      clear hBe hW0
      have hz := blk_lt hblk
      have hz1 := blk_lt hblk1
      have hz2 := blk_lt hblk2
      have hz3 : b' < W0.heap.size := Nat.lt_of_lt_of_le hb' hB.size
      have g0 : W0.cell? ⟨w.heap.size, 0, none⟩ = some (.slice (some ⟨b', off', none⟩) ss.length c) := by simp [World.cell?, hblk]
      have g1 : W0.cell? ⟨w.heap.size, 1, none⟩ = some (.slice R rn rc) := by simp [World.cell?, hblk]
      have g2 : W0.cell? ⟨w.heap.size, 2, none⟩ = some (.int .i64 c0) := by simp [World.cell?, hblk]
      have g3 : W0.cell? ⟨w.heap.size, 3, none⟩ = some (.int .i64 c1) := by simp [World.cell?, hblk]
      have g4 : W0.cell? ⟨w.heap.size, 4, none⟩ = some (.int .i64 c2) := by simp [World.cell?, hblk]
      have g5 : W0.cell? ⟨B, 2, none⟩ = some (.string t.site) := by simp [World.cell?, hblk2]
      have v0 := cell_kept hb' y0 hB
      have v1 := cell_kept hb' y1 hB
      have v2 := cell_kept hb' y2 hB
      have v3 := cell_kept hb' y3 hB
      have v4 := cell_kept hb' y4 hB
      have v5 := cell_kept hb' y5 hB
      clear x0 x1 x2 x3 x4 x5
      have HK0 := Lib.hid hblk
      have HK1 := Lib.hid hblk1
      have HK2 := Lib.hid hblk2
      clear hblk hblk1 hblk2
      refine wp_region_let 8 _ _ (.cells #[.string ⟨#[]⟩, .int .i64 0, .int .i64 0, .int .i64 0, .int .i64 0, .int .i64 0] 78) (.cells #[.string s.name, .int .i64 s.kind, .int .i64 s.soil, .int .i64 s.depth, .int .i64 s.step, .int .i64 s.room] 78) (by kernel_rfl) (by kernel_rfl) rfl rfl ?hrun ?_
      case hrun => intro a W; kernel_rfl
      simp only [List.take_succ_cons, List.take_zero]
      repeat (refine wpGrow_step (fun K hK => ?_); simp only [grow]; go_simp; first | (refine hK _ ?_; clear hK K) | (apply Exists.intro; refine ⟨fun _ => ?_, hK _ ?_⟩; ((go_at_call 15; refine quietg (v := .int .i64 (j : Int)) ?_; rw [← hsi]; exact rSite_any ss rs _ _ _ _ _ _ _ _ _ _ _ (hy.keep (m := w.heap.size) (by repeat (first | exact B_refl | exact Below.refl _ _ | assumption | with_reducible refine B_alloc ?_ _ | with_reducible refine B_ext ?_ _ | with_reducible refine B_drew ?_ | with_reducible refine B_drewN ?_ _ | with_reducible refine B_set ?_ (by simp; omega) _))))); clear hK K))
      refine wpGrow_nil ⟨?hstore, ?hlast⟩
      case hstore =>
        intro W B hb
        have f0 : W.cell? ⟨B, 0, none⟩ = some (.string ⟨#[]⟩) := by simp [World.cell?, hb]
        have f1 : W.cell? ⟨B, 1, none⟩ = some (.int .i64 0) := by simp [World.cell?, hb]
        have f2 : W.cell? ⟨B, 2, none⟩ = some (.int .i64 0) := by simp [World.cell?, hb]
        have f3 : W.cell? ⟨B, 3, none⟩ = some (.int .i64 0) := by simp [World.cell?, hb]
        have f4 : W.cell? ⟨B, 4, none⟩ = some (.int .i64 0) := by simp [World.cell?, hb]
        have f5 : W.cell? ⟨B, 5, none⟩ = some (.int .i64 0) := by simp [World.cell?, hb]
        have fz : ∀ j, W.frozen? ⟨B, j, none⟩ = false := fun j => by simp [World.frozen?, hb]
        go_simp
        with_reducible exact ⟨G_set6 hb, grown_set6 _ _ _ _ _ _ _ _⟩
      case hlast =>
       rintro B2 W ⟨z2, hW⟩ hB2 hb2
       have hBW : Below W0.heap.size W0 W := by rw [hW]; exact below_ext _ _
       have hB1 : Below w.heap.size w W := hB.trans (hBW.mono hB.size)
       have hzB := blk_lt hb2
       have k0 := (hBW.block _ hz).trans HK0.out
       have k1 := (hBW.block _ hz1).trans HK1.out
       have k2 := (hBW.block _ hz2).trans HK2.out
       have e0 : W.cell? ⟨w.heap.size, 0, none⟩ = some (.slice (some ⟨b', off', none⟩) ss.length c) := by simp [World.cell?, k0]
       have e1 : W.cell? ⟨w.heap.size, 1, none⟩ = some (.slice R rn rc) := by simp [World.cell?, k0]
       have e2 : W.cell? ⟨w.heap.size, 2, none⟩ = some (.int .i64 c0) := by simp [World.cell?, k0]
       have e3 : W.cell? ⟨w.heap.size, 3, none⟩ = some (.int .i64 c1) := by simp [World.cell?, k0]
       have e4 : W.cell? ⟨w.heap.size, 4, none⟩ = some (.int .i64 c2) := by simp [World.cell?, k0]
       have q0 : W.cell? ⟨w.heap.size + 1, 0, none⟩ = some (.int .i64 dy) := by simp [World.cell?, k1]
       have q1 : W.cell? ⟨w.heap.size + 1, 1, none⟩ = some (.int .i64 kd) := by simp [World.cell?, k1]
       have q3 : W.cell? ⟨w.heap.size + 1, 3, none⟩ = some (.int .i64 lv) := by simp [World.cell?, k1]
       have q6 : W.cell? ⟨w.heap.size + 1, 6, none⟩ = some (.bool o) := by simp [World.cell?, k1]
       have t3 : W.cell? ⟨B, 3, none⟩ = some (.int .i64 t.level) := by simp [World.cell?, k2]
       have t4 : W.cell? ⟨B, 4, none⟩ = some (.int .i64 t.container) := by simp [World.cell?, k2]
       have t5 : W.cell? ⟨B, 5, none⟩ = some (.int .i64 t.since) := by simp [World.cell?, k2]
       have s0 : W.cell? ⟨B2, 0, none⟩ = some (.string s.name) := by simp [World.cell?, hb2]
       have s1 : W.cell? ⟨B2, 1, none⟩ = some (.int .i64 s.kind) := by simp [World.cell?, hb2]
       have s2 : W.cell? ⟨B2, 2, none⟩ = some (.int .i64 s.soil) := by simp [World.cell?, hb2]
       have s3 : W.cell? ⟨B2, 3, none⟩ = some (.int .i64 s.depth) := by simp [World.cell?, hb2]
       have s4 : W.cell? ⟨B2, 4, none⟩ = some (.int .i64 s.step) := by simp [World.cell?, hb2]
       have s5 : W.cell? ⟨B2, 5, none⟩ = some (.int .i64 s.room) := by simp [World.cell?, hb2]
       have hr1 := hr s (findSite_mem HFS.out)
       have zW := hB1.size
       have z0 : w.heap.size < W.heap.size := Nat.lt_of_lt_of_le hz hBW.size
       have z1 : w.heap.size + 1 < W.heap.size := Nat.lt_of_lt_of_le hz1 hBW.size
       have zB : B < W.heap.size := Nat.lt_of_lt_of_le hz2 hBW.size
       clear k0 k1 k2 hb2 hW hBW HK0 HK1 HK2 g0 g1 g2 g3 g4 g5 v0 v1 v2 v3 v4 v5 y0 y1 y2 y3 y4 y5 hz hz1 hz2 hz3 hB hB2 hst hr hsi hfi
       obtain ⟨a, k, so, d, st, r⟩ := s
       obtain ⟨trm, tst, tsi, tlv, tco, tsc⟩ := t
       dsimp only at s0 s1 s2 s3 s4 s5 t3 t4 t5 ht0 ht1 hr1
       by_cases hk3 : kd = 3
       · subst hk3
         cases hk : (k != 0)
         · by_cases hlv : tlv ≤ lv
           · go_wp2_with fail
             go_ret
             exact Ret.of (int_eq (by rw [← HT.out, rLiesP]; simp [hk, hlv])) (by repeat (first | exact B_refl | exact Below.refl _ _ | assumption | with_reducible refine B_alloc ?_ _ | with_reducible refine B_ext ?_ _ | with_reducible refine B_drew ?_ | with_reducible refine B_drewN ?_ _ | with_reducible refine B_set ?_ (by simp; omega) _))
           · obtain ⟨U, hU⟩ : ∃ U, rBusyGo a ls (tlv - lv).toNat lv = U := ⟨_, rfl⟩
             have HU := Lib.hid hU
             have hlv1 : lv < tlv := by omega
             clear hU hlv
             go_wp2_with fail
             go_loopw [10] (fun i wr => ∃ n : Int, lv ≤ n ∧ n ≤ tlv ∧ i = .int .i64 n ∧ U = rBusyGo a ls (tlv - n).toNat n ∧ ∃ z, wr = W.ext z) (fun i _ => (tlv - intOf i).toNat)
             case atStart => exact ⟨lv, Int.le_refl _, by omega, rfl, HU.out.symm, ext_below (Below.refl _ _)⟩
             case round =>
               obtain ⟨n, hn1, hn2, rfl, hf, z, rfl⟩ := hrel
               by_cases hlt : n < tlv
               · obtain ⟨f, hfu⟩ : ∃ f, (tlv - n).toNat = f + 1 := ⟨(tlv - n).toNat - 1, by omega⟩
                 rw [hfu, rBusyGo] at hf
                 have hf1 : (tlv - (n + 1)).toNat = f := by omega
                 have HF := Lib.hid hf
                 clear hf
                 cases ho : rOccP a n ls
                 · go_wp2_with (go_at_call 117; refine (rOcc_any ls _ _ _ _ _ _ (hl.keep (m := w.heap.size) (by repeat (first | exact B_refl | exact Below.refl _ _ | assumption | with_reducible refine B_alloc ?_ _ | with_reducible refine B_ext ?_ _ | with_reducible refine B_drew ?_ | with_reducible refine B_drewN ?_ _ | with_reducible refine B_set ?_ (by simp; omega) _)))).mono ?_; rintro e wq ⟨rfl, zq, rfl⟩; rw [ho])
                   go_roundw
                   case rel => exact ⟨n + 1, by omega, by omega, by go_num, by rw [HF.out, if_neg (by simp [ho]), hf1], ext_below (by repeat (first | exact B_refl | exact Below.refl _ _ | assumption | with_reducible refine B_alloc ?_ _ | with_reducible refine B_ext ?_ _ | with_reducible refine B_drew ?_ | with_reducible refine B_drewN ?_ _ | with_reducible refine B_set ?_ (by simp; omega) _))⟩
                   case measure => simp [intOf]; omega
                 · go_wp2_with (go_at_call 117; refine (rOcc_any ls _ _ _ _ _ _ (hl.keep (m := w.heap.size) (by repeat (first | exact B_refl | exact Below.refl _ _ | assumption | with_reducible refine B_alloc ?_ _ | with_reducible refine B_ext ?_ _ | with_reducible refine B_drew ?_ | with_reducible refine B_drewN ?_ _ | with_reducible refine B_set ?_ (by simp; omega) _)))).mono ?_; rintro e wq ⟨rfl, zq, rfl⟩; rw [ho])
                   go_ret
                   refine Ret.of (int_eq ?_) (by repeat (first | exact B_refl | exact Below.refl _ _ | assumption | with_reducible refine B_alloc ?_ _ | with_reducible refine B_ext ?_ _ | with_reducible refine B_drew ?_ | with_reducible refine B_drewN ?_ _ | with_reducible refine B_set ?_ (by simp; omega) _))
                   have h1 := HU.out
                   rw [HF.out, if_pos ho] at h1
                   have hlv2 : ¬ tlv ≤ lv := by omega
                   rw [← HT.out, rLiesP]
                   simp [hk, h1, hlv2]
               · have hfu : (tlv - n).toNat = 0 := by omega
                 rw [hfu, rBusyGo] at hf
                 have hbu : rBusyGo a ls (tlv - lv).toNat lv = false := by rw [HU.out, hf]
                 have HB : Hid (rLiesP rs ls ⟨a, k, so, d, st, r⟩ ⟨trm, tst, tsi, tlv, tco, tsc⟩ dy 3 lv o = if rCovP k a r tlv ls then 18 else if !o && decide (dy < wrap64 (tsc + restP so tco rs)) then 17 else 0) := by
                   show _ = _
                   have hlv2 : ¬ tlv ≤ lv := by omega
                   rw [rLiesP]; simp [hk, hbu, hlv2]
                 clear hf hfu hbu
                 cases hv : rCovP k a r tlv ls
                 · cases o
                   · by_cases he : dy < wrap64 (tsc + restP so tco rs)
                     · have HE : Hid (rLiesP rs ls ⟨a, k, so, d, st, r⟩ ⟨trm, tst, tsi, tlv, tco, tsc⟩ dy _ lv _ = 17) := HB.out.trans (by simp [hv, he])
                       go_wp2_with (go_at_call 118; refine (rCov_any ls _ _ _ _ _ _ _ _ _ _ _ (hl.keep (m := w.heap.size) (by repeat (first | exact B_refl | exact Below.refl _ _ | assumption | with_reducible refine B_alloc ?_ _ | with_reducible refine B_ext ?_ _ | with_reducible refine B_drew ?_ | with_reducible refine B_drewN ?_ _ | with_reducible refine B_set ?_ (by simp; omega) _))) (by omega) ht1 hr1).mono ?_; rintro e wq ⟨rfl, zq, rfl⟩; rw [hv])
                       (refine wp_region_ext_lit (by kernel_rfl) (by kernel_rfl) ?_
                        repeat (first | go_big_quiet_skip | (go_big_quiet_want; go_big_quiet_op; first | go_big_quiet_on | (apply Exists.intro; refine ⟨fun _ => ?_, ?_⟩; (go_at_call 77; exact quietx (rRest_any ss rs _ _ _ _ _ _ _ _ _ _ _ _ _ _ _ _ _ (hy.keep (m := w.heap.size) (by repeat (first | exact B_refl | exact Below.refl _ _ | assumption | with_reducible refine B_alloc ?_ _ | with_reducible refine B_ext ?_ _ | with_reducible refine B_drew ?_ | with_reducible refine B_drewN ?_ _ | with_reducible refine B_set ?_ (by simp; omega) _))))); go_big_quiet_on)))
                        refine wpQuiet_nil ?_
                        rintro _ ⟨zq, rfl⟩)
                       go_wp2_with fail
                       go_ret
                       exact Ret.of (int_eq (by rw [← HT.out, HE.out])) (by repeat (first | exact B_refl | exact Below.refl _ _ | assumption | with_reducible refine B_alloc ?_ _ | with_reducible refine B_ext ?_ _ | with_reducible refine B_drew ?_ | with_reducible refine B_drewN ?_ _ | with_reducible refine B_set ?_ (by simp; omega) _))
                     · have HE : Hid (rLiesP rs ls ⟨a, k, so, d, st, r⟩ ⟨trm, tst, tsi, tlv, tco, tsc⟩ dy _ lv _ = 0) := HB.out.trans (by simp [hv, he])
                       go_wp2_with (go_at_call 118; refine (rCov_any ls _ _ _ _ _ _ _ _ _ _ _ (hl.keep (m := w.heap.size) (by repeat (first | exact B_refl | exact Below.refl _ _ | assumption | with_reducible refine B_alloc ?_ _ | with_reducible refine B_ext ?_ _ | with_reducible refine B_drew ?_ | with_reducible refine B_drewN ?_ _ | with_reducible refine B_set ?_ (by simp; omega) _))) (by omega) ht1 hr1).mono ?_; rintro e wq ⟨rfl, zq, rfl⟩; rw [hv])
                       (refine wp_region_ext_lit (by kernel_rfl) (by kernel_rfl) ?_
                        repeat (first | go_big_quiet_skip | (go_big_quiet_want; go_big_quiet_op; first | go_big_quiet_on | (apply Exists.intro; refine ⟨fun _ => ?_, ?_⟩; (go_at_call 77; exact quietx (rRest_any ss rs _ _ _ _ _ _ _ _ _ _ _ _ _ _ _ _ _ (hy.keep (m := w.heap.size) (by repeat (first | exact B_refl | exact Below.refl _ _ | assumption | with_reducible refine B_alloc ?_ _ | with_reducible refine B_ext ?_ _ | with_reducible refine B_drew ?_ | with_reducible refine B_drewN ?_ _ | with_reducible refine B_set ?_ (by simp; omega) _))))); go_big_quiet_on)))
                        refine wpQuiet_nil ?_
                        rintro _ ⟨zq, rfl⟩)
                       go_wp2_with fail
                       go_ret
                       exact Ret.of (int_eq (by rw [← HT.out, HE.out])) (by repeat (first | exact B_refl | exact Below.refl _ _ | assumption | with_reducible refine B_alloc ?_ _ | with_reducible refine B_ext ?_ _ | with_reducible refine B_drew ?_ | with_reducible refine B_drewN ?_ _ | with_reducible refine B_set ?_ (by simp; omega) _))
                   · have HE : Hid (rLiesP rs ls ⟨a, k, so, d, st, r⟩ ⟨trm, tst, tsi, tlv, tco, tsc⟩ dy _ lv _ = 0) := HB.out.trans (by simp [hv])
                     go_wp2_with (go_at_call 118; refine (rCov_any ls _ _ _ _ _ _ _ _ _ _ _ (hl.keep (m := w.heap.size) (by repeat (first | exact B_refl | exact Below.refl _ _ | assumption | with_reducible refine B_alloc ?_ _ | with_reducible refine B_ext ?_ _ | with_reducible refine B_drew ?_ | with_reducible refine B_drewN ?_ _ | with_reducible refine B_set ?_ (by simp; omega) _))) (by omega) ht1 hr1).mono ?_; rintro e wq ⟨rfl, zq, rfl⟩; rw [hv])
                     (refine wp_region_ext_lit (by kernel_rfl) (by kernel_rfl) ?_
                      repeat (first | go_big_quiet_skip | (go_big_quiet_want; go_big_quiet_op; first | go_big_quiet_on | (apply Exists.intro; refine ⟨fun _ => ?_, ?_⟩; (fail); go_big_quiet_on)))
                      refine wpQuiet_nil ?_
                      rintro _ ⟨zq, rfl⟩)
                     go_wp2_with fail
                     go_ret
                     exact Ret.of (int_eq (by rw [← HT.out, HE.out])) (by repeat (first | exact B_refl | exact Below.refl _ _ | assumption | with_reducible refine B_alloc ?_ _ | with_reducible refine B_ext ?_ _ | with_reducible refine B_drew ?_ | with_reducible refine B_drewN ?_ _ | with_reducible refine B_set ?_ (by simp; omega) _))
                 · have HE : Hid (rLiesP rs ls ⟨a, k, so, d, st, r⟩ ⟨trm, tst, tsi, tlv, tco, tsc⟩ dy _ lv _ = 18) := HB.out.trans (by simp [hv])
                   go_wp2_with (go_at_call 118; refine (rCov_any ls _ _ _ _ _ _ _ _ _ _ _ (hl.keep (m := w.heap.size) (by repeat (first | exact B_refl | exact Below.refl _ _ | assumption | with_reducible refine B_alloc ?_ _ | with_reducible refine B_ext ?_ _ | with_reducible refine B_drew ?_ | with_reducible refine B_drewN ?_ _ | with_reducible refine B_set ?_ (by simp; omega) _))) (by omega) ht1 hr1).mono ?_; rintro e wq ⟨rfl, zq, rfl⟩; rw [hv])
                   go_ret
                   exact Ret.of (int_eq (by rw [← HT.out, HE.out])) (by repeat (first | exact B_refl | exact Below.refl _ _ | assumption | with_reducible refine B_alloc ?_ _ | with_reducible refine B_ext ?_ _ | with_reducible refine B_drew ?_ | with_reducible refine B_drewN ?_ _ | with_reducible refine B_set ?_ (by simp; omega) _))
         · go_wp2_with fail
           go_ret
           exact Ret.of (int_eq (by rw [← HT.out, rLiesP]; simp [hk])) (by repeat (first | exact B_refl | exact Below.refl _ _ | assumption | with_reducible refine B_alloc ?_ _ | with_reducible refine B_ext ?_ _ | with_reducible refine B_drew ?_ | with_reducible refine B_drewN ?_ _ | with_reducible refine B_set ?_ (by simp; omega) _))
       · have HB : Hid (rLiesP rs ls ⟨a, k, so, d, st, r⟩ ⟨trm, tst, tsi, tlv, tco, tsc⟩ dy kd lv o = if rCovP k a r tlv ls then 18 else if !o && decide (dy < wrap64 (tsc + restP so tco rs)) then 17 else 0) := by
           show _ = _
           rw [rLiesP]; simp [hk3]
         have hk3' : (kd == 3) = false := by simpa using hk3
         cases hv : rCovP k a r tlv ls
         · cases o
           · by_cases he : dy < wrap64 (tsc + restP so tco rs)
             · have HE : Hid (rLiesP rs ls ⟨a, k, so, d, st, r⟩ ⟨trm, tst, tsi, tlv, tco, tsc⟩ dy _ lv _ = 17) := HB.out.trans (by simp [hv, he])
               go_wp2_with (go_at_call 118; refine (rCov_any ls _ _ _ _ _ _ _ _ _ _ _ (hl.keep (m := w.heap.size) (by repeat (first | exact B_refl | exact Below.refl _ _ | assumption | with_reducible refine B_alloc ?_ _ | with_reducible refine B_ext ?_ _ | with_reducible refine B_drew ?_ | with_reducible refine B_drewN ?_ _ | with_reducible refine B_set ?_ (by simp; omega) _))) (by omega) ht1 hr1).mono ?_; rintro e wq ⟨rfl, zq, rfl⟩; rw [hv])
               (refine wp_region_ext_lit (by kernel_rfl) (by kernel_rfl) ?_
                repeat (first | go_big_quiet_skip | (go_big_quiet_want; go_big_quiet_op; first | go_big_quiet_on | (apply Exists.intro; refine ⟨fun _ => ?_, ?_⟩; (go_at_call 77; exact quietx (rRest_any ss rs _ _ _ _ _ _ _ _ _ _ _ _ _ _ _ _ _ (hy.keep (m := w.heap.size) (by repeat (first | exact B_refl | exact Below.refl _ _ | assumption | with_reducible refine B_alloc ?_ _ | with_reducible refine B_ext ?_ _ | with_reducible refine B_drew ?_ | with_reducible refine B_drewN ?_ _ | with_reducible refine B_set ?_ (by simp; omega) _))))); go_big_quiet_on)))
                refine wpQuiet_nil ?_
                rintro _ ⟨zq, rfl⟩)
               go_wp2_with fail
               go_ret
               exact Ret.of (int_eq (by rw [← HT.out, HE.out])) (by repeat (first | exact B_refl | exact Below.refl _ _ | assumption | with_reducible refine B_alloc ?_ _ | with_reducible refine B_ext ?_ _ | with_reducible refine B_drew ?_ | with_reducible refine B_drewN ?_ _ | with_reducible refine B_set ?_ (by simp; omega) _))
             · have HE : Hid (rLiesP rs ls ⟨a, k, so, d, st, r⟩ ⟨trm, tst, tsi, tlv, tco, tsc⟩ dy _ lv _ = 0) := HB.out.trans (by simp [hv, he])
               go_wp2_with (go_at_call 118; refine (rCov_any ls _ _ _ _ _ _ _ _ _ _ _ (hl.keep (m := w.heap.size) (by repeat (first | exact B_refl | exact Below.refl _ _ | assumption | with_reducible refine B_alloc ?_ _ | with_reducible refine B_ext ?_ _ | with_reducible refine B_drew ?_ | with_reducible refine B_drewN ?_ _ | with_reducible refine B_set ?_ (by simp; omega) _))) (by omega) ht1 hr1).mono ?_; rintro e wq ⟨rfl, zq, rfl⟩; rw [hv])
               (refine wp_region_ext_lit (by kernel_rfl) (by kernel_rfl) ?_
                repeat (first | go_big_quiet_skip | (go_big_quiet_want; go_big_quiet_op; first | go_big_quiet_on | (apply Exists.intro; refine ⟨fun _ => ?_, ?_⟩; (go_at_call 77; exact quietx (rRest_any ss rs _ _ _ _ _ _ _ _ _ _ _ _ _ _ _ _ _ (hy.keep (m := w.heap.size) (by repeat (first | exact B_refl | exact Below.refl _ _ | assumption | with_reducible refine B_alloc ?_ _ | with_reducible refine B_ext ?_ _ | with_reducible refine B_drew ?_ | with_reducible refine B_drewN ?_ _ | with_reducible refine B_set ?_ (by simp; omega) _))))); go_big_quiet_on)))
                refine wpQuiet_nil ?_
                rintro _ ⟨zq, rfl⟩)
               go_wp2_with fail
               go_ret
               exact Ret.of (int_eq (by rw [← HT.out, HE.out])) (by repeat (first | exact B_refl | exact Below.refl _ _ | assumption | with_reducible refine B_alloc ?_ _ | with_reducible refine B_ext ?_ _ | with_reducible refine B_drew ?_ | with_reducible refine B_drewN ?_ _ | with_reducible refine B_set ?_ (by simp; omega) _))
           · have HE : Hid (rLiesP rs ls ⟨a, k, so, d, st, r⟩ ⟨trm, tst, tsi, tlv, tco, tsc⟩ dy _ lv _ = 0) := HB.out.trans (by simp [hv])
             go_wp2_with (go_at_call 118; refine (rCov_any ls _ _ _ _ _ _ _ _ _ _ _ (hl.keep (m := w.heap.size) (by repeat (first | exact B_refl | exact Below.refl _ _ | assumption | with_reducible refine B_alloc ?_ _ | with_reducible refine B_ext ?_ _ | with_reducible refine B_drew ?_ | with_reducible refine B_drewN ?_ _ | with_reducible refine B_set ?_ (by simp; omega) _))) (by omega) ht1 hr1).mono ?_; rintro e wq ⟨rfl, zq, rfl⟩; rw [hv])
             (refine wp_region_ext_lit (by kernel_rfl) (by kernel_rfl) ?_
              repeat (first | go_big_quiet_skip | (go_big_quiet_want; go_big_quiet_op; first | go_big_quiet_on | (apply Exists.intro; refine ⟨fun _ => ?_, ?_⟩; (fail); go_big_quiet_on)))
              refine wpQuiet_nil ?_
              rintro _ ⟨zq, rfl⟩)
             go_wp2_with fail
             go_ret
             exact Ret.of (int_eq (by rw [← HT.out, HE.out])) (by repeat (first | exact B_refl | exact Below.refl _ _ | assumption | with_reducible refine B_alloc ?_ _ | with_reducible refine B_ext ?_ _ | with_reducible refine B_drew ?_ | with_reducible refine B_drewN ?_ _ | with_reducible refine B_set ?_ (by simp; omega) _))
         · have HE : Hid (rLiesP rs ls ⟨a, k, so, d, st, r⟩ ⟨trm, tst, tsi, tlv, tco, tsc⟩ dy _ lv _ = 18) := HB.out.trans (by simp [hv])
           go_wp2_with (go_at_call 118; refine (rCov_any ls _ _ _ _ _ _ _ _ _ _ _ (hl.keep (m := w.heap.size) (by repeat (first | exact B_refl | exact Below.refl _ _ | assumption | with_reducible refine B_alloc ?_ _ | with_reducible refine B_ext ?_ _ | with_reducible refine B_drew ?_ | with_reducible refine B_drewN ?_ _ | with_reducible refine B_set ?_ (by simp; omega) _))) (by omega) ht1 hr1).mono ?_; rintro e wq ⟨rfl, zq, rfl⟩; rw [hv])
           go_ret
           exact Ret.of (int_eq (by rw [← HT.out, HE.out])) (by repeat (first | exact B_refl | exact Below.refl _ _ | assumption | with_reducible refine B_alloc ?_ _ | with_reducible refine B_ext ?_ _ | with_reducible refine B_drew ?_ | with_reducible refine B_drewN ?_ _ | with_reducible refine B_set ?_ (by simp; omega) _))
    · have hX : rTakeP ss rs ls dy kd lv rm o = 28 := by rw [rTakeP, hf]; simp [hs]
      rw [hX]
      clear hX hf hik hgk hse hcl hq
      go_wp2_with (go_at_call 44; refine (rFind_any ls _ _ _ _ _ (hl.keep (m := w.heap.size) (by repeat (first | exact B_refl | exact Below.refl _ _ | assumption | with_reducible refine B_alloc ?_ _ | with_reducible refine B_ext ?_ _ | with_reducible refine B_drew ?_ | with_reducible refine B_drewN ?_ _ | with_reducible refine B_set ?_ (by simp; omega) _)))).mono ?_; rintro e wq ⟨rfl, zt, rfl⟩; rw [hfi])
      go_ret
      exact Ret.of rfl (by repeat (first | exact B_refl | exact Below.refl _ _ | assumption | with_reducible refine B_alloc ?_ _ | with_reducible refine B_ext ?_ _ | with_reducible refine B_drew ?_ | with_reducible refine B_drewN ?_ _ | with_reducible refine B_set ?_ (by simp; omega) _))
end Go.Proofs.YtpohkolapgofdaaGreat
