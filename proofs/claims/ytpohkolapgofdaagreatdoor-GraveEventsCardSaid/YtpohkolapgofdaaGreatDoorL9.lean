/- Walk of the reference: the error of an event that moves a remain that lies. -/
/- Walk of the reference: the lot that an accepted event gives to its remain. -/
/- Walk of the reference: lots with another one, ascending. -/
import Derived.Test.YtpohkolapgofdaaGreatDoorQ0
import Derived.Test.YtpohkolapgofdaaGreatDoorX3
import Derived.Test.YtpohkolapgofdaaGreatDoorR2
import Derived.Test.YtpohkolapgofdaaGreatDoorB3
import Derived.Test.YtpohkolapgofdaaGreatDoorF2
namespace Go.Proofs.YtpohkolapgofdaaGreatDoor
open Go.RowKit
attribute [local go_sem] World.cell?_alloc_mark ext_size ext_cell ext_frozen lt_add_r lt_add_r2 lt_add_r3 lt_add_r4 lt_add_r5 lt_add_r6 lt_add_r7 lt_add_r8

set_option maxRecDepth 100000 in
set_option maxHeartbeats 2000000 in
theorem rTake_any (ss : List Site) (rs : List Rest) (A R : Option Addr) (n c rn rc : Nat) (c0 c1 c2 : Int) (ls : List Lot) (L : Option Addr) (ln lc : Nat) (dy kd : Int) (si : ByteArray) (lv : Int) (rm : ByteArray) (co : Int) (o : Bool) (w : World) (hy : YardIn w ss rs A n c R rn rc) (hl : LotsIn w ls L ln) (hr : ∀ s ∈ ss, s.room ≤ 100000)
    (hst : ∀ t ∈ ls, t.state = 1 → (∃ s, findSite t.site ss = some s) ∧ 0 ≤ t.level ∧ t.level ≤ 100000) (h1 : 0 ≤ lv) :
    Calls Tryz.prog 99 #[.agg #[.slice A n c, .slice R rn rc, .int .i64 c0, .int .i64 c1, .int .i64 c2], .slice L ln lc, .agg #[.int .i64 dy, .int .i64 kd, .string si, .int .i64 lv, .string rm, .int .i64 co, .bool o]] w (Ret w (.int .i64 (rTakeP ss rs ls dy kd lv rm o))) := by
  go_enter Tryz.func99, Tryz.ntmps99
  cases hf : findLot rm ls with
  | none =>
    have hfi : rFindR rm ls = -1 := by rw [rFindR, lotIdx_none hf]
    have hX : rTakeP ss rs ls dy kd lv rm o = 6 := by rw [rTakeP, hf]
    rw [hX]
    clear hX hf
    go_wp2_with (go_at_call 118; refine (rFind_any ls _ _ _ _ _ (hl.keep (m := w.heap.size) (by repeat (first | exact B_refl | exact Below.refl _ _ | assumption | with_reducible refine B_alloc ?_ _ | with_reducible refine B_ext ?_ _ | with_reducible refine B_drew ?_ | with_reducible refine B_drewN ?_ _ | with_reducible refine B_set ?_ (by simp; omega) _)))).mono ?_; rintro e wq ⟨rfl, zt, rfl⟩; rw [hfi])
    go_ret
    exact Ret.of rfl (by repeat (first | exact B_refl | exact Below.refl _ _ | assumption | with_reducible refine B_alloc ?_ _ | with_reducible refine B_ext ?_ _ | with_reducible refine B_drew ?_ | with_reducible refine B_drewN ?_ _ | with_reducible refine B_set ?_ (by simp; omega) _))
  | some t =>
    obtain ⟨i, hik, hgk⟩ := lotIdx_some hf
    have hfi : rFindR rm ls = (i : Int) := by rw [rFindR, hik]
    obtain ⟨hlt, hse⟩ := List.getElem?_eq_some_iff.1 hgk
    have hln := hl.hn
    have hl1 := hl.l1
    have hyn := hy.hn
    have hy1 := hy.l1
    subst hln hyn
    obtain ⟨b, off, rfl, hb, hcl⟩ := hl.sl.at hlt
    rw [hse] at hcl
    have x0 : w.cell? ⟨b, off + i * 6, none⟩ = some (.string t.remain) := hcl 0 _ rfl
    have x1 : w.cell? ⟨b, off + i * 6 + 1, none⟩ = some (.int .i64 t.state) := hcl 1 _ rfl
    have x2 : w.cell? ⟨b, off + i * 6 + 2, none⟩ = some (.string t.site) := hcl 2 _ rfl
    have x3 : w.cell? ⟨b, off + i * 6 + 3, none⟩ = some (.int .i64 t.level) := hcl 3 _ rfl
    have x4 : w.cell? ⟨b, off + i * 6 + 4, none⟩ = some (.int .i64 t.container) := hcl 4 _ rfl
    have x5 : w.cell? ⟨b, off + i * 6 + 5, none⟩ = some (.int .i64 t.since) := hcl 5 _ rfl
    have hlt2 : (i : Int) < (ls.length : Int) := by omega
    have hi0 : ¬ ((i : Int) < 0) := by omega
    have hq := hst t (findLot_mem hf)
    by_cases hs : t.state = 1
    · obtain ⟨⟨s, hfs⟩, ht0, ht1⟩ := hq hs
      have hX : rTakeP ss rs ls dy kd lv rm o = rLiesP rs ls s t dy kd lv o := by rw [rTakeP, hf]; simp [hs, hfs]
      obtain ⟨j, hjk, hhk⟩ := siteIdx_some hfs
      have hsi : rSiteR t.site ss = (j : Int) := by rw [rSiteR, hjk]
      obtain ⟨hjt, hje⟩ := List.getElem?_eq_some_iff.1 hhk
      obtain ⟨b', off', rfl, hb', hcj⟩ := hy.sl.at hjt
      rw [hje] at hcj
      have y0 : w.cell? ⟨b', off' + j * 6, none⟩ = some (.string s.name) := hcj 0 _ rfl
      have y1 : w.cell? ⟨b', off' + j * 6 + 1, none⟩ = some (.int .i64 s.kind) := hcj 1 _ rfl
      have y2 : w.cell? ⟨b', off' + j * 6 + 2, none⟩ = some (.int .i64 s.soil) := hcj 2 _ rfl
      have y3 : w.cell? ⟨b', off' + j * 6 + 3, none⟩ = some (.int .i64 s.depth) := hcj 3 _ rfl
      have y4 : w.cell? ⟨b', off' + j * 6 + 4, none⟩ = some (.int .i64 s.step) := hcj 4 _ rfl
      have y5 : w.cell? ⟨b', off' + j * 6 + 5, none⟩ = some (.int .i64 s.room) := hcj 5 _ rfl
      have hjt2 : (j : Int) < (ss.length : Int) := by omega
      have hj0 : (0 : Int) ≤ (j : Int) := by omega
      rw [hX]
      rw [hs] at x1
      have HFS := Lib.hid hfs
      clear hX hf hik hgk hse hcl hq hjk hhk hje hcj hfs
      generalize hT : rLiesP rs ls s t dy kd lv o = T
      have HT := Lib.hid hT
      clear hT
      go_wp2_with (go_at_call 118; refine (rFind_any ls _ _ _ _ _ (hl.keep (m := w.heap.size) (by repeat (first | exact B_refl | exact Below.refl _ _ | assumption | with_reducible refine B_alloc ?_ _ | with_reducible refine B_ext ?_ _ | with_reducible refine B_drew ?_ | with_reducible refine B_drewN ?_ _ | with_reducible refine B_set ?_ (by simp; omega) _)))).mono ?_; rintro e wq ⟨rfl, zt, rfl⟩; rw [hfi])
      generalize hW0 : World.alloc (World.ext (World.alloc (World.alloc w (.cells #[.slice (some ⟨b', off', none⟩) ss.length c, .slice R rn rc, .int .i64 c0, .int .i64 c1, .int .i64 c2] 40)) (.cells #[.int .i64 dy, .int .i64 kd, .string si, .int .i64 lv, .string rm, .int .i64 co, .bool o] 23)) zt) (.cells #[.string t.remain, .int .i64 1, .string t.site, .int .i64 t.level, .int .i64 t.container, .int .i64 t.since] 107) = W0
      have hB : Below w.heap.size w W0 := by rw [← hW0]; repeat (first | exact B_refl | exact Below.refl _ _ | assumption | with_reducible refine B_alloc ?_ _ | with_reducible refine B_ext ?_ _ | with_reducible refine B_drew ?_ | with_reducible refine B_drewN ?_ _ | with_reducible refine B_set ?_ (by simp; omega) _)
      have hblk : W0.heap[w.heap.size]? = some (.cells #[.slice (some ⟨b', off', none⟩) ss.length c, .slice R rn rc, .int .i64 c0, .int .i64 c1, .int .i64 c2] 40) := by rw [← hW0]; (repeat (first | with_reducible exact G_new _ _ _ (by simp) | with_reducible exact G_new _ _ _ (by simp [ext_size]) | with_reducible refine G_drew ?_ | with_reducible refine G_ext ?_ | with_reducible refine G_alloc ?_))
      have hblk1 : W0.heap[w.heap.size + 1]? = some (.cells #[.int .i64 dy, .int .i64 kd, .string si, .int .i64 lv, .string rm, .int .i64 co, .bool o] 23) := by rw [← hW0]; (repeat (first | with_reducible exact G_new _ _ _ (by simp) | with_reducible exact G_new _ _ _ (by simp [ext_size]) | with_reducible refine G_drew ?_ | with_reducible refine G_ext ?_ | with_reducible refine G_alloc ?_))
      have hblk2 : W0.heap[w.heap.size + 1 + 1 + zt.os.size]? = some (.cells #[.string t.remain, .int .i64 1, .string t.site, .int .i64 t.level, .int .i64 t.container, .int .i64 t.since] 107) := by rw [← hW0]; (repeat (first | with_reducible exact G_new _ _ _ (by simp) | with_reducible exact G_new _ _ _ (by simp [ext_size]) | with_reducible refine G_drew ?_ | with_reducible refine G_ext ?_ | with_reducible refine G_alloc ?_))
      obtain ⟨B, hBe⟩ : ∃ B, B = w.heap.size + 1 + 1 + zt.os.size := ⟨_, rfl⟩
      rw [← hBe] at hblk2 ⊢
      clear hBe hW0
      have hz := blk_lt hblk
      have hz1 := blk_lt hblk1
      have hz2 := blk_lt hblk2
      have hz3 : b' < W0.heap.size := Nat.lt_of_lt_of_le hb' hB.size
      have g0 : W0.cell? ⟨w.heap.size, 0, none⟩ = some (.slice (some ⟨b', off', none⟩) ss.length c) := by simp [World.cell?, hblk]
      have g1 : W0.cell? ⟨w.heap.size, 1, none⟩ = some (.slice R rn rc) := by simp [World.cell?, hblk]
      have g2 : W0.cell? ⟨w.heap.size, 2, none⟩ = some (.int .i64 c0) := by simp [World.cell?, hblk]
      have g3 : W0.cell? ⟨w.heap.size, 3, none⟩ = some (.int .i64 c1) := by simp [World.cell?, hblk]
      have g4 : W0.cell? ⟨w.heap.size, 4, none⟩ = some (.int .i64 c2) := by simp [World.cell?, hblk]
      have g5 : W0.cell? ⟨B, 2, none⟩ = some (.string t.site) := by simp [World.cell?, hblk2]
      have v0 := cell_kept hb' y0 hB
      have v1 := cell_kept hb' y1 hB
      have v2 := cell_kept hb' y2 hB
      have v3 := cell_kept hb' y3 hB
      have v4 := cell_kept hb' y4 hB
      have v5 := cell_kept hb' y5 hB
      clear x0 x1 x2 x3 x4 x5
      have HK0 := Lib.hid hblk
      have HK1 := Lib.hid hblk1
      have HK2 := Lib.hid hblk2
      clear hblk hblk1 hblk2
      refine wp_region_let 8 _ _ (.cells #[.string ⟨#[]⟩, .int .i64 0, .int .i64 0, .int .i64 0, .int .i64 0, .int .i64 0] 81) (.cells #[.string s.name, .int .i64 s.kind, .int .i64 s.soil, .int .i64 s.depth, .int .i64 s.step, .int .i64 s.room] 81) (by kernel_rfl) (by kernel_rfl) rfl rfl ?hrun ?_
      case hrun => intro a W; kernel_rfl
      simp only [List.take_succ_cons, List.take_zero]
      repeat (refine wpGrow_step (fun K hK => ?_); simp only [grow]; go_simp; first | (refine hK _ ?_; clear hK K) | (apply Exists.intro; refine ⟨fun _ => ?_, hK _ ?_⟩; ((go_at_call 120; refine quietg (v := .int .i64 (j : Int)) ?_; rw [← hsi]; exact rSite_any ss rs _ _ _ _ _ _ _ _ _ _ _ (hy.keep (m := w.heap.size) (by repeat (first | exact B_refl | exact Below.refl _ _ | assumption | with_reducible refine B_alloc ?_ _ | with_reducible refine B_ext ?_ _ | with_reducible refine B_drew ?_ | with_reducible refine B_drewN ?_ _ | with_reducible refine B_set ?_ (by simp; omega) _))))); clear hK K))
      refine wpGrow_nil ⟨?hstore, ?hlast⟩
      case hstore =>
        intro W B hb
        have f0 : W.cell? ⟨B, 0, none⟩ = some (.string ⟨#[]⟩) := by simp [World.cell?, hb]
        have f1 : W.cell? ⟨B, 1, none⟩ = some (.int .i64 0) := by simp [World.cell?, hb]
        have f2 : W.cell? ⟨B, 2, none⟩ = some (.int .i64 0) := by simp [World.cell?, hb]
        have f3 : W.cell? ⟨B, 3, none⟩ = some (.int .i64 0) := by simp [World.cell?, hb]
        have f4 : W.cell? ⟨B, 4, none⟩ = some (.int .i64 0) := by simp [World.cell?, hb]
        have f5 : W.cell? ⟨B, 5, none⟩ = some (.int .i64 0) := by simp [World.cell?, hb]
        have fz : ∀ j, W.frozen? ⟨B, j, none⟩ = false := fun j => by simp [World.frozen?, hb]
        go_simp
        with_reducible exact ⟨G_set6 hb, grown_set6 _ _ _ _ _ _ _ _⟩
      case hlast =>
       rintro B2 W ⟨z2, hW⟩ hB2 hb2
       have hBW : Below W0.heap.size W0 W := by rw [hW]; exact below_ext _ _
       have hB1 : Below w.heap.size w W := hB.trans (hBW.mono hB.size)
       have hzB := blk_lt hb2
       have k0 := (hBW.block _ hz).trans HK0.out
       have k1 := (hBW.block _ hz1).trans HK1.out
       have k2 := (hBW.block _ hz2).trans HK2.out
       have e0 : W.cell? ⟨w.heap.size, 0, none⟩ = some (.slice (some ⟨b', off', none⟩) ss.length c) := by simp [World.cell?, k0]
       have e1 : W.cell? ⟨w.heap.size, 1, none⟩ = some (.slice R rn rc) := by simp [World.cell?, k0]
       have e2 : W.cell? ⟨w.heap.size, 2, none⟩ = some (.int .i64 c0) := by simp [World.cell?, k0]
       have e3 : W.cell? ⟨w.heap.size, 3, none⟩ = some (.int .i64 c1) := by simp [World.cell?, k0]
       have e4 : W.cell? ⟨w.heap.size, 4, none⟩ = some (.int .i64 c2) := by simp [World.cell?, k0]
       have q0 : W.cell? ⟨w.heap.size + 1, 0, none⟩ = some (.int .i64 dy) := by simp [World.cell?, k1]
       have q1 : W.cell? ⟨w.heap.size + 1, 1, none⟩ = some (.int .i64 kd) := by simp [World.cell?, k1]
       have q3 : W.cell? ⟨w.heap.size + 1, 3, none⟩ = some (.int .i64 lv) := by simp [World.cell?, k1]
       have q6 : W.cell? ⟨w.heap.size + 1, 6, none⟩ = some (.bool o) := by simp [World.cell?, k1]
       have t3 : W.cell? ⟨B, 3, none⟩ = some (.int .i64 t.level) := by simp [World.cell?, k2]
       have t4 : W.cell? ⟨B, 4, none⟩ = some (.int .i64 t.container) := by simp [World.cell?, k2]
       have t5 : W.cell? ⟨B, 5, none⟩ = some (.int .i64 t.since) := by simp [World.cell?, k2]
       have s0 : W.cell? ⟨B2, 0, none⟩ = some (.string s.name) := by simp [World.cell?, hb2]
       have s1 : W.cell? ⟨B2, 1, none⟩ = some (.int .i64 s.kind) := by simp [World.cell?, hb2]
       have s2 : W.cell? ⟨B2, 2, none⟩ = some (.int .i64 s.soil) := by simp [World.cell?, hb2]
       have s3 : W.cell? ⟨B2, 3, none⟩ = some (.int .i64 s.depth) := by simp [World.cell?, hb2]
       have s4 : W.cell? ⟨B2, 4, none⟩ = some (.int .i64 s.step) := by simp [World.cell?, hb2]
       have s5 : W.cell? ⟨B2, 5, none⟩ = some (.int .i64 s.room) := by simp [World.cell?, hb2]
       have hr1 := hr s (findSite_mem HFS.out)
       have zW := hB1.size
       have z0 : w.heap.size < W.heap.size := Nat.lt_of_lt_of_le hz hBW.size
       have z1 : w.heap.size + 1 < W.heap.size := Nat.lt_of_lt_of_le hz1 hBW.size
       have zB : B < W.heap.size := Nat.lt_of_lt_of_le hz2 hBW.size
       clear k0 k1 k2 hb2 hW hBW HK0 HK1 HK2 g0 g1 g2 g3 g4 g5 v0 v1 v2 v3 v4 v5 y0 y1 y2 y3 y4 y5 hz hz1 hz2 hz3 hB hB2 hst hr hsi hfi
       obtain ⟨a, k, so, d, st, r⟩ := s
       obtain ⟨trm, tst, tsi, tlv, tco, tsc⟩ := t
       dsimp only at s0 s1 s2 s3 s4 s5 t3 t4 t5 ht0 ht1 hr1
       by_cases hk3 : kd = 3
       · subst hk3
         cases hk : (k != 0)
         · by_cases hlv : tlv ≤ lv
           · go_wp2_with fail
             go_ret
             exact Ret.of (int_eq (by rw [← HT.out, rLiesP]; simp [hk, hlv])) (by repeat (first | exact B_refl | exact Below.refl _ _ | assumption | with_reducible refine B_alloc ?_ _ | with_reducible refine B_ext ?_ _ | with_reducible refine B_drew ?_ | with_reducible refine B_drewN ?_ _ | with_reducible refine B_set ?_ (by simp; omega) _))
           · obtain ⟨U, hU⟩ : ∃ U, rBusyGo a ls (tlv - lv).toNat lv = U := ⟨_, rfl⟩
             have HU := Lib.hid hU
             have hlv1 : lv < tlv := by omega
             clear hU hlv
             go_wp2_with fail
             go_loopw [10] (fun i wr => ∃ n : Int, lv ≤ n ∧ n ≤ tlv ∧ i = .int .i64 n ∧ U = rBusyGo a ls (tlv - n).toNat n ∧ ∃ z, wr = W.ext z) (fun i _ => (tlv - intOf i).toNat)
             case atStart => exact ⟨lv, Int.le_refl _, by omega, rfl, HU.out.symm, ext_below (Below.refl _ _)⟩
             case round =>
               obtain ⟨n, hn1, hn2, rfl, hf, z, rfl⟩ := hrel
               by_cases hlt : n < tlv
               · obtain ⟨f, hfu⟩ : ∃ f, (tlv - n).toNat = f + 1 := ⟨(tlv - n).toNat - 1, by omega⟩
                 rw [hfu, rBusyGo] at hf
                 have hf1 : (tlv - (n + 1)).toNat = f := by omega
                 have HF := Lib.hid hf
                 clear hf
                 cases ho : rOccP a n ls
                 · go_wp2_with (go_at_call 121; refine (rOcc_any ls _ _ _ _ _ _ (hl.keep (m := w.heap.size) (by repeat (first | exact B_refl | exact Below.refl _ _ | assumption | with_reducible refine B_alloc ?_ _ | with_reducible refine B_ext ?_ _ | with_reducible refine B_drew ?_ | with_reducible refine B_drewN ?_ _ | with_reducible refine B_set ?_ (by simp; omega) _)))).mono ?_; rintro e wq ⟨rfl, zq, rfl⟩; rw [ho])
                   go_roundw
                   case rel => exact ⟨n + 1, by omega, by omega, by go_num, by rw [HF.out, if_neg (by simp [ho]), hf1], ext_below (by repeat (first | exact B_refl | exact Below.refl _ _ | assumption | with_reducible refine B_alloc ?_ _ | with_reducible refine B_ext ?_ _ | with_reducible refine B_drew ?_ | with_reducible refine B_drewN ?_ _ | with_reducible refine B_set ?_ (by simp; omega) _))⟩
                   case measure => simp [intOf]; omega
                 · go_wp2_with (go_at_call 121; refine (rOcc_any ls _ _ _ _ _ _ (hl.keep (m := w.heap.size) (by repeat (first | exact B_refl | exact Below.refl _ _ | assumption | with_reducible refine B_alloc ?_ _ | with_reducible refine B_ext ?_ _ | with_reducible refine B_drew ?_ | with_reducible refine B_drewN ?_ _ | with_reducible refine B_set ?_ (by simp; omega) _)))).mono ?_; rintro e wq ⟨rfl, zq, rfl⟩; rw [ho])
                   go_ret
                   refine Ret.of (int_eq ?_) (by repeat (first | exact B_refl | exact Below.refl _ _ | assumption | with_reducible refine B_alloc ?_ _ | with_reducible refine B_ext ?_ _ | with_reducible refine B_drew ?_ | with_reducible refine B_drewN ?_ _ | with_reducible refine B_set ?_ (by simp; omega) _))
                   have h1 := HU.out
                   rw [HF.out, if_pos ho] at h1
                   have hlv2 : ¬ tlv ≤ lv := by omega
                   rw [← HT.out, rLiesP]
                   simp [hk, h1, hlv2]
               · have hfu : (tlv - n).toNat = 0 := by omega
                 rw [hfu, rBusyGo] at hf
                 have hbu : rBusyGo a ls (tlv - lv).toNat lv = false := by rw [HU.out, hf]
                 have HB : Hid (rLiesP rs ls ⟨a, k, so, d, st, r⟩ ⟨trm, tst, tsi, tlv, tco, tsc⟩ dy 3 lv o = if rCovP k a r tlv ls then 18 else if !o && decide (dy < wrap64 (tsc + restP so tco rs)) then 17 else 0) := by
                   show _ = _
                   have hlv2 : ¬ tlv ≤ lv := by omega
                   rw [rLiesP]; simp [hk, hbu, hlv2]
                 clear hf hfu hbu
                 cases hv : rCovP k a r tlv ls
                 · cases o
                   · by_cases he : dy < wrap64 (tsc + restP so tco rs)
                     · have HE : Hid (rLiesP rs ls ⟨a, k, so, d, st, r⟩ ⟨trm, tst, tsi, tlv, tco, tsc⟩ dy _ lv _ = 17) := HB.out.trans (by simp [hv, he])
                       go_wp2_with (go_at_call 122; refine (rCov_any ls _ _ _ _ _ _ _ _ _ _ _ (hl.keep (m := w.heap.size) (by repeat (first | exact B_refl | exact Below.refl _ _ | assumption | with_reducible refine B_alloc ?_ _ | with_reducible refine B_ext ?_ _ | with_reducible refine B_drew ?_ | with_reducible refine B_drewN ?_ _ | with_reducible refine B_set ?_ (by simp; omega) _))) (by omega) ht1 hr1).mono ?_; rintro e wq ⟨rfl, zq, rfl⟩; rw [hv])
                       (refine wp_region_ext_lit (by kernel_rfl) (by kernel_rfl) ?_
                        repeat (first | go_big_quiet_skip | (go_big_quiet_want; go_big_quiet_op; first | go_big_quiet_on | (apply Exists.intro; refine ⟨fun _ => ?_, ?_⟩; (go_at_call 123; exact quietx (rRest_any ss rs _ _ _ _ _ _ _ _ _ _ _ _ _ _ _ _ _ (hy.keep (m := w.heap.size) (by repeat (first | exact B_refl | exact Below.refl _ _ | assumption | with_reducible refine B_alloc ?_ _ | with_reducible refine B_ext ?_ _ | with_reducible refine B_drew ?_ | with_reducible refine B_drewN ?_ _ | with_reducible refine B_set ?_ (by simp; omega) _))))); go_big_quiet_on)))
                        refine wpQuiet_nil ?_
                        rintro _ ⟨zq, rfl⟩)
                       go_wp2_with fail
                       go_ret
                       exact Ret.of (int_eq (by rw [← HT.out, HE.out])) (by repeat (first | exact B_refl | exact Below.refl _ _ | assumption | with_reducible refine B_alloc ?_ _ | with_reducible refine B_ext ?_ _ | with_reducible refine B_drew ?_ | with_reducible refine B_drewN ?_ _ | with_reducible refine B_set ?_ (by simp; omega) _))
                     · have HE : Hid (rLiesP rs ls ⟨a, k, so, d, st, r⟩ ⟨trm, tst, tsi, tlv, tco, tsc⟩ dy _ lv _ = 0) := HB.out.trans (by simp [hv, he])
                       go_wp2_with (go_at_call 122; refine (rCov_any ls _ _ _ _ _ _ _ _ _ _ _ (hl.keep (m := w.heap.size) (by repeat (first | exact B_refl | exact Below.refl _ _ | assumption | with_reducible refine B_alloc ?_ _ | with_reducible refine B_ext ?_ _ | with_reducible refine B_drew ?_ | with_reducible refine B_drewN ?_ _ | with_reducible refine B_set ?_ (by simp; omega) _))) (by omega) ht1 hr1).mono ?_; rintro e wq ⟨rfl, zq, rfl⟩; rw [hv])
                       (refine wp_region_ext_lit (by kernel_rfl) (by kernel_rfl) ?_
                        repeat (first | go_big_quiet_skip | (go_big_quiet_want; go_big_quiet_op; first | go_big_quiet_on | (apply Exists.intro; refine ⟨fun _ => ?_, ?_⟩; (go_at_call 123; exact quietx (rRest_any ss rs _ _ _ _ _ _ _ _ _ _ _ _ _ _ _ _ _ (hy.keep (m := w.heap.size) (by repeat (first | exact B_refl | exact Below.refl _ _ | assumption | with_reducible refine B_alloc ?_ _ | with_reducible refine B_ext ?_ _ | with_reducible refine B_drew ?_ | with_reducible refine B_drewN ?_ _ | with_reducible refine B_set ?_ (by simp; omega) _))))); go_big_quiet_on)))
                        refine wpQuiet_nil ?_
                        rintro _ ⟨zq, rfl⟩)
                       go_wp2_with fail
                       go_ret
                       exact Ret.of (int_eq (by rw [← HT.out, HE.out])) (by repeat (first | exact B_refl | exact Below.refl _ _ | assumption | with_reducible refine B_alloc ?_ _ | with_reducible refine B_ext ?_ _ | with_reducible refine B_drew ?_ | with_reducible refine B_drewN ?_ _ | with_reducible refine B_set ?_ (by simp; omega) _))
                   · have HE : Hid (rLiesP rs ls ⟨a, k, so, d, st, r⟩ ⟨trm, tst, tsi, tlv, tco, tsc⟩ dy _ lv _ = 0) := HB.out.trans (by simp [hv])
                     go_wp2_with (go_at_call 122; refine (rCov_any ls _ _ _ _ _ _ _ _ _ _ _ (hl.keep (m := w.heap.size) (by repeat (first | exact B_refl | exact Below.refl _ _ | assumption | with_reducible refine B_alloc ?_ _ | with_reducible refine B_ext ?_ _ | with_reducible refine B_drew ?_ | with_reducible refine B_drewN ?_ _ | with_reducible refine B_set ?_ (by simp; omega) _))) (by omega) ht1 hr1).mono ?_; rintro e wq ⟨rfl, zq, rfl⟩; rw [hv])
                     (refine wp_region_ext_lit (by kernel_rfl) (by kernel_rfl) ?_
                      repeat (first | go_big_quiet_skip | (go_big_quiet_want; go_big_quiet_op; first | go_big_quiet_on | (apply Exists.intro; refine ⟨fun _ => ?_, ?_⟩; (fail); go_big_quiet_on)))
                      refine wpQuiet_nil ?_
                      rintro _ ⟨zq, rfl⟩)
                     go_wp2_with fail
                     go_ret
                     exact Ret.of (int_eq (by rw [← HT.out, HE.out])) (by repeat (first | exact B_refl | exact Below.refl _ _ | assumption | with_reducible refine B_alloc ?_ _ | with_reducible refine B_ext ?_ _ | with_reducible refine B_drew ?_ | with_reducible refine B_drewN ?_ _ | with_reducible refine B_set ?_ (by simp; omega) _))
                 · have HE : Hid (rLiesP rs ls ⟨a, k, so, d, st, r⟩ ⟨trm, tst, tsi, tlv, tco, tsc⟩ dy _ lv _ = 18) := HB.out.trans (by simp [hv])
                   go_wp2_with (go_at_call 122; refine (rCov_any ls _ _ _ _ _ _ _ _ _ _ _ (hl.keep (m := w.heap.size) (by repeat (first | exact B_refl | exact Below.refl _ _ | assumption | with_reducible refine B_alloc ?_ _ | with_reducible refine B_ext ?_ _ | with_reducible refine B_drew ?_ | with_reducible refine B_drewN ?_ _ | with_reducible refine B_set ?_ (by simp; omega) _))) (by omega) ht1 hr1).mono ?_; rintro e wq ⟨rfl, zq, rfl⟩; rw [hv])
                   go_ret
                   exact Ret.of (int_eq (by rw [← HT.out, HE.out])) (by repeat (first | exact B_refl | exact Below.refl _ _ | assumption | with_reducible refine B_alloc ?_ _ | with_reducible refine B_ext ?_ _ | with_reducible refine B_drew ?_ | with_reducible refine B_drewN ?_ _ | with_reducible refine B_set ?_ (by simp; omega) _))
         · go_wp2_with fail
           go_ret
           exact Ret.of (int_eq (by rw [← HT.out, rLiesP]; simp [hk])) (by repeat (first | exact B_refl | exact Below.refl _ _ | assumption | with_reducible refine B_alloc ?_ _ | with_reducible refine B_ext ?_ _ | with_reducible refine B_drew ?_ | with_reducible refine B_drewN ?_ _ | with_reducible refine B_set ?_ (by simp; omega) _))
       · have HB : Hid (rLiesP rs ls ⟨a, k, so, d, st, r⟩ ⟨trm, tst, tsi, tlv, tco, tsc⟩ dy kd lv o = if rCovP k a r tlv ls then 18 else if !o && decide (dy < wrap64 (tsc + restP so tco rs)) then 17 else 0) := by
           show _ = _
           rw [rLiesP]; simp [hk3]
         have hk3' : (kd == 3) = false := by simpa using hk3
         cases hv : rCovP k a r tlv ls
         · cases o
           · by_cases he : dy < wrap64 (tsc + restP so tco rs)
             · have HE : Hid (rLiesP rs ls ⟨a, k, so, d, st, r⟩ ⟨trm, tst, tsi, tlv, tco, tsc⟩ dy _ lv _ = 17) := HB.out.trans (by simp [hv, he])
               go_wp2_with (go_at_call 122; refine (rCov_any ls _ _ _ _ _ _ _ _ _ _ _ (hl.keep (m := w.heap.size) (by repeat (first | exact B_refl | exact Below.refl _ _ | assumption | with_reducible refine B_alloc ?_ _ | with_reducible refine B_ext ?_ _ | with_reducible refine B_drew ?_ | with_reducible refine B_drewN ?_ _ | with_reducible refine B_set ?_ (by simp; omega) _))) (by omega) ht1 hr1).mono ?_; rintro e wq ⟨rfl, zq, rfl⟩; rw [hv])
               (refine wp_region_ext_lit (by kernel_rfl) (by kernel_rfl) ?_
                repeat (first | go_big_quiet_skip | (go_big_quiet_want; go_big_quiet_op; first | go_big_quiet_on | (apply Exists.intro; refine ⟨fun _ => ?_, ?_⟩; (go_at_call 123; exact quietx (rRest_any ss rs _ _ _ _ _ _ _ _ _ _ _ _ _ _ _ _ _ (hy.keep (m := w.heap.size) (by repeat (first | exact B_refl | exact Below.refl _ _ | assumption | with_reducible refine B_alloc ?_ _ | with_reducible refine B_ext ?_ _ | with_reducible refine B_drew ?_ | with_reducible refine B_drewN ?_ _ | with_reducible refine B_set ?_ (by simp; omega) _))))); go_big_quiet_on)))
                refine wpQuiet_nil ?_
                rintro _ ⟨zq, rfl⟩)
               go_wp2_with fail
               go_ret
               exact Ret.of (int_eq (by rw [← HT.out, HE.out])) (by repeat (first | exact B_refl | exact Below.refl _ _ | assumption | with_reducible refine B_alloc ?_ _ | with_reducible refine B_ext ?_ _ | with_reducible refine B_drew ?_ | with_reducible refine B_drewN ?_ _ | with_reducible refine B_set ?_ (by simp; omega) _))
             · have HE : Hid (rLiesP rs ls ⟨a, k, so, d, st, r⟩ ⟨trm, tst, tsi, tlv, tco, tsc⟩ dy _ lv _ = 0) := HB.out.trans (by simp [hv, he])
               go_wp2_with (go_at_call 122; refine (rCov_any ls _ _ _ _ _ _ _ _ _ _ _ (hl.keep (m := w.heap.size) (by repeat (first | exact B_refl | exact Below.refl _ _ | assumption | with_reducible refine B_alloc ?_ _ | with_reducible refine B_ext ?_ _ | with_reducible refine B_drew ?_ | with_reducible refine B_drewN ?_ _ | with_reducible refine B_set ?_ (by simp; omega) _))) (by omega) ht1 hr1).mono ?_; rintro e wq ⟨rfl, zq, rfl⟩; rw [hv])
               (refine wp_region_ext_lit (by kernel_rfl) (by kernel_rfl) ?_
                repeat (first | go_big_quiet_skip | (go_big_quiet_want; go_big_quiet_op; first | go_big_quiet_on | (apply Exists.intro; refine ⟨fun _ => ?_, ?_⟩; (go_at_call 123; exact quietx (rRest_any ss rs _ _ _ _ _ _ _ _ _ _ _ _ _ _ _ _ _ (hy.keep (m := w.heap.size) (by repeat (first | exact B_refl | exact Below.refl _ _ | assumption | with_reducible refine B_alloc ?_ _ | with_reducible refine B_ext ?_ _ | with_reducible refine B_drew ?_ | with_reducible refine B_drewN ?_ _ | with_reducible refine B_set ?_ (by simp; omega) _))))); go_big_quiet_on)))
                refine wpQuiet_nil ?_
                rintro _ ⟨zq, rfl⟩)
               go_wp2_with fail
               go_ret
               exact Ret.of (int_eq (by rw [← HT.out, HE.out])) (by repeat (first | exact B_refl | exact Below.refl _ _ | assumption | with_reducible refine B_alloc ?_ _ | with_reducible refine B_ext ?_ _ | with_reducible refine B_drew ?_ | with_reducible refine B_drewN ?_ _ | with_reducible refine B_set ?_ (by simp; omega) _))
           · have HE : Hid (rLiesP rs ls ⟨a, k, so, d, st, r⟩ ⟨trm, tst, tsi, tlv, tco, tsc⟩ dy _ lv _ = 0) := HB.out.trans (by simp [hv])
             go_wp2_with (go_at_call 122; refine (rCov_any ls _ _ _ _ _ _ _ _ _ _ _ (hl.keep (m := w.heap.size) (by repeat (first | exact B_refl | exact Below.refl _ _ | assumption | with_reducible refine B_alloc ?_ _ | with_reducible refine B_ext ?_ _ | with_reducible refine B_drew ?_ | with_reducible refine B_drewN ?_ _ | with_reducible refine B_set ?_ (by simp; omega) _))) (by omega) ht1 hr1).mono ?_; rintro e wq ⟨rfl, zq, rfl⟩; rw [hv])
             (refine wp_region_ext_lit (by kernel_rfl) (by kernel_rfl) ?_
              repeat (first | go_big_quiet_skip | (go_big_quiet_want; go_big_quiet_op; first | go_big_quiet_on | (apply Exists.intro; refine ⟨fun _ => ?_, ?_⟩; (fail); go_big_quiet_on)))
              refine wpQuiet_nil ?_
              rintro _ ⟨zq, rfl⟩)
             go_wp2_with fail
             go_ret
             exact Ret.of (int_eq (by rw [← HT.out, HE.out])) (by repeat (first | exact B_refl | exact Below.refl _ _ | assumption | with_reducible refine B_alloc ?_ _ | with_reducible refine B_ext ?_ _ | with_reducible refine B_drew ?_ | with_reducible refine B_drewN ?_ _ | with_reducible refine B_set ?_ (by simp; omega) _))
         · have HE : Hid (rLiesP rs ls ⟨a, k, so, d, st, r⟩ ⟨trm, tst, tsi, tlv, tco, tsc⟩ dy _ lv _ = 18) := HB.out.trans (by simp [hv])
           go_wp2_with (go_at_call 122; refine (rCov_any ls _ _ _ _ _ _ _ _ _ _ _ (hl.keep (m := w.heap.size) (by repeat (first | exact B_refl | exact Below.refl _ _ | assumption | with_reducible refine B_alloc ?_ _ | with_reducible refine B_ext ?_ _ | with_reducible refine B_drew ?_ | with_reducible refine B_drewN ?_ _ | with_reducible refine B_set ?_ (by simp; omega) _))) (by omega) ht1 hr1).mono ?_; rintro e wq ⟨rfl, zq, rfl⟩; rw [hv])
           go_ret
           exact Ret.of (int_eq (by rw [← HT.out, HE.out])) (by repeat (first | exact B_refl | exact Below.refl _ _ | assumption | with_reducible refine B_alloc ?_ _ | with_reducible refine B_ext ?_ _ | with_reducible refine B_drew ?_ | with_reducible refine B_drewN ?_ _ | with_reducible refine B_set ?_ (by simp; omega) _))
    · have hX : rTakeP ss rs ls dy kd lv rm o = 28 := by rw [rTakeP, hf]; simp [hs]
      rw [hX]
      clear hX hf hik hgk hse hcl hq
      go_wp2_with (go_at_call 118; refine (rFind_any ls _ _ _ _ _ (hl.keep (m := w.heap.size) (by repeat (first | exact B_refl | exact Below.refl _ _ | assumption | with_reducible refine B_alloc ?_ _ | with_reducible refine B_ext ?_ _ | with_reducible refine B_drew ?_ | with_reducible refine B_drewN ?_ _ | with_reducible refine B_set ?_ (by simp; omega) _)))).mono ?_; rintro e wq ⟨rfl, zt, rfl⟩; rw [hfi])
      go_ret
      exact Ret.of rfl (by repeat (first | exact B_refl | exact Below.refl _ _ | assumption | with_reducible refine B_alloc ?_ _ | with_reducible refine B_ext ?_ _ | with_reducible refine B_drew ?_ | with_reducible refine B_drewN ?_ _ | with_reducible refine B_set ?_ (by simp; omega) _))
end Go.Proofs.YtpohkolapgofdaaGreatDoor
namespace Go.Proofs.YtpohkolapgofdaaGreatDoor
open Go.RowKit
attribute [local go_sem] World.cell?_alloc_mark ext_size ext_cell ext_frozen lt_add_r lt_add_r2 lt_add_r3 lt_add_r4 lt_add_r5 lt_add_r6 lt_add_r7 lt_add_r8
attribute [local go_sem] ext_setCell alloc_setCell_lt

theorem results_lot1 {fn : Func} {p : Tmp} (h : fn.results = #[.cell p 107]) (tmps : Array Value) (w : World) (B : Nat) (lt : Lot) (hp : tmps.getD p undef = .pointer (some ⟨B, 0, none⟩))
    (h0 : w.cell? ⟨B, 0, none⟩ = some (.string lt.remain)) (h1 : w.cell? ⟨B, 1, none⟩ = some (.int .i64 lt.state)) (h2 : w.cell? ⟨B, 2, none⟩ = some (.string lt.site)) (h3 : w.cell? ⟨B, 3, none⟩ = some (.int .i64 lt.level))
    (h4 : w.cell? ⟨B, 4, none⟩ = some (.int .i64 lt.container)) (h5 : w.cell? ⟨B, 5, none⟩ = some (.int .i64 lt.since)) : (results fn tmps).run Tryz.prog w = .ok lt.v w := by
  rw [results_cell1 h, hp]
  unfold Lot.v
  go_simp

set_option maxRecDepth 100000 in
set_option maxHeartbeats 2000000 in
theorem rLotOf_any (ss : List Site) (rs : List Rest) (A R : Option Addr) (n c rn rc : Nat) (c0 c1 c2 : Int) (ls : List Lot) (L : Option Addr) (ln lc : Nat) (dy kd : Int) (si : ByteArray) (lv : Int) (rm : ByteArray) (co : Int) (o : Bool) (w : World) (hy : YardIn w ss rs A n c R rn rc) (hl : LotsIn w ls L ln)
    (hk0 : 0 ≤ kd) (hk4 : kd ≤ 4) (hput : kd = 0 ∨ kd = 2 → ∃ s, findSite si ss = some s) (hlow : kd = 3 → ∃ t, findLot rm ls = some t) :
    Calls Tryz.prog 101 #[.agg #[.slice A n c, .slice R rn rc, .int .i64 c0, .int .i64 c1, .int .i64 c2], .slice L ln lc, .agg #[.int .i64 dy, .int .i64 kd, .string si, .int .i64 lv, .string rm, .int .i64 co, .bool o]] w (Ret w (rLotP ss ls ⟨dy, kd, si, lv, rm, co, o⟩).v) := by
  go_enter Tryz.func101, Tryz.ntmps101
  have hkd : kd = 0 ∨ kd = 2 ∨ kd = 1 ∨ kd = 4 ∨ kd = 3 := by omega
  clear hk0 hk4
  rcases hkd with rfl | rfl | rfl | rfl | rfl
  ·
        obtain ⟨s, hfs⟩ := hput (by first | exact .inl rfl | exact .inr rfl)
        obtain ⟨i, hik, hgk⟩ := siteIdx_some hfs
        have hsi : rSiteR si ss = (i : Int) := by rw [rSiteR, hik]
        obtain ⟨hlt, hse⟩ := List.getElem?_eq_some_iff.1 hgk
        have hyn := hy.hn
        have hy1 := hy.l1
        subst hyn
        obtain ⟨b, off, rfl, hb, hcl⟩ := hy.sl.at hlt
        rw [hse] at hcl
        have x1 : w.cell? ⟨b, off + i * 6 + 1, none⟩ = some (.int .i64 s.kind) := hcl 1 _ rfl
        have hlt2 : (i : Int) < (ss.length : Int) := by omega
        have hi0 : (0 : Int) ≤ (i : Int) := by omega
        have hsk : siteKind' ss si = s.kind := by rw [siteKind', hfs]
        have HSK := Lib.hid hsk
        clear hik hgk hse hcl hfs hsk hput hlow
        go_wp2_with fail
        go_region
        go_wp2_with fail
        (refine wp_region_ext_lit (by kernel_rfl) (by kernel_rfl) ?_
         repeat (first | go_big_quiet_skip | (go_big_quiet_want; go_big_quiet_op; first | go_big_quiet_on | (apply Exists.intro; refine ⟨fun _ => ?_, ?_⟩; (go_at_call 120; refine quietx (v := .int .i64 (i : Int)) ?_; rw [← hsi]; exact rSite_any ss rs _ _ _ _ _ _ _ _ _ _ _ (hy.keep (m := w.heap.size) (by repeat (first | exact B_refl | exact Below.refl _ _ | assumption | with_reducible refine B_alloc ?_ _ | with_reducible refine B_ext ?_ _ | with_reducible refine B_drew ?_ | with_reducible refine B_drewN ?_ _ | with_reducible refine B_set ?_ (by simp; omega) _)))); go_big_quiet_on)))
         refine wpQuiet_nil ?_
         rintro _ ⟨zq, rfl⟩)
        cases hk3 : (s.kind == 3)
        · go_wp2_with fail
          refine bodyPost_ret (v := Lot.v ⟨rm, 1, si, lv, co, dy⟩) (results_lot1 rfl _ _ (w.heap.size + 2) ⟨rm, 1, si, lv, co, dy⟩ rfl (by simp [go_sem, zeroLot]) (by simp [go_sem, zeroLot]) (by simp [go_sem, zeroLot]) (by simp [go_sem, zeroLot]) (by simp [go_sem, zeroLot]) (by simp [go_sem, zeroLot])) rfl ?_
          exact Ret.of (by rw [rLotP]; simp [HSK.out, hk3]) (by repeat (first | exact B_refl | exact Below.refl _ _ | assumption | with_reducible refine B_alloc ?_ _ | with_reducible refine B_ext ?_ _ | with_reducible refine B_drew ?_ | with_reducible refine B_drewN ?_ _ | with_reducible refine B_set ?_ (by simp; omega) _))
        · go_wp2_with fail
          refine bodyPost_ret (v := Lot.v ⟨rm, 3, si, lv, co, dy⟩) (results_lot1 rfl _ _ (w.heap.size + 2) ⟨rm, 3, si, lv, co, dy⟩ rfl (by simp [go_sem, zeroLot]) (by simp [go_sem, zeroLot]) (by simp [go_sem, zeroLot]) (by simp [go_sem, zeroLot]) (by simp [go_sem, zeroLot]) (by simp [go_sem, zeroLot])) rfl ?_
          exact Ret.of (by rw [rLotP]; simp [HSK.out, hk3]) (by repeat (first | exact B_refl | exact Below.refl _ _ | assumption | with_reducible refine B_alloc ?_ _ | with_reducible refine B_ext ?_ _ | with_reducible refine B_drew ?_ | with_reducible refine B_drewN ?_ _ | with_reducible refine B_set ?_ (by simp; omega) _))
  ·
        obtain ⟨s, hfs⟩ := hput (by first | exact .inl rfl | exact .inr rfl)
        obtain ⟨i, hik, hgk⟩ := siteIdx_some hfs
        have hsi : rSiteR si ss = (i : Int) := by rw [rSiteR, hik]
        obtain ⟨hlt, hse⟩ := List.getElem?_eq_some_iff.1 hgk
        have hyn := hy.hn
        have hy1 := hy.l1
        subst hyn
        obtain ⟨b, off, rfl, hb, hcl⟩ := hy.sl.at hlt
        rw [hse] at hcl
        have x1 : w.cell? ⟨b, off + i * 6 + 1, none⟩ = some (.int .i64 s.kind) := hcl 1 _ rfl
        have hlt2 : (i : Int) < (ss.length : Int) := by omega
        have hi0 : (0 : Int) ≤ (i : Int) := by omega
        have hsk : siteKind' ss si = s.kind := by rw [siteKind', hfs]
        have HSK := Lib.hid hsk
        clear hik hgk hse hcl hfs hsk hput hlow
        go_wp2_with fail
        go_region
        go_wp2_with fail
        (refine wp_region_ext_lit (by kernel_rfl) (by kernel_rfl) ?_
         repeat (first | go_big_quiet_skip | (go_big_quiet_want; go_big_quiet_op; first | go_big_quiet_on | (apply Exists.intro; refine ⟨fun _ => ?_, ?_⟩; (go_at_call 120; refine quietx (v := .int .i64 (i : Int)) ?_; rw [← hsi]; exact rSite_any ss rs _ _ _ _ _ _ _ _ _ _ _ (hy.keep (m := w.heap.size) (by repeat (first | exact B_refl | exact Below.refl _ _ | assumption | with_reducible refine B_alloc ?_ _ | with_reducible refine B_ext ?_ _ | with_reducible refine B_drew ?_ | with_reducible refine B_drewN ?_ _ | with_reducible refine B_set ?_ (by simp; omega) _)))); go_big_quiet_on)))
         refine wpQuiet_nil ?_
         rintro _ ⟨zq, rfl⟩)
        cases hk3 : (s.kind == 3)
        · go_wp2_with fail
          refine bodyPost_ret (v := Lot.v ⟨rm, 1, si, lv, co, dy⟩) (results_lot1 rfl _ _ (w.heap.size + 2) ⟨rm, 1, si, lv, co, dy⟩ rfl (by simp [go_sem, zeroLot]) (by simp [go_sem, zeroLot]) (by simp [go_sem, zeroLot]) (by simp [go_sem, zeroLot]) (by simp [go_sem, zeroLot]) (by simp [go_sem, zeroLot])) rfl ?_
          exact Ret.of (by rw [rLotP]; simp [HSK.out, hk3]) (by repeat (first | exact B_refl | exact Below.refl _ _ | assumption | with_reducible refine B_alloc ?_ _ | with_reducible refine B_ext ?_ _ | with_reducible refine B_drew ?_ | with_reducible refine B_drewN ?_ _ | with_reducible refine B_set ?_ (by simp; omega) _))
        · go_wp2_with fail
          refine bodyPost_ret (v := Lot.v ⟨rm, 3, si, lv, co, dy⟩) (results_lot1 rfl _ _ (w.heap.size + 2) ⟨rm, 3, si, lv, co, dy⟩ rfl (by simp [go_sem, zeroLot]) (by simp [go_sem, zeroLot]) (by simp [go_sem, zeroLot]) (by simp [go_sem, zeroLot]) (by simp [go_sem, zeroLot]) (by simp [go_sem, zeroLot])) rfl ?_
          exact Ret.of (by rw [rLotP]; simp [HSK.out, hk3]) (by repeat (first | exact B_refl | exact Below.refl _ _ | assumption | with_reducible refine B_alloc ?_ _ | with_reducible refine B_ext ?_ _ | with_reducible refine B_drew ?_ | with_reducible refine B_drewN ?_ _ | with_reducible refine B_set ?_ (by simp; omega) _))
  · go_wp2_with fail
    refine bodyPost_ret (v := Lot.v ⟨rm, 0, ⟨#[]⟩, 0, 0, dy⟩) (results_lot1 rfl _ _ (w.heap.size + 2) ⟨rm, 0, ⟨#[]⟩, 0, 0, dy⟩ rfl (by simp [go_sem, zeroLot]) (by simp [go_sem, zeroLot]) (by simp [go_sem, zeroLot]) (by simp [go_sem, zeroLot]) (by simp [go_sem, zeroLot]) (by simp [go_sem, zeroLot])) rfl ?_
    exact Ret.of (by simp [rLotP]) (by repeat (first | exact B_refl | exact Below.refl _ _ | assumption | with_reducible refine B_alloc ?_ _ | with_reducible refine B_ext ?_ _ | with_reducible refine B_drew ?_ | with_reducible refine B_drewN ?_ _ | with_reducible refine B_set ?_ (by simp; omega) _))
  · go_wp2_with fail
    refine bodyPost_ret (v := Lot.v ⟨rm, 2, ⟨#[]⟩, 0, 0, dy⟩) (results_lot1 rfl _ _ (w.heap.size + 2) ⟨rm, 2, ⟨#[]⟩, 0, 0, dy⟩ rfl (by simp [go_sem, zeroLot]) (by simp [go_sem, zeroLot]) (by simp [go_sem, zeroLot]) (by simp [go_sem, zeroLot]) (by simp [go_sem, zeroLot]) (by simp [go_sem, zeroLot])) rfl ?_
    exact Ret.of (by simp [rLotP]) (by repeat (first | exact B_refl | exact Below.refl _ _ | assumption | with_reducible refine B_alloc ?_ _ | with_reducible refine B_ext ?_ _ | with_reducible refine B_drew ?_ | with_reducible refine B_drewN ?_ _ | with_reducible refine B_set ?_ (by simp; omega) _))
  · obtain ⟨t, hf⟩ := hlow rfl
    obtain ⟨i, hik, hgk⟩ := lotIdx_some hf
    have hfi : rFindR rm ls = (i : Int) := by rw [rFindR, hik]
    obtain ⟨hlt, hse⟩ := List.getElem?_eq_some_iff.1 hgk
    have hln := hl.hn
    have hl1 := hl.l1
    subst hln
    obtain ⟨b, off, rfl, hb, hcl⟩ := hl.sl.at hlt
    rw [hse] at hcl
    have x0 : w.cell? ⟨b, off + i * 6, none⟩ = some (.string t.remain) := hcl 0 _ rfl
    have x1 : w.cell? ⟨b, off + i * 6 + 1, none⟩ = some (.int .i64 t.state) := hcl 1 _ rfl
    have x2 : w.cell? ⟨b, off + i * 6 + 2, none⟩ = some (.string t.site) := hcl 2 _ rfl
    have x3 : w.cell? ⟨b, off + i * 6 + 3, none⟩ = some (.int .i64 t.level) := hcl 3 _ rfl
    have x4 : w.cell? ⟨b, off + i * 6 + 4, none⟩ = some (.int .i64 t.container) := hcl 4 _ rfl
    have x5 : w.cell? ⟨b, off + i * 6 + 5, none⟩ = some (.int .i64 t.since) := hcl 5 _ rfl
    have hlt2 : (i : Int) < (ls.length : Int) := by omega
    have hi0 : (0 : Int) ≤ (i : Int) := by omega
    have HF := Lib.hid hf
    clear hf hik hgk hse hcl hput hlow
    go_wp2_with (go_at_call 118; refine (rFind_any ls _ _ _ _ _ (hl.keep (m := w.heap.size) (by repeat (first | exact B_refl | exact Below.refl _ _ | assumption | with_reducible refine B_alloc ?_ _ | with_reducible refine B_ext ?_ _ | with_reducible refine B_drew ?_ | with_reducible refine B_drewN ?_ _ | with_reducible refine B_set ?_ (by simp; omega) _)))).mono ?_; rintro e wq ⟨rfl, zt, rfl⟩; rw [hfi])
    go_region
    go_wp2_with fail
    refine bodyPost_ret (v := Lot.v ⟨rm, 1, t.site, lv, t.container, dy⟩) (results_lot1 rfl _ _ (w.heap.size + 2) ⟨rm, 1, t.site, lv, t.container, dy⟩ rfl (by simp [go_sem, zeroLot]) (by simp [go_sem, zeroLot]) (by simp [go_sem, zeroLot]) (by simp [go_sem, zeroLot]) (by simp [go_sem, zeroLot]) (by simp [go_sem, zeroLot])) rfl ?_
    exact Ret.of (by simp [rLotP, HF.out]) (by repeat (first | exact B_refl | exact Below.refl _ _ | assumption | with_reducible refine B_alloc ?_ _ | with_reducible refine B_ext ?_ _ | with_reducible refine B_drew ?_ | with_reducible refine B_drewN ?_ _ | with_reducible refine B_set ?_ (by simp; omega) _))
end Go.Proofs.YtpohkolapgofdaaGreatDoor
namespace Go.Proofs.YtpohkolapgofdaaGreatDoor
open Go.RowKit
attribute [local go_sem] World.cell?_alloc_mark ext_size ext_cell ext_frozen lt_add_r lt_add_r2 lt_add_r3 lt_add_r4 lt_add_r5 lt_add_r6 lt_add_r7 lt_add_r8
attribute [local go_sem] ext_setCell alloc_setCell_lt

theorem elLot : ElTy Tryz.prog 103 107 6 64 := elTy_of (z := .agg #[.string ⟨#[]⟩, .int .i64 0, .string ⟨#[]⟩, .int .i64 0, .int .i64 0, .int .i64 0]) (by kernel_rfl) (by kernel_rfl) rfl (by decide)
/-- A slice of lots of the call's own comes back. -/
def LotsPost (w : World) (ls : List Lot) (e : Ending) (w' : World) : Prop :=
  ∃ v, e = .returned v ∧ w'.ownsRow w.heap.size 107 6 v ls.length (ls.flatMap Lot.cells) ∧ ∃ z, w' = w.ext z
theorem Sl.drop {α : Type} {w : World} {size : Nat} {cells : α → List Value} {b off : Nat} {xs : List α} (h : Sl w size cells (some ⟨b, off, none⟩) xs) (k : Nat) : Sl w size cells (some ⟨b, off + k * size, none⟩) (xs.drop k) := fun hl => by
  obtain ⟨b', off', hA, hlt, hc⟩ := h (by simp at hl; omega)
  simp only [Option.some.injEq, Addr.mk.injEq, and_true] at hA
  obtain ⟨rfl, rfl⟩ := hA
  refine ⟨b, off + k * size, rfl, hlt, fun j x hx i u hu => ?_⟩
  rw [List.getElem?_drop] at hx
  have := hc _ _ hx i u hu
  rw [show off + k * size + j * size + i = off + (k + j) * size + i by rw [Nat.add_mul]; omega]
  exact this
theorem with_step {l : Lot} {ls : List Lot} {k : Nat} (hk : k < ls.length) (h : rWithP l ls = ls.take k ++ rWithP l (ls.drop k)) (hl : lessS ls[k].remain l.remain = true) : rWithP l ls = ls.take (k + 1) ++ rWithP l (ls.drop (k + 1)) := by
  rw [h, List.drop_eq_getElem_cons hk, rWithP, if_pos hl, List.take_succ_eq_append_getElem hk, List.append_assoc]
  rfl
theorem sl_lot {w : World} {q : Nat} {x : Lot} {t : TypeId} {fr : Nat × Nat} (h : w.heap[q]? = some (.cells #[.string x.remain, .int .i64 x.state, .string x.site, .int .i64 x.level, .int .i64 x.container, .int .i64 x.since] t fr)) : Sl w 6 Lot.cells (some ⟨q, 0, none⟩) [x] :=
  sl_block lot_len h (by simp [Lot.cells])

theorem own_ge {W : World} {base size n : Nat} {e : TypeId} {v : Value} {xs : List Value} (h : W.ownsRow base e size v n xs) : ∀ g, v.ownBlock = some g → base ≤ g := by
  rcases h.2 with ⟨rfl, _⟩ | ⟨g, cap, cur, rfl, hb, _⟩
  · intro g hg; cases hg
  · intro r hr
    have : g = r := by simpa [Value.ownBlock] using hr
    omega
theorem below_own {W0 W w1 : World} {n size k : Nat} {e : TypeId} {v : Value} {xs : List Value} (hB : Below n W0 W) (h : W.ownsRow n e size v k xs) (hg : W.grownBy w1 v.ownBlock) (hn : n ≤ W0.heap.size := by omega) : Below n W0 w1 :=
  hB.grown hg (Nat.le_trans hn hB.size) (fun j hj => own_ge h j hj)
theorem cell_same {n : Nat} {W0 A B : World} {b o : Nat} (hA : Below n W0 A) (hB : Below n W0 B) (hb : b < n) : B.cell? ⟨b, o, none⟩ = A.cell? ⟨b, o, none⟩ := (hB.cell (p := ⟨b, o, none⟩) hb).trans (hA.cell (p := ⟨b, o, none⟩) hb).symm
theorem with_eq {l x : Lot} {ls : List Lot} {k : Nat} (hk : k < ls.length) (hx : ls[k] = x) (h : rWithP l ls = ls.take k ++ rWithP l (ls.drop k)) (hl : lessS x.remain l.remain = false) (he : (x.remain.toList == l.remain.toList) = true) :
    rWithP l ls = (ls.take k ++ [l]) ++ ls.drop (k + 1) := by
  subst hx
  rw [h, List.drop_eq_getElem_cons hk, rWithP, if_neg (by rw [hl]; exact Bool.false_ne_true), if_pos he, List.append_assoc]
  rfl
theorem with_ne {l x : Lot} {ls : List Lot} {k : Nat} (hk : k < ls.length) (hx : ls[k] = x) (h : rWithP l ls = ls.take k ++ rWithP l (ls.drop k)) (hl : lessS x.remain l.remain = false) (he : (x.remain.toList == l.remain.toList) = false) :
    rWithP l ls = (ls.take k ++ [l]) ++ ls.drop k := by
  subst hx
  rw [h, List.append_assoc]
  congr 1
  conv => lhs; rw [List.drop_eq_getElem_cons hk, rWithP, if_neg (by rw [hl]; exact Bool.false_ne_true), if_neg (by rw [he]; exact Bool.false_ne_true)]
  rw [List.drop_eq_getElem_cons hk]
  rfl
theorem with_end {l : Lot} {ls : List Lot} {k : Nat} (hk : ls.length ≤ k) (h : rWithP l ls = ls.take k ++ rWithP l (ls.drop k)) : rWithP l ls = (ls.take k ++ [l]) ++ [] := by
  rw [h, List.drop_eq_nil_of_le hk, rWithP, List.append_nil]
theorem lots_done {w w2 : World} {n : Nat} {v : Value} {ls us bs : List Lot} {k : Nat} (hw : w.heap.size ≤ n) (h : w2.ownsRow n 107 6 v k (us.flatMap Lot.cells ++ bs.flatMap Lot.cells)) (hk : k = us.length + bs.length) (hls : ls = us ++ bs) (hB : Below w.heap.size w w2) : LotsPost w ls (.returned v) w2 := by
  subst hls hk
  refine ⟨v, rfl, ?_, ext_below hB⟩
  rw [List.length_append, List.flatMap_append]
  exact own_mono' h hw
set_option maxRecDepth 100000 in
set_option maxHeartbeats 2000000 in
theorem rWith_any (ls : List Lot) (L : Option Addr) (ln lc : Nat) (rm : ByteArray) (sta : Int) (si : ByteArray) (lv co sc : Int) (w : World) (hl : LotsIn w ls L ln) (hcap : ls.length ≤ lc) (hl2 : ls.length ≤ 10000) :
    Calls Tryz.prog 100 #[.slice L ln lc, .agg #[.string rm, .int .i64 sta, .string si, .int .i64 lv, .int .i64 co, .int .i64 sc]] w (LotsPost w (rWithP ⟨rm, sta, si, lv, co, sc⟩ ls)) := by
  have hln := hl.hn
  subst hln
  go_enter Tryz.func100, Tryz.ntmps100
  go_wp2_with fail
  obtain ⟨W0, hW0⟩ : ∃ W0, W0 = w.alloc (.cells #[.string rm, .int .i64 sta, .string si, .int .i64 lv, .int .i64 co, .int .i64 sc] 107) := ⟨_, rfl⟩
  rw [← hW0]
  have hB : Below w.heap.size w W0 := by rw [hW0]; repeat (first | exact B_refl | exact Below.refl _ _ | assumption | with_reducible refine B_alloc ?_ _ | with_reducible refine B_ext ?_ _ | with_reducible refine B_drew ?_ | with_reducible refine B_drewN ?_ _ | with_reducible refine B_set ?_ (by simp; omega) _)
  have hblk : W0.heap[w.heap.size]? = some (.cells #[.string rm, .int .i64 sta, .string si, .int .i64 lv, .int .i64 co, .int .i64 sc] 107) := by rw [hW0]; exact heap_alloc_new _ _
  have hz : W0.heap.size = w.heap.size + 1 := by rw [hW0]; simp
  generalize hn₀ : w.heap.size = n₀ at *
  clear hW0
  go_loopw [5, 6] (fun v i wr => ∃ k : Nat, k ≤ ls.length ∧ i = .int .i64 k ∧ (rWithP ⟨rm, sta, si, lv, co, sc⟩ ls = ls.take k ++ rWithP ⟨rm, sta, si, lv, co, sc⟩ (ls.drop k)) ∧ wr.ownsRow (n₀ + 1) 107 6 v k ((ls.take k).flatMap Lot.cells) ∧ Below (n₀ + 1) W0 wr) (fun _ i _ => ls.length - (intOf i).toNat)
  case atStart => exact ⟨0, Nat.zero_le _, rfl, rfl, World.ownsRow_nil _ _ _ _, Below.refl _ _⟩
  case round =>
    obtain ⟨k, hk, rfl, hf, hown, hBr⟩ := hrel
    have g0 : wr.cell? ⟨n₀, 0, none⟩ = some (.string rm) := by have := (hBr.block n₀ (by omega)).trans hblk; simp [World.cell?, this]
    have g1 : wr.cell? ⟨n₀, 1, none⟩ = some (.int .i64 sta) := by have := (hBr.block n₀ (by omega)).trans hblk; simp [World.cell?, this]
    have g2 : wr.cell? ⟨n₀, 2, none⟩ = some (.string si) := by have := (hBr.block n₀ (by omega)).trans hblk; simp [World.cell?, this]
    have g3 : wr.cell? ⟨n₀, 3, none⟩ = some (.int .i64 lv) := by have := (hBr.block n₀ (by omega)).trans hblk; simp [World.cell?, this]
    have g4 : wr.cell? ⟨n₀, 4, none⟩ = some (.int .i64 co) := by have := (hBr.block n₀ (by omega)).trans hblk; simp [World.cell?, this]
    have g5 : wr.cell? ⟨n₀, 5, none⟩ = some (.int .i64 sc) := by have := (hBr.block n₀ (by omega)).trans hblk; simp [World.cell?, this]
    have hwr : n₀ + 1 ≤ wr.heap.size := by have := hBr.size; omega
    by_cases hlt : k < ls.length
    · obtain ⟨b, off, rfl, hb, hc0⟩ := (hl.sl).at hlt
      have hc : ∀ j u, (ls[k].cells)[j]? = some u → wr.cell? ⟨b, off + k * 6 + j, none⟩ = some u := fun j u hu => by
        have h1 := (hB.trans (hBr.mono (by omega))).cell (p := ⟨b, off + k * 6 + j, none⟩) (by rw [← hn₀]; exact hb)
        exact h1.trans (hc0 j u hu)
      have x0 : wr.cell? ⟨b, off + k * 6, none⟩ = some (.string ls[k].remain) := hc 0 _ rfl
      have x1 : wr.cell? ⟨b, off + k * 6 + 1, none⟩ = some (.int .i64 ls[k].state) := hc 1 _ rfl
      have x2 : wr.cell? ⟨b, off + k * 6 + 2, none⟩ = some (.string ls[k].site) := hc 2 _ rfl
      have x3 : wr.cell? ⟨b, off + k * 6 + 3, none⟩ = some (.int .i64 ls[k].level) := hc 3 _ rfl
      have x4 : wr.cell? ⟨b, off + k * 6 + 4, none⟩ = some (.int .i64 ls[k].container) := hc 4 _ rfl
      have x5 : wr.cell? ⟨b, off + k * 6 + 5, none⟩ = some (.int .i64 ls[k].since) := hc 5 _ rfl
      have hlt2 : (k : Int) < (ls.length : Int) := by omega
      have hk0 : (0 : Int) ≤ (k : Int) := by omega
      have hbr : b < wr.heap.size := by omega
      have hnr : n₀ < wr.heap.size := by omega
      have HW := Lib.hid (show lessS ls[k].remain rm = true → _ from with_step hlt hf)
      have HT := Lib.hid (List.take_succ_eq_append_getElem hlt)
      clear hc hc0
      cases hls : Op.bytesLess ls[k].remain.toList rm.toList
      · have HF := Lib.hid hf
        clear hf
        generalize hx : ls[k] = x at *
        obtain ⟨a0, a1, a2, a3, a4, a5⟩ := x
        dsimp only at x0 x1 x2 x3 x4 x5 hls HW HT
        go_wp2_with fail
        (refine wp_region_ext_lit (by kernel_rfl) (by kernel_rfl) ?_
         repeat (first | go_big_quiet_skip | (go_big_quiet_want; go_big_quiet_op; first | go_big_quiet_on | (apply Exists.intro; refine ⟨fun _ => ?_, ?_⟩; (fail); go_big_quiet_on)))
         refine wpQuiet_nil ?_
         rintro _ ⟨zq, rfl⟩)
        go_wp2_with (at_builtin; refine wpList_append_sl rfl _ _ rfl elLot lot_len lot_one (base := n₀ + 1) (n := k) (m := 1) (v := u5) rfl ((own_ext hown _).alloc _) rfl (ys := [⟨rm, sta, si, lv, co, sc⟩]) rfl (sl_lot (t := 107) (fr := (0, 0)) (x := ⟨rm, sta, si, lv, co, sc⟩) (G_new _ _ _ (by simp [ext_size]))) (by simp [maxLen]; omega) (by omega) (by simp [ext_size]; omega) ?_; intro v' w1 h1 h2 h3)
        have hown2 : w1.ownsRow (n₀ + 1) 107 6 v' (k + 1) ((ls.take k ++ [(⟨rm, sta, si, lv, co, sc⟩ : Lot)]).flatMap Lot.cells) := by simpa using h1
        have hB2 : Below (n₀ + 1) W0 w1 := below_own (B_alloc (B_ext hBr _) _) ((own_ext hown _).alloc _) h2
        have y0 := (cell_same (o := off + k * 6) hBr hB2 (b := b) (by omega)).trans x0
        have p0 := (cell_same (o := 0) hBr hB2 (b := n₀) (by omega)).trans g0
        have hbr1 : b < w1.heap.size := by have := hB2.size; omega
        have hnr1 : n₀ < w1.heap.size := by have := hB2.size; omega
        clear h1 h2 h3 x0 x1 x2 x3 x4 x5 g0 g1 g2 g3 g4 g5 hbr hnr hown
        cases heq : (a0.toList == rm.toList)
        · go_wp2_with fail
          (refine wp_region_ext_lit (by kernel_rfl) (by kernel_rfl) ?_
           repeat (first | go_big_quiet_skip | (go_big_quiet_want; go_big_quiet_op; first | go_big_quiet_on | (apply Exists.intro; refine ⟨fun _ => ?_, ?_⟩; (fail); go_big_quiet_on)))
           refine wpQuiet_nil ?_
           rintro _ ⟨zq, rfl⟩)
          go_wp2_with (at_builtin; refine wpList_append_sl rfl _ _ rfl elLot lot_len lot_one (base := n₀ + 1) (n := k + 1) (v := v') rfl (own_ext hown2 _) rfl (ys := ls.drop k) (by simp) (((hl.sl.keep (n := n₀) (by exact B_ext (hB.trans (hB2.mono (by omega))) _)).drop k)) (by simp [maxLen]; omega) (by omega) (by have := hB2.size; simp [ext_size]; omega) ?_; intro v2 w2 h1 h2 h3)
          have hB3 : Below (n₀ + 1) W0 w2 := below_own (B_ext hB2 _) (own_ext hown2 _) h2
          clear h2 h3
          go_wp2_with fail
          go_ret
          first
            | exact lots_done (by omega) h1 (by simp; omega) (with_ne hlt hx HF.out hls heq) (by rw [hn₀]; exact hB.trans (hB3.mono (by omega)))
            | exact lots_done (by omega) h1 (by have := HKL.out; simp; omega) (with_ne hlt hx HF.out hls heq) (by rw [hn₀]; exact hB.trans (hB3.mono (by omega)))
        · by_cases hkc : k + 1 = lc
          · subst hkc
            have HKL := Lib.hid (show ls.length = k + 1 by omega)
            clear hcap
            go_wp2_with fail
            (refine wp_region_ext_lit (by kernel_rfl) (by kernel_rfl) ?_
             repeat (first | go_big_quiet_skip | (go_big_quiet_want; go_big_quiet_op; first | go_big_quiet_on | (apply Exists.intro; refine ⟨fun _ => ?_, ?_⟩; (fail); go_big_quiet_on)))
             refine wpQuiet_nil ?_
             rintro _ ⟨zq, rfl⟩)
            go_wp2_with (at_builtin; refine wpList_append_sl rfl _ _ rfl elLot lot_len lot_one (base := n₀ + 1) (n := k + 1) (v := v') rfl (own_ext hown2 _) rfl (ys := ([] : List Lot)) (by have := HKL.out; simp; omega) (Sl.nil) (by simp [maxLen]; omega) (by omega) (by have := hB2.size; simp [ext_size]; omega) ?_; intro v2 w2 h1 h2 h3)
            have hB3 : Below (n₀ + 1) W0 w2 := below_own (B_ext hB2 _) (own_ext hown2 _) h2
            clear h2 h3
            go_wp2_with fail
            go_ret
            first
              | exact lots_done (by omega) h1 (by simp; omega) (by have := HKL.out; rw [with_eq hlt hx HF.out hls heq, List.drop_eq_nil_of_le (by omega)]) (by rw [hn₀]; exact hB.trans (hB3.mono (by omega)))
              | exact lots_done (by omega) h1 (by have := HKL.out; simp; omega) (by have := HKL.out; rw [with_eq hlt hx HF.out hls heq, List.drop_eq_nil_of_le (by omega)]) (by rw [hn₀]; exact hB.trans (hB3.mono (by omega)))
          · go_wp2_with fail
            (refine wp_region_ext_lit (by kernel_rfl) (by kernel_rfl) ?_
             repeat (first | go_big_quiet_skip | (go_big_quiet_want; go_big_quiet_op; first | go_big_quiet_on | (apply Exists.intro; refine ⟨fun _ => ?_, ?_⟩; (fail); go_big_quiet_on)))
             refine wpQuiet_nil ?_
             rintro _ ⟨zq, rfl⟩)
            go_wp2_with (at_builtin; refine wpList_append_sl rfl _ _ rfl elLot lot_len lot_one (base := n₀ + 1) (n := k + 1) (v := v') rfl (own_ext hown2 _) rfl (ys := ls.drop (k + 1)) (by simp) (((hl.sl.keep (n := n₀) (by exact B_ext (hB.trans (hB2.mono (by omega))) _)).drop (k + 1))) (by simp [maxLen]; omega) (by omega) (by have := hB2.size; simp [ext_size]; omega) ?_; intro v2 w2 h1 h2 h3)
            have hB3 : Below (n₀ + 1) W0 w2 := below_own (B_ext hB2 _) (own_ext hown2 _) h2
            clear h2 h3
            go_wp2_with fail
            go_ret
            first
              | exact lots_done (by omega) h1 (by simp; omega) (with_eq hlt hx HF.out hls heq) (by rw [hn₀]; exact hB.trans (hB3.mono (by omega)))
              | exact lots_done (by omega) h1 (by have := HKL.out; simp; omega) (with_eq hlt hx HF.out hls heq) (by rw [hn₀]; exact hB.trans (hB3.mono (by omega)))
      · have HF := Lib.hid hf
        clear hf
        generalize hx : ls[k] = x at *
        obtain ⟨a0, a1, a2, a3, a4, a5⟩ := x
        dsimp only at x0 x1 x2 x3 x4 x5 hls HW HT
        go_wp2_with fail
        (refine wp_region_ext_lit (by kernel_rfl) (by kernel_rfl) ?_
         repeat (first | go_big_quiet_skip | (go_big_quiet_want; go_big_quiet_op; first | go_big_quiet_on | (apply Exists.intro; refine ⟨fun _ => ?_, ?_⟩; (fail); go_big_quiet_on)))
         refine wpQuiet_nil ?_
         rintro _ ⟨zq, rfl⟩)
        go_wp2_with (at_builtin; refine wpList_append_sl rfl _ _ rfl elLot lot_len lot_one (base := n₀ + 1) (n := k) (m := 1) (v := u5) rfl ((own_ext hown _).alloc _) rfl (ys := [⟨a0, a1, a2, a3, a4, a5⟩]) rfl (sl_lot (t := 107) (fr := (0, 0)) (x := ⟨a0, a1, a2, a3, a4, a5⟩) (G_new _ _ _ (by simp [ext_size]))) (by simp [maxLen]; omega) (by omega) (by simp [ext_size]; omega) ?_; intro v' w1 h1 h2 h3)
        have hown2 : w1.ownsRow (n₀ + 1) 107 6 v' (k + 1) ((ls.take (k + 1)).flatMap Lot.cells) := by rw [HT.out]; simpa using h1
        have hB2 : Below (n₀ + 1) W0 w1 := below_own (B_alloc (B_ext hBr _) _) ((own_ext hown _).alloc _) h2
        clear h1 h2 h3
        go_wp2_with fail
        go_roundw
        case rel => exact ⟨k + 1, by omega, by go_num, HW.out hls, hown2, hB2⟩
        case measure => simp [intOf]; omega
    · have hnl : decide ((k : Int) < (ls.length : Int)) = false := by simp; omega
      have HF := Lib.hid hf
      have hkl : k = ls.length := by omega
      have hnr : n₀ < wr.heap.size := by omega
      clear hf
      go_wp2_with fail
      (refine wp_region_ext_lit (by kernel_rfl) (by kernel_rfl) ?_
       repeat (first | go_big_quiet_skip | (go_big_quiet_want; go_big_quiet_op; first | go_big_quiet_on | (apply Exists.intro; refine ⟨fun _ => ?_, ?_⟩; (fail); go_big_quiet_on)))
       refine wpQuiet_nil ?_
       rintro _ ⟨zq, rfl⟩)
      go_wp2_with (at_builtin; refine wpList_append_sl rfl _ _ rfl elLot lot_len lot_one (base := n₀ + 1) (n := k) (m := 1) (v := u5) rfl ((own_ext hown _).alloc _) rfl (ys := [⟨rm, sta, si, lv, co, sc⟩]) rfl (sl_lot (t := 107) (fr := (0, 0)) (x := ⟨rm, sta, si, lv, co, sc⟩) (G_new _ _ _ (by simp [ext_size]))) (by simp [maxLen]; omega) (by omega) (by simp [ext_size]; omega) ?_; intro v' w1 h1 h2 h3)
      have hown2 : w1.ownsRow (n₀ + 1) 107 6 v' (k + 1) ((ls.take k ++ [(⟨rm, sta, si, lv, co, sc⟩ : Lot)]).flatMap Lot.cells) := by simpa using h1
      have hB2 : Below (n₀ + 1) W0 w1 := below_own (B_alloc (B_ext hBr _) _) ((own_ext hown _).alloc _) h2
      clear h1 h2 h3 g0 g1 g2 g3 g4 g5 hnr hown
      cases L with
      | none =>
        have HL0 := Lib.hid (show ls.length = 0 by
          cases hq : ls with
          | nil => rfl
          | cons y ys => obtain ⟨b, off, h, _⟩ := hl.sl (by rw [hq]; simp); cases h)
        go_wp2_with fail
        (refine wp_region_ext_lit (by kernel_rfl) (by kernel_rfl) ?_
         repeat (first | go_big_quiet_skip | (go_big_quiet_want; go_big_quiet_op; first | go_big_quiet_on | (apply Exists.intro; refine ⟨fun _ => ?_, ?_⟩; (fail); go_big_quiet_on)))
         refine wpQuiet_nil ?_
         rintro _ ⟨zq, rfl⟩)
        go_wp2_with (at_builtin; refine wpList_append_sl rfl _ _ rfl elLot lot_len lot_one (base := n₀ + 1) (n := k + 1) (v := v') rfl (own_ext hown2 _) rfl (ys := ([] : List Lot)) (by simp) (Sl.nil) (by simp [maxLen]; omega) (by omega) (by have := hB2.size; simp [ext_size]; omega) ?_; intro v2 w2 h1 h2 h3)
        have hB3 : Below (n₀ + 1) W0 w2 := below_own (B_ext hB2 _) (own_ext hown2 _) h2
        clear h2 h3
        go_wp2_with fail
        go_ret
        first
          | exact lots_done (by omega) h1 (by simp; omega) (with_end (by omega) HF.out) (by rw [hn₀]; exact hB.trans (hB3.mono (by omega)))
          | exact lots_done (by omega) h1 (by have := HKL.out; simp; omega) (with_end (by omega) HF.out) (by rw [hn₀]; exact hB.trans (hB3.mono (by omega)))
      | some ad =>
        obtain ⟨b, off, pth⟩ := ad
        by_cases hkc : ls.length = lc
        · subst hkc
          go_wp2_with fail
          (refine wp_region_ext_lit (by kernel_rfl) (by kernel_rfl) ?_
           repeat (first | go_big_quiet_skip | (go_big_quiet_want; go_big_quiet_op; first | go_big_quiet_on | (apply Exists.intro; refine ⟨fun _ => ?_, ?_⟩; (fail); go_big_quiet_on)))
           refine wpQuiet_nil ?_
           rintro _ ⟨zq, rfl⟩)
          go_wp2_with (at_builtin; refine wpList_append_sl rfl _ _ rfl elLot lot_len lot_one (base := n₀ + 1) (n := k + 1) (v := v') rfl (own_ext hown2 _) rfl (ys := ([] : List Lot)) (by simp) (Sl.nil) (by simp [maxLen]; omega) (by omega) (by have := hB2.size; simp [ext_size]; omega) ?_; intro v2 w2 h1 h2 h3)
          have hB3 : Below (n₀ + 1) W0 w2 := below_own (B_ext hB2 _) (own_ext hown2 _) h2
          clear h2 h3
          go_wp2_with fail
          go_ret
          first
            | exact lots_done (by omega) h1 (by simp; omega) (with_end (by omega) HF.out) (by rw [hn₀]; exact hB.trans (hB3.mono (by omega)))
            | exact lots_done (by omega) h1 (by have := HKL.out; simp; omega) (with_end (by omega) HF.out) (by rw [hn₀]; exact hB.trans (hB3.mono (by omega)))
        · go_wp2_with fail
          (refine wp_region_ext_lit (by kernel_rfl) (by kernel_rfl) ?_
           repeat (first | go_big_quiet_skip | (go_big_quiet_want; go_big_quiet_op; first | go_big_quiet_on | (apply Exists.intro; refine ⟨fun _ => ?_, ?_⟩; (fail); go_big_quiet_on)))
           refine wpQuiet_nil ?_
           rintro _ ⟨zq, rfl⟩)
          go_wp2_with (at_builtin; refine wpList_append_sl rfl _ _ rfl elLot lot_len lot_one (base := n₀ + 1) (n := k + 1) (v := v') rfl (own_ext hown2 _) rfl (ys := ([] : List Lot)) (by simp) (Sl.nil) (by simp [maxLen]; omega) (by omega) (by have := hB2.size; simp [ext_size]; omega) ?_; intro v2 w2 h1 h2 h3)
          have hB3 : Below (n₀ + 1) W0 w2 := below_own (B_ext hB2 _) (own_ext hown2 _) h2
          clear h2 h3
          go_wp2_with fail
          go_ret
          first
            | exact lots_done (by omega) h1 (by simp; omega) (with_end (by omega) HF.out) (by rw [hn₀]; exact hB.trans (hB3.mono (by omega)))
            | exact lots_done (by omega) h1 (by have := HKL.out; simp; omega) (with_end (by omega) HF.out) (by rw [hn₀]; exact hB.trans (hB3.mono (by omega)))
end Go.Proofs.YtpohkolapgofdaaGreatDoor
