/- Walk of the reference: the lot that an accepted event gives to its remain. -/
import Derived.Test.YtpohkolapgofdaaGreatQ0
import Derived.Test.YtpohkolapgofdaaGreatB3
import Derived.Test.YtpohkolapgofdaaGreatX3
namespace Go.Proofs.YtpohkolapgofdaaGreat
open Go.RowKit
attribute [local go_sem] World.cell?_alloc_mark ext_size ext_cell ext_frozen lt_add_r lt_add_r2 lt_add_r3 lt_add_r4 lt_add_r5 lt_add_r6 lt_add_r7 lt_add_r8
attribute [local go_sem] ext_setCell alloc_setCell_lt

theorem results_lot1 {fn : Func} {p : Tmp} (h : fn.results = #[.cell p 40]) (tmps : Array Value) (w : World) (B : Nat) (lt : Lot) (hp : tmps.getD p undef = .pointer (some ⟨B, 0, none⟩))
    (h0 : w.cell? ⟨B, 0, none⟩ = some (.string lt.remain)) (h1 : w.cell? ⟨B, 1, none⟩ = some (.int .i64 lt.state)) (h2 : w.cell? ⟨B, 2, none⟩ = some (.string lt.site)) (h3 : w.cell? ⟨B, 3, none⟩ = some (.int .i64 lt.level))
    (h4 : w.cell? ⟨B, 4, none⟩ = some (.int .i64 lt.container)) (h5 : w.cell? ⟨B, 5, none⟩ = some (.int .i64 lt.since)) : (results fn tmps).run Tryz.prog w = .ok lt.v w := by
  rw [results_cell1 h, hp]
  unfold Lot.v
  go_simp

set_option maxRecDepth 100000 in
set_option maxHeartbeats 2000000 in
theorem rLotOf_any (ss : List Site) (rs : List Rest) (A R : Option Addr) (n c rn rc : Nat) (c0 c1 c2 : Int) (ls : List Lot) (L : Option Addr) (ln lc : Nat) (dy kd : Int) (si : ByteArray) (lv : Int) (rm : ByteArray) (co : Int) (o : Bool) (w : World) (hy : YardIn w ss rs A n c R rn rc) (hl : LotsIn w ls L ln)
    (hk0 : 0 ≤ kd) (hk4 : kd ≤ 4) (hput : kd = 0 ∨ kd = 2 → ∃ s, findSite si ss = some s) (hlow : kd = 3 → ∃ t, findLot rm ls = some t) :
    Calls Tryz.prog 93 #[.agg #[.slice A n c, .slice R rn rc, .int .i64 c0, .int .i64 c1, .int .i64 c2], .slice L ln lc, .agg #[.int .i64 dy, .int .i64 kd, .string si, .int .i64 lv, .string rm, .int .i64 co, .bool o]] w (Ret w (rLotP ss ls ⟨dy, kd, si, lv, rm, co, o⟩).v) := by
  go_enter Tryz.func93, Tryz.ntmps93
  have hkd : kd = 0 ∨ kd = 2 ∨ kd = 1 ∨ kd = 4 ∨ kd = 3 := by omega
  clear hk0 hk4
  rcases hkd with rfl | rfl | rfl | rfl | rfl
  ·
        obtain ⟨s, hfs⟩ := hput (by first | exact .inl rfl | exact .inr rfl)
        obtain ⟨i, hik, hgk⟩ := siteIdx_some hfs
        have hsi : rSiteR si ss = (i : Int) := by rw [rSiteR, hik]
        obtain ⟨hlt, hse⟩ := List.getElem?_eq_some_iff.1 hgk
        have hyn := hy.hn
        have hy1 := hy.l1
        subst hyn
        obtain ⟨b, off, rfl, hb, hcl⟩ := hy.sl.at hlt
        rw [hse] at hcl
        have x1 : w.cell? ⟨b, off + i * 6 + 1, none⟩ = some (.int .i64 s.kind) := hcl 1 _ rfl
        have hlt2 : (i : Int) < (ss.length : Int) := by omega
        have hi0 : (0 : Int) ≤ (i : Int) := by omega
        have hsk : siteKind' ss si = s.kind := by rw [siteKind', hfs]
        have HSK := Lib.hid hsk
        clear hik hgk hse hcl hfs hsk hput hlow
        go_wp2_with fail
        go_region
        go_wp2_with fail
        (refine wp_region_ext_lit (by kernel_rfl) (by kernel_rfl) ?_
         repeat (first | go_big_quiet_skip | (go_big_quiet_want; go_big_quiet_op; first | go_big_quiet_on | (apply Exists.intro; refine ⟨fun _ => ?_, ?_⟩; (go_at_call 15; refine quietx (v := .int .i64 (i : Int)) ?_; rw [← hsi]; exact rSite_any ss rs _ _ _ _ _ _ _ _ _ _ _ (hy.keep (m := w.heap.size) (by repeat (first | exact B_refl | exact Below.refl _ _ | assumption | with_reducible refine B_alloc ?_ _ | with_reducible refine B_ext ?_ _ | with_reducible refine B_drew ?_ | with_reducible refine B_drewN ?_ _ | with_reducible refine B_set ?_ (by simp; omega) _)))); go_big_quiet_on)))
         refine wpQuiet_nil ?_
         rintro _ ⟨zq, rfl⟩)
        cases hk3 : (s.kind == 3)
        · go_wp2_with fail
          refine bodyPost_ret (v := Lot.v ⟨rm, 1, si, lv, co, dy⟩) (results_lot1 rfl _ _ (w.heap.size + 2) ⟨rm, 1, si, lv, co, dy⟩ rfl (by simp [go_sem, zeroLot]) (by simp [go_sem, zeroLot]) (by simp [go_sem, zeroLot]) (by simp [go_sem, zeroLot]) (by simp [go_sem, zeroLot]) (by simp [go_sem, zeroLot])) rfl ?_
          exact Ret.of (by rw [rLotP]; simp [HSK.out, hk3]) (by repeat (first | exact B_refl | exact Below.refl _ _ | assumption | with_reducible refine B_alloc ?_ _ | with_reducible refine B_ext ?_ _ | with_reducible refine B_drew ?_ | with_reducible refine B_drewN ?_ _ | with_reducible refine B_set ?_ (by simp; omega) _))
        · go_wp2_with fail
          refine bodyPost_ret (v := Lot.v ⟨rm, 3, si, lv, co, dy⟩) (results_lot1 rfl _ _ (w.heap.size + 2) ⟨rm, 3, si, lv, co, dy⟩ rfl (by simp [go_sem, zeroLot]) (by simp [go_sem, zeroLot]) (by simp [go_sem, zeroLot]) (by simp [go_sem, zeroLot]) (by simp [go_sem, zeroLot]) (by simp [go_sem, zeroLot])) rfl ?_
          exact Ret.of (by rw [rLotP]; simp [HSK.out, hk3]) (by repeat (first | exact B_refl | exact Below.refl _ _ | assumption | with_reducible refine B_alloc ?_ _ | with_reducible refine B_ext ?_ _ | with_reducible refine B_drew ?_ | with_reducible refine B_drewN ?_ _ | with_reducible refine B_set ?_ (by simp; omega) _))
  ·
        obtain ⟨s, hfs⟩ := hput (by first | exact .inl rfl | exact .inr rfl)
        obtain ⟨i, hik, hgk⟩ := siteIdx_some hfs
        have hsi : rSiteR si ss = (i : Int) := by rw [rSiteR, hik]
        obtain ⟨hlt, hse⟩ := List.getElem?_eq_some_iff.1 hgk
        have hyn := hy.hn
        have hy1 := hy.l1
        subst hyn
        obtain ⟨b, off, rfl, hb, hcl⟩ := hy.sl.at hlt
        rw [hse] at hcl
        have x1 : w.cell? ⟨b, off + i * 6 + 1, none⟩ = some (.int .i64 s.kind) := hcl 1 _ rfl
        have hlt2 : (i : Int) < (ss.length : Int) := by omega
        have hi0 : (0 : Int) ≤ (i : Int) := by omega
        have hsk : siteKind' ss si = s.kind := by rw [siteKind', hfs]
        have HSK := Lib.hid hsk
        clear hik hgk hse hcl hfs hsk hput hlow
        go_wp2_with fail
        go_region
        go_wp2_with fail
        (refine wp_region_ext_lit (by kernel_rfl) (by kernel_rfl) ?_
         repeat (first | go_big_quiet_skip | (go_big_quiet_want; go_big_quiet_op; first | go_big_quiet_on | (apply Exists.intro; refine ⟨fun _ => ?_, ?_⟩; (go_at_call 15; refine quietx (v := .int .i64 (i : Int)) ?_; rw [← hsi]; exact rSite_any ss rs _ _ _ _ _ _ _ _ _ _ _ (hy.keep (m := w.heap.size) (by repeat (first | exact B_refl | exact Below.refl _ _ | assumption | with_reducible refine B_alloc ?_ _ | with_reducible refine B_ext ?_ _ | with_reducible refine B_drew ?_ | with_reducible refine B_drewN ?_ _ | with_reducible refine B_set ?_ (by simp; omega) _)))); go_big_quiet_on)))
         refine wpQuiet_nil ?_
         rintro _ ⟨zq, rfl⟩)
        cases hk3 : (s.kind == 3)
        · go_wp2_with fail
          refine bodyPost_ret (v := Lot.v ⟨rm, 1, si, lv, co, dy⟩) (results_lot1 rfl _ _ (w.heap.size + 2) ⟨rm, 1, si, lv, co, dy⟩ rfl (by simp [go_sem, zeroLot]) (by simp [go_sem, zeroLot]) (by simp [go_sem, zeroLot]) (by simp [go_sem, zeroLot]) (by simp [go_sem, zeroLot]) (by simp [go_sem, zeroLot])) rfl ?_
          exact Ret.of (by rw [rLotP]; simp [HSK.out, hk3]) (by repeat (first | exact B_refl | exact Below.refl _ _ | assumption | with_reducible refine B_alloc ?_ _ | with_reducible refine B_ext ?_ _ | with_reducible refine B_drew ?_ | with_reducible refine B_drewN ?_ _ | with_reducible refine B_set ?_ (by simp; omega) _))
        · go_wp2_with fail
          refine bodyPost_ret (v := Lot.v ⟨rm, 3, si, lv, co, dy⟩) (results_lot1 rfl _ _ (w.heap.size + 2) ⟨rm, 3, si, lv, co, dy⟩ rfl (by simp [go_sem, zeroLot]) (by simp [go_sem, zeroLot]) (by simp [go_sem, zeroLot]) (by simp [go_sem, zeroLot]) (by simp [go_sem, zeroLot]) (by simp [go_sem, zeroLot])) rfl ?_
          exact Ret.of (by rw [rLotP]; simp [HSK.out, hk3]) (by repeat (first | exact B_refl | exact Below.refl _ _ | assumption | with_reducible refine B_alloc ?_ _ | with_reducible refine B_ext ?_ _ | with_reducible refine B_drew ?_ | with_reducible refine B_drewN ?_ _ | with_reducible refine B_set ?_ (by simp; omega) _))
  · go_wp2_with fail
    refine bodyPost_ret (v := Lot.v ⟨rm, 0, ⟨#[]⟩, 0, 0, dy⟩) (results_lot1 rfl _ _ (w.heap.size + 2) ⟨rm, 0, ⟨#[]⟩, 0, 0, dy⟩ rfl (by simp [go_sem, zeroLot]) (by simp [go_sem, zeroLot]) (by simp [go_sem, zeroLot]) (by simp [go_sem, zeroLot]) (by simp [go_sem, zeroLot]) (by simp [go_sem, zeroLot])) rfl ?_
    exact Ret.of (by simp [rLotP]) (by repeat (first | exact B_refl | exact Below.refl _ _ | assumption | with_reducible refine B_alloc ?_ _ | with_reducible refine B_ext ?_ _ | with_reducible refine B_drew ?_ | with_reducible refine B_drewN ?_ _ | with_reducible refine B_set ?_ (by simp; omega) _))
  · go_wp2_with fail
    refine bodyPost_ret (v := Lot.v ⟨rm, 2, ⟨#[]⟩, 0, 0, dy⟩) (results_lot1 rfl _ _ (w.heap.size + 2) ⟨rm, 2, ⟨#[]⟩, 0, 0, dy⟩ rfl (by simp [go_sem, zeroLot]) (by simp [go_sem, zeroLot]) (by simp [go_sem, zeroLot]) (by simp [go_sem, zeroLot]) (by simp [go_sem, zeroLot]) (by simp [go_sem, zeroLot])) rfl ?_
    exact Ret.of (by simp [rLotP]) (by repeat (first | exact B_refl | exact Below.refl _ _ | assumption | with_reducible refine B_alloc ?_ _ | with_reducible refine B_ext ?_ _ | with_reducible refine B_drew ?_ | with_reducible refine B_drewN ?_ _ | with_reducible refine B_set ?_ (by simp; omega) _))
  · obtain ⟨t, hf⟩ := hlow rfl
    obtain ⟨i, hik, hgk⟩ := lotIdx_some hf
    have hfi : rFindR rm ls = (i : Int) := by rw [rFindR, hik]
    obtain ⟨hlt, hse⟩ := List.getElem?_eq_some_iff.1 hgk
    have hln := hl.hn
    have hl1 := hl.l1
    subst hln
    obtain ⟨b, off, rfl, hb, hcl⟩ := hl.sl.at hlt
    rw [hse] at hcl
    have x0 : w.cell? ⟨b, off + i * 6, none⟩ = some (.string t.remain) := hcl 0 _ rfl
    have x1 : w.cell? ⟨b, off + i * 6 + 1, none⟩ = some (.int .i64 t.state) := hcl 1 _ rfl
    have x2 : w.cell? ⟨b, off + i * 6 + 2, none⟩ = some (.string t.site) := hcl 2 _ rfl
    have x3 : w.cell? ⟨b, off + i * 6 + 3, none⟩ = some (.int .i64 t.level) := hcl 3 _ rfl
    have x4 : w.cell? ⟨b, off + i * 6 + 4, none⟩ = some (.int .i64 t.container) := hcl 4 _ rfl
    have x5 : w.cell? ⟨b, off + i * 6 + 5, none⟩ = some (.int .i64 t.since) := hcl 5 _ rfl
    have hlt2 : (i : Int) < (ls.length : Int) := by omega
    have hi0 : (0 : Int) ≤ (i : Int) := by omega
    have HF := Lib.hid hf
    clear hf hik hgk hse hcl hput hlow
    go_wp2_with (go_at_call 44; refine (rFind_any ls _ _ _ _ _ (hl.keep (m := w.heap.size) (by repeat (first | exact B_refl | exact Below.refl _ _ | assumption | with_reducible refine B_alloc ?_ _ | with_reducible refine B_ext ?_ _ | with_reducible refine B_drew ?_ | with_reducible refine B_drewN ?_ _ | with_reducible refine B_set ?_ (by simp; omega) _)))).mono ?_; rintro e wq ⟨rfl, zt, rfl⟩; rw [hfi])
    go_region
    go_wp2_with fail
    refine bodyPost_ret (v := Lot.v ⟨rm, 1, t.site, lv, t.container, dy⟩) (results_lot1 rfl _ _ (w.heap.size + 2) ⟨rm, 1, t.site, lv, t.container, dy⟩ rfl (by simp [go_sem, zeroLot]) (by simp [go_sem, zeroLot]) (by simp [go_sem, zeroLot]) (by simp [go_sem, zeroLot]) (by simp [go_sem, zeroLot]) (by simp [go_sem, zeroLot])) rfl ?_
    exact Ret.of (by simp [rLotP, HF.out]) (by repeat (first | exact B_refl | exact Below.refl _ _ | assumption | with_reducible refine B_alloc ?_ _ | with_reducible refine B_ext ?_ _ | with_reducible refine B_drew ?_ | with_reducible refine B_drewN ?_ _ | with_reducible refine B_set ?_ (by simp; omega) _))
end Go.Proofs.YtpohkolapgofdaaGreat
