/- Walk of the reference: the error of a place. -/
import Derived.Test.YtmiobhlgpjjbgaaL4
namespace Go.Proofs.Ytmiobhlgpjjbgaa
open Go.RowKit
attribute [local go_sem] World.cell?_alloc_mark ext_size ext_cell ext_frozen lt_add_r lt_add_r2 lt_add_r3 lt_add_r4 lt_add_r5 lt_add_r6 lt_add_r7 lt_add_r8

set_option maxRecDepth 100000 in
set_option maxHeartbeats 2000000 in
theorem rPlace_any (ss : List Site) (rs : List Rest) (A R : Option Addr) (n c rn rc : Nat) (c0 c1 c2 : Int) (ls : List Lot) (L : Option Addr) (ln lc : Nat) (si : ByteArray) (lv co : Int) (w : World) (hy : YardIn w ss rs A n c R rn rc) (hl : LotsIn w ls L ln) (hr : ∀ s ∈ ss, s.room ≤ 100000) (h1 : 0 ≤ lv) (h2 : lv ≤ 100000) (hc1 : 0 ≤ co) (hc2 : co ≤ 2) :
    Calls Try.prog 72 #[.agg #[.slice A n c, .slice R rn rc, .int .i64 c0, .int .i64 c1, .int .i64 c2], .slice L ln lc, .string si, .int .i64 lv, .int .i64 co] w (Ret w (.int .i64 (rPlaceP c0 c1 c2 ss ls si lv co))) := by
  have hln := hy.hn
  have hl1 := hy.l1
  subst hln
  go_enter Try.func72, Try.ntmps72
  cases hf : findSite si ss with
  | none =>
    have hsi : rSiteR si ss = -1 := by rw [rSiteR, siteIdx_none hf]
    have hX : rPlaceP c0 c1 c2 ss ls si lv co = 6 := by rw [rPlaceP, hf]
    rw [hX]
    clear hX hf
    go_wp2_with (go_at_call 27; refine (rSite_any ss rs _ _ _ _ _ _ _ _ _ _ _ (hy.keep (m := w.heap.size) (by repeat (first | exact B_refl | exact Below.refl _ _ | assumption | with_reducible refine B_alloc ?_ _ | with_reducible refine B_ext ?_ _ | with_reducible refine B_drew ?_ | with_reducible refine B_drewN ?_ _ | with_reducible refine B_set ?_ (by simp; omega) _)))).mono ?_; rintro e wq ⟨rfl, zt, rfl⟩; rw [hsi])
    go_ret
    exact Ret.of rfl (by repeat (first | exact B_refl | exact Below.refl _ _ | assumption | with_reducible refine B_alloc ?_ _ | with_reducible refine B_ext ?_ _ | with_reducible refine B_drew ?_ | with_reducible refine B_drewN ?_ _ | with_reducible refine B_set ?_ (by simp; omega) _))
  | some s =>
    obtain ⟨i, hik, hgk⟩ := siteIdx_some hf
    have hsi : rSiteR si ss = (i : Int) := by rw [rSiteR, hik]
    obtain ⟨hlt, hse⟩ := List.getElem?_eq_some_iff.1 hgk
    have hroom := hr s (findSite_mem hf)
    obtain ⟨b, off, rfl, hb, hcl⟩ := hy.sl.at hlt
    rw [hse] at hcl
    have x0 : w.cell? ⟨b, off + i * 6, none⟩ = some (.string s.name) := hcl 0 _ rfl
    have x1 : w.cell? ⟨b, off + i * 6 + 1, none⟩ = some (.int .i64 s.kind) := hcl 1 _ rfl
    have x2 : w.cell? ⟨b, off + i * 6 + 2, none⟩ = some (.int .i64 s.soil) := hcl 2 _ rfl
    have x3 : w.cell? ⟨b, off + i * 6 + 3, none⟩ = some (.int .i64 s.depth) := hcl 3 _ rfl
    have x4 : w.cell? ⟨b, off + i * 6 + 4, none⟩ = some (.int .i64 s.step) := hcl 4 _ rfl
    have x5 : w.cell? ⟨b, off + i * 6 + 5, none⟩ = some (.int .i64 s.room) := hcl 5 _ rfl
    have hlt2 : (i : Int) < (ss.length : Int) := by omega
    have hi0 : ¬ ((i : Int) < 0) := by omega
    have hX : rPlaceP c0 c1 c2 ss ls si lv co = if decide (s.room ≤ lv) then 2 else if !takesP c0 c1 c2 s.kind s.depth s.step lv co then 15 else if rOccP si lv ls then 16 else if rCovP s.kind s.name s.room lv ls then 18 else 0 := by rw [rPlaceP, hf]
    rw [hX]
    clear hX hf hik hgk hse hcl
    obtain ⟨a, k, so, d, st, r⟩ := s
    dsimp only at x0 x1 x2 x3 x4 x5 hroom ⊢
    by_cases hrl : r ≤ lv
    · rw [if_pos (by simpa using hrl)]
      go_wp2_with (go_at_call 27; refine (rSite_any ss rs _ _ _ _ _ _ _ _ _ _ _ (hy.keep (m := w.heap.size) (by repeat (first | exact B_refl | exact Below.refl _ _ | assumption | with_reducible refine B_alloc ?_ _ | with_reducible refine B_ext ?_ _ | with_reducible refine B_drew ?_ | with_reducible refine B_drewN ?_ _ | with_reducible refine B_set ?_ (by simp; omega) _)))).mono ?_; rintro e wq ⟨rfl, zt, rfl⟩; rw [hsi])
      go_ret
      exact Ret.of rfl (by repeat (first | exact B_refl | exact Below.refl _ _ | assumption | with_reducible refine B_alloc ?_ _ | with_reducible refine B_ext ?_ _ | with_reducible refine B_drew ?_ | with_reducible refine B_drewN ?_ _ | with_reducible refine B_set ?_ (by simp; omega) _))
    rw [if_neg (by simpa using hrl)]
    cases ht : takesP c0 c1 c2 k d st lv co
    · rw [if_pos (by simp)]
      go_wp2_with (first
        | (go_at_call 27; refine (rSite_any ss rs _ _ _ _ _ _ _ _ _ _ _ (hy.keep (m := w.heap.size) (by repeat (first | exact B_refl | exact Below.refl _ _ | assumption | with_reducible refine B_alloc ?_ _ | with_reducible refine B_ext ?_ _ | with_reducible refine B_drew ?_ | with_reducible refine B_drewN ?_ _ | with_reducible refine B_set ?_ (by simp; omega) _)))).mono ?_; rintro e wq ⟨rfl, zt, rfl⟩; rw [hsi])
        | (go_at_call 32; refine (rTakes_any _ _ _ _ _ _ _ _ _ _ _ _ _ _ _ _ _ _ hc1 hc2).mono ?_; rintro e wq ⟨rfl, zq, rfl⟩; rw [ht]))
      go_ret
      exact Ret.of rfl (by repeat (first | exact B_refl | exact Below.refl _ _ | assumption | with_reducible refine B_alloc ?_ _ | with_reducible refine B_ext ?_ _ | with_reducible refine B_drew ?_ | with_reducible refine B_drewN ?_ _ | with_reducible refine B_set ?_ (by simp; omega) _))
    rw [if_neg (by simp)]
    cases ho : rOccP si lv ls
    · rw [if_neg (by simp)]
      cases hv : rCovP k a r lv ls
      · rw [if_neg (by simp)]
        go_wp2_with (first
          | (go_at_call 27; refine (rSite_any ss rs _ _ _ _ _ _ _ _ _ _ _ (hy.keep (m := w.heap.size) (by repeat (first | exact B_refl | exact Below.refl _ _ | assumption | with_reducible refine B_alloc ?_ _ | with_reducible refine B_ext ?_ _ | with_reducible refine B_drew ?_ | with_reducible refine B_drewN ?_ _ | with_reducible refine B_set ?_ (by simp; omega) _)))).mono ?_; rintro e wq ⟨rfl, zt, rfl⟩; rw [hsi])
          | (go_at_call 32; refine (rTakes_any _ _ _ _ _ _ _ _ _ _ _ _ _ _ _ _ _ _ hc1 hc2).mono ?_; rintro e wq ⟨rfl, zq, rfl⟩; rw [ht])
          | (go_at_call 73; refine (rOcc_any ls _ _ _ _ _ _ (hl.keep (m := w.heap.size) (by repeat (first | exact B_refl | exact Below.refl _ _ | assumption | with_reducible refine B_alloc ?_ _ | with_reducible refine B_ext ?_ _ | with_reducible refine B_drew ?_ | with_reducible refine B_drewN ?_ _ | with_reducible refine B_set ?_ (by simp; omega) _)))).mono ?_; rintro e wq ⟨rfl, zq, rfl⟩; rw [ho])
          | (go_at_call 74; refine (rCov_any ls _ _ _ _ _ _ _ _ _ _ _ (hl.keep (m := w.heap.size) (by repeat (first | exact B_refl | exact Below.refl _ _ | assumption | with_reducible refine B_alloc ?_ _ | with_reducible refine B_ext ?_ _ | with_reducible refine B_drew ?_ | with_reducible refine B_drewN ?_ _ | with_reducible refine B_set ?_ (by simp; omega) _))) (by omega) h2 hroom).mono ?_; rintro e wq ⟨rfl, zq, rfl⟩; rw [hv]))
        go_ret
        exact Ret.of rfl (by repeat (first | exact B_refl | exact Below.refl _ _ | assumption | with_reducible refine B_alloc ?_ _ | with_reducible refine B_ext ?_ _ | with_reducible refine B_drew ?_ | with_reducible refine B_drewN ?_ _ | with_reducible refine B_set ?_ (by simp; omega) _))
      · rw [if_pos (by simp)]
        go_wp2_with (first
          | (go_at_call 27; refine (rSite_any ss rs _ _ _ _ _ _ _ _ _ _ _ (hy.keep (m := w.heap.size) (by repeat (first | exact B_refl | exact Below.refl _ _ | assumption | with_reducible refine B_alloc ?_ _ | with_reducible refine B_ext ?_ _ | with_reducible refine B_drew ?_ | with_reducible refine B_drewN ?_ _ | with_reducible refine B_set ?_ (by simp; omega) _)))).mono ?_; rintro e wq ⟨rfl, zt, rfl⟩; rw [hsi])
          | (go_at_call 32; refine (rTakes_any _ _ _ _ _ _ _ _ _ _ _ _ _ _ _ _ _ _ hc1 hc2).mono ?_; rintro e wq ⟨rfl, zq, rfl⟩; rw [ht])
          | (go_at_call 73; refine (rOcc_any ls _ _ _ _ _ _ (hl.keep (m := w.heap.size) (by repeat (first | exact B_refl | exact Below.refl _ _ | assumption | with_reducible refine B_alloc ?_ _ | with_reducible refine B_ext ?_ _ | with_reducible refine B_drew ?_ | with_reducible refine B_drewN ?_ _ | with_reducible refine B_set ?_ (by simp; omega) _)))).mono ?_; rintro e wq ⟨rfl, zq, rfl⟩; rw [ho])
          | (go_at_call 74; refine (rCov_any ls _ _ _ _ _ _ _ _ _ _ _ (hl.keep (m := w.heap.size) (by repeat (first | exact B_refl | exact Below.refl _ _ | assumption | with_reducible refine B_alloc ?_ _ | with_reducible refine B_ext ?_ _ | with_reducible refine B_drew ?_ | with_reducible refine B_drewN ?_ _ | with_reducible refine B_set ?_ (by simp; omega) _))) (by omega) h2 hroom).mono ?_; rintro e wq ⟨rfl, zq, rfl⟩; rw [hv]))
        go_ret
        exact Ret.of rfl (by repeat (first | exact B_refl | exact Below.refl _ _ | assumption | with_reducible refine B_alloc ?_ _ | with_reducible refine B_ext ?_ _ | with_reducible refine B_drew ?_ | with_reducible refine B_drewN ?_ _ | with_reducible refine B_set ?_ (by simp; omega) _))
    · rw [if_pos (by simp)]
      go_wp2_with (first
        | (go_at_call 27; refine (rSite_any ss rs _ _ _ _ _ _ _ _ _ _ _ (hy.keep (m := w.heap.size) (by repeat (first | exact B_refl | exact Below.refl _ _ | assumption | with_reducible refine B_alloc ?_ _ | with_reducible refine B_ext ?_ _ | with_reducible refine B_drew ?_ | with_reducible refine B_drewN ?_ _ | with_reducible refine B_set ?_ (by simp; omega) _)))).mono ?_; rintro e wq ⟨rfl, zt, rfl⟩; rw [hsi])
        | (go_at_call 32; refine (rTakes_any _ _ _ _ _ _ _ _ _ _ _ _ _ _ _ _ _ _ hc1 hc2).mono ?_; rintro e wq ⟨rfl, zq, rfl⟩; rw [ht])
        | (go_at_call 73; refine (rOcc_any ls _ _ _ _ _ _ (hl.keep (m := w.heap.size) (by repeat (first | exact B_refl | exact Below.refl _ _ | assumption | with_reducible refine B_alloc ?_ _ | with_reducible refine B_ext ?_ _ | with_reducible refine B_drew ?_ | with_reducible refine B_drewN ?_ _ | with_reducible refine B_set ?_ (by simp; omega) _)))).mono ?_; rintro e wq ⟨rfl, zq, rfl⟩; rw [ho]))
      go_ret
      exact Ret.of rfl (by repeat (first | exact B_refl | exact Below.refl _ _ | assumption | with_reducible refine B_alloc ?_ _ | with_reducible refine B_ext ?_ _ | with_reducible refine B_drew ?_ | with_reducible refine B_drewN ?_ _ | with_reducible refine B_set ?_ (by simp; omega) _))
end Go.Proofs.Ytmiobhlgpjjbgaa
