/- Walks of the reference: the number of a lot, occupied, covered, the error of a place. -/
/- Walk of the reference: the error of a place. -/
/- Walk of the reference: the error of an event that puts a remain at a place. -/
import Derived.Test.YtpohkolapgofdaaGreatDoorL3
namespace Go.Proofs.YtpohkolapgofdaaGreatDoor
open Go.RowKit
attribute [local go_sem] World.cell?_alloc_mark ext_size ext_cell ext_frozen lt_add_r lt_add_r2 lt_add_r3 lt_add_r4 lt_add_r5 lt_add_r6 lt_add_r7 lt_add_r8

def lotIdx (nm : ByteArray) : List Lot → Nat → Option Nat
  | [], _ => none
  | l :: r, k => if l.remain.toList == nm.toList then some k else lotIdx nm r (k + 1)
def rFindR (nm : ByteArray) (ls : List Lot) : Int := match lotIdx nm ls 0 with | none => -1 | some k => (k : Int)
def rOccP (si : ByteArray) (lv : Int) : List Lot → Bool
  | [] => false
  | l :: r => if l.state == 1 && l.site.toList == si.toList && l.level == lv then true else rOccP si lv r
def rCovGo (kd : Int) (nm : ByteArray) (ls : List Lot) : Nat → Int → Bool
  | 0, _ => false
  | f + 1, n => if kd == 0 && rOccP nm n ls then true else rCovGo kd nm ls f (n + 1)
def rCovP (kd : Int) (nm : ByteArray) (room lv : Int) (ls : List Lot) : Bool := rCovGo kd nm ls (room - (lv + 1)).toNat (lv + 1)
def rPlaceP (c0 c1 c2 : Int) (ss : List Site) (ls : List Lot) (si : ByteArray) (lv co : Int) : Int :=
  match findSite si ss with
  | none => 6
  | some s =>
    if decide (s.room ≤ lv) then 2 else
    if !takesP c0 c1 c2 s.kind s.depth s.step lv co then 15 else
    if rOccP si lv ls then 16 else
    if rCovP s.kind s.name s.room lv ls then 18 else 0
structure LotsIn (w : World) (ls : List Lot) (A : Option Addr) (n : Nat) : Prop where
  hn : n = ls.length
  sl : Sl w 6 Lot.cells A ls
  l1 : ls.length ≤ 100000
theorem LotsIn.keep {w W : World} {ls : List Lot} {A : Option Addr} {n : Nat} (h : LotsIn w ls A n) {m : Nat} (hb : Below m w W) (hm : w.heap.size ≤ m := by first | exact Nat.le_refl _ | omega) : LotsIn W ls A n := ⟨h.hn, h.sl.keep hb hm, h.l1⟩

set_option maxRecDepth 100000 in
set_option maxHeartbeats 2000000 in
theorem rFind_any (ls : List Lot) (L : Option Addr) (ln lc : Nat) (nm : ByteArray) (w : World) (hl : LotsIn w ls L ln) :
    Calls Tryz.prog 118 #[.slice L ln lc, .string nm] w (Ret w (.int .i64 (rFindR nm ls))) := by
  have hln := hl.hn
  have hl1 := hl.l1
  subst hln
  unfold rFindR
  generalize hT : lotIdx nm ls 0 = T
  have HT := Lib.hid hT
  clear hT
  generalize hV : (match T with | none => (-1 : Int) | some k => (k : Int)) = V
  have HV := Lib.hid hV
  clear hV
  go_enter Tryz.func118, Tryz.ntmps118
  go_wp2_with fail
  go_loop [5] (fun i => ∃ k : Nat, k ≤ ls.length ∧ i = .int .i64 k ∧ T = lotIdx nm (ls.drop k) k) (fun i => ls.length - (intOf i).toNat)
  case atStart => exact ⟨0, Nat.zero_le _, rfl, HT.out.symm⟩
  case round =>
    obtain ⟨k, hk, rfl, hf⟩ := hrel
    by_cases hlt : k < ls.length
    · rw [List.drop_eq_getElem_cons hlt, lotIdx] at hf
      obtain ⟨b, off, rfl, hb, hc⟩ := hl.sl.at hlt
      have h0 : w.cell? ⟨b, off + k * 6, none⟩ = some (.string ls[k].remain) := hc 0 _ rfl
      have HF := Lib.hid hf
      have hlt2 : (k : Int) < (ls.length : Int) := by omega
      clear hc hf
      go_wp2_with fail
      · go_ret
        refine Ret.of (int_eq ?_) (by repeat (first | exact B_refl | exact Below.refl _ _ | assumption | with_reducible refine B_alloc ?_ _ | with_reducible refine B_ext ?_ _ | with_reducible refine B_drew ?_ | with_reducible refine B_drewN ?_ _ | with_reducible refine B_set ?_ (by simp; omega) _))
        rw [← HV.out, HF.out, if_pos (by assumption)]
      · go_round
        case rel => exact ⟨k + 1, by omega, by go_num, by rw [HF.out, if_neg (by simp_all)]⟩
        case measure => simp [intOf]; omega
    · rw [List.drop_eq_nil_of_le (by omega), lotIdx] at hf
      have HF := Lib.hid hf
      clear hf
      go_wp2_with fail
      go_ret
      refine Ret.of (int_eq ?_) (by repeat (first | exact B_refl | exact Below.refl _ _ | assumption | with_reducible refine B_alloc ?_ _ | with_reducible refine B_ext ?_ _ | with_reducible refine B_drew ?_ | with_reducible refine B_drewN ?_ _ | with_reducible refine B_set ?_ (by simp; omega) _))
      rw [← HV.out, HF.out]

set_option maxRecDepth 100000 in
set_option maxHeartbeats 2000000 in
theorem rOcc_any (ls : List Lot) (L : Option Addr) (ln lc : Nat) (si : ByteArray) (lv : Int) (w : World) (hl : LotsIn w ls L ln) :
    Calls Tryz.prog 121 #[.slice L ln lc, .string si, .int .i64 lv] w (Ret w (.bool (rOccP si lv ls))) := by
  have hln := hl.hn
  have hl1 := hl.l1
  subst hln
  generalize hT : rOccP si lv ls = T
  have HT := Lib.hid hT
  clear hT
  go_enter Tryz.func121, Tryz.ntmps121
  go_wp2_with fail
  go_loopw [7] (fun i wr => ∃ k : Nat, k ≤ ls.length ∧ i = .int .i64 k ∧ T = rOccP si lv (ls.drop k) ∧ ∃ z, wr = w.ext z) (fun i _ => ls.length - (intOf i).toNat)
  case atStart => exact ⟨0, Nat.zero_le _, rfl, HT.out.symm, ext_below (Below.refl _ _)⟩
  case round =>
    obtain ⟨k, hk, rfl, hf, z, rfl⟩ := hrel
    by_cases hlt : k < ls.length
    · rw [List.drop_eq_getElem_cons hlt, rOccP] at hf
      obtain ⟨b, off, rfl, hb, hc⟩ := hl.sl.at hlt
      have h1 : w.cell? ⟨b, off + k * 6 + 1, none⟩ = some (.int .i64 ls[k].state) := hc 1 _ rfl
      have h2 : w.cell? ⟨b, off + k * 6 + 2, none⟩ = some (.string ls[k].site) := hc 2 _ rfl
      have h3 : w.cell? ⟨b, off + k * 6 + 3, none⟩ = some (.int .i64 ls[k].level) := hc 3 _ rfl
      have HF := Lib.hid hf
      have hlt2 : (k : Int) < (ls.length : Int) := by omega
      clear hc hf
      generalize ls[k] = s at *
      obtain ⟨a, st, sn, sl, sc, sd⟩ := s
      dsimp only at h1 h2 h3 HF
      cases hs : (st == 1)
      · go_wp2_with fail
        go_roundw
        case rel => exact ⟨k + 1, by omega, by go_num, by rw [HF.out, if_neg (by simp [hs])], ext_below (by repeat (first | exact B_refl | exact Below.refl _ _ | assumption | with_reducible refine B_alloc ?_ _ | with_reducible refine B_ext ?_ _ | with_reducible refine B_drew ?_ | with_reducible refine B_drewN ?_ _ | with_reducible refine B_set ?_ (by simp; omega) _))⟩
        case measure => simp [intOf]; omega
      · cases hs2 : (sn.toList == si.toList)
        · go_wp2_with fail
          go_roundw
          case rel => exact ⟨k + 1, by omega, by go_num, by rw [HF.out, if_neg (by simp [hs2])], ext_below (by repeat (first | exact B_refl | exact Below.refl _ _ | assumption | with_reducible refine B_alloc ?_ _ | with_reducible refine B_ext ?_ _ | with_reducible refine B_drew ?_ | with_reducible refine B_drewN ?_ _ | with_reducible refine B_set ?_ (by simp; omega) _))⟩
          case measure => simp [intOf]; omega
        · cases hs3 : (sl == lv)
          · go_wp2_with fail
            go_roundw
            case rel => exact ⟨k + 1, by omega, by go_num, by rw [HF.out, if_neg (by simp [hs3])], ext_below (by repeat (first | exact B_refl | exact Below.refl _ _ | assumption | with_reducible refine B_alloc ?_ _ | with_reducible refine B_ext ?_ _ | with_reducible refine B_drew ?_ | with_reducible refine B_drewN ?_ _ | with_reducible refine B_set ?_ (by simp; omega) _))⟩
            case measure => simp [intOf]; omega
          · go_wp2_with fail
            go_ret
            exact Ret.of (bool_eq (by rw [HF.out, if_pos (by simp [hs, hs2, hs3])])) (by repeat (first | exact B_refl | exact Below.refl _ _ | assumption | with_reducible refine B_alloc ?_ _ | with_reducible refine B_ext ?_ _ | with_reducible refine B_drew ?_ | with_reducible refine B_drewN ?_ _ | with_reducible refine B_set ?_ (by simp; omega) _))
    · rw [List.drop_eq_nil_of_le (by omega), rOccP] at hf
      have HF := Lib.hid hf
      clear hf
      go_wp2_with fail
      go_ret
      exact Ret.of (bool_eq (by rw [HF.out])) (by repeat (first | exact B_refl | exact Below.refl _ _ | assumption | with_reducible refine B_alloc ?_ _ | with_reducible refine B_ext ?_ _ | with_reducible refine B_drew ?_ | with_reducible refine B_drewN ?_ _ | with_reducible refine B_set ?_ (by simp; omega) _))

set_option maxRecDepth 100000 in
set_option maxHeartbeats 2000000 in
theorem rCov_any (ls : List Lot) (L : Option Addr) (ln lc : Nat) (nm : ByteArray) (k so d st r lv : Int) (w : World) (hl : LotsIn w ls L ln) (h1 : -1000 ≤ lv) (h2 : lv ≤ 100000) (hr : r ≤ 100000) :
    Calls Tryz.prog 122 #[.slice L ln lc, .agg #[.string nm, .int .i64 k, .int .i64 so, .int .i64 d, .int .i64 st, .int .i64 r], .int .i64 lv] w (Ret w (.bool (rCovP k nm r lv ls))) := by
  unfold rCovP
  generalize hT : rCovGo k nm ls (r - (lv + 1)).toNat (lv + 1) = T
  have HT := Lib.hid hT
  clear hT
  go_enter Tryz.func122, Tryz.ntmps122
  go_wp2_with fail
  obtain ⟨W0, hW0⟩ : ∃ W0, W0 = w.alloc (.cells #[.string nm, .int .i64 k, .int .i64 so, .int .i64 d, .int .i64 st, .int .i64 r] 81) := ⟨_, rfl⟩
  rw [← hW0]
  have hB : Below w.heap.size w W0 := by rw [hW0]; repeat (first | exact B_refl | exact Below.refl _ _ | assumption | with_reducible refine B_alloc ?_ _ | with_reducible refine B_ext ?_ _ | with_reducible refine B_drew ?_ | with_reducible refine B_drewN ?_ _ | with_reducible refine B_set ?_ (by simp; omega) _)
  have g0 : W0.cell? ⟨w.heap.size, 0, none⟩ = some (.string nm) := by rw [hW0]; simp [go_sem]
  have g1 : W0.cell? ⟨w.heap.size, 1, none⟩ = some (.int .i64 k) := by rw [hW0]; simp [go_sem]
  have g5 : W0.cell? ⟨w.heap.size, 5, none⟩ = some (.int .i64 r) := by rw [hW0]; simp [go_sem]
  have hz : w.heap.size < W0.heap.size := by rw [hW0]; simp
  clear hW0
  go_loopw [7] (fun i wr => ∃ n : Int, lv + 1 ≤ n ∧ n ≤ 200000 ∧ i = .int .i64 n ∧ T = rCovGo k nm ls (r - n).toNat n ∧ ∃ z, wr = W0.ext z) (fun i _ => (r - intOf i).toNat)
  case atStart => exact ⟨lv + 1, Int.le_refl _, by omega, rfl, HT.out.symm, ext_below (Below.refl _ _)⟩
  case round =>
    obtain ⟨n, hn1, hn2, rfl, hf, z, rfl⟩ := hrel
    by_cases hlt : n < r
    · obtain ⟨f, hfu⟩ : ∃ f, (r - n).toNat = f + 1 := ⟨(r - n).toNat - 1, by omega⟩
      rw [hfu, rCovGo] at hf
      have hf1 : (r - (n + 1)).toNat = f := by omega
      have HF := Lib.hid hf
      clear hf
      cases hk : (k == 0)
      · go_wp2_with fail
        go_roundw
        case rel => exact ⟨n + 1, by omega, by omega, by go_num, by rw [HF.out, if_neg (by simp [hk]), hf1], ext_below (by repeat (first | exact B_refl | exact Below.refl _ _ | assumption | with_reducible refine B_alloc ?_ _ | with_reducible refine B_ext ?_ _ | with_reducible refine B_drew ?_ | with_reducible refine B_drewN ?_ _ | with_reducible refine B_set ?_ (by simp; omega) _))⟩
        case measure => simp [intOf]; omega
      · cases ho : rOccP nm n ls
        · go_wp2_with (go_at_call 121; refine (rOcc_any ls _ _ _ _ _ _ (hl.keep (m := w.heap.size) (by repeat (first | exact B_refl | exact Below.refl _ _ | assumption | with_reducible refine B_alloc ?_ _ | with_reducible refine B_ext ?_ _ | with_reducible refine B_drew ?_ | with_reducible refine B_drewN ?_ _ | with_reducible refine B_set ?_ (by simp; omega) _)))).mono ?_; rintro e wq ⟨rfl, zq, rfl⟩; rw [ho])
          go_roundw
          case rel => exact ⟨n + 1, by omega, by omega, by go_num, by rw [HF.out, if_neg (by simp [ho]), hf1], ext_below (by repeat (first | exact B_refl | exact Below.refl _ _ | assumption | with_reducible refine B_alloc ?_ _ | with_reducible refine B_ext ?_ _ | with_reducible refine B_drew ?_ | with_reducible refine B_drewN ?_ _ | with_reducible refine B_set ?_ (by simp; omega) _))⟩
          case measure => simp [intOf]; omega
        · go_wp2_with (go_at_call 121; refine (rOcc_any ls _ _ _ _ _ _ (hl.keep (m := w.heap.size) (by repeat (first | exact B_refl | exact Below.refl _ _ | assumption | with_reducible refine B_alloc ?_ _ | with_reducible refine B_ext ?_ _ | with_reducible refine B_drew ?_ | with_reducible refine B_drewN ?_ _ | with_reducible refine B_set ?_ (by simp; omega) _)))).mono ?_; rintro e wq ⟨rfl, zq, rfl⟩; rw [ho])
          go_ret
          exact Ret.of (bool_eq (by rw [HF.out, if_pos (by simp [hk, ho])])) (by repeat (first | exact B_refl | exact Below.refl _ _ | assumption | with_reducible refine B_alloc ?_ _ | with_reducible refine B_ext ?_ _ | with_reducible refine B_drew ?_ | with_reducible refine B_drewN ?_ _ | with_reducible refine B_set ?_ (by simp; omega) _))
    · have hfu : (r - n).toNat = 0 := by omega
      rw [hfu, rCovGo] at hf
      have HF := Lib.hid hf
      clear hf
      go_wp2_with fail
      go_ret
      exact Ret.of (bool_eq (by rw [HF.out])) (by repeat (first | exact B_refl | exact Below.refl _ _ | assumption | with_reducible refine B_alloc ?_ _ | with_reducible refine B_ext ?_ _ | with_reducible refine B_drew ?_ | with_reducible refine B_drewN ?_ _ | with_reducible refine B_set ?_ (by simp; omega) _))
end Go.Proofs.YtpohkolapgofdaaGreatDoor
namespace Go.Proofs.YtpohkolapgofdaaGreatDoor
open Go.RowKit
attribute [local go_sem] World.cell?_alloc_mark ext_size ext_cell ext_frozen lt_add_r lt_add_r2 lt_add_r3 lt_add_r4 lt_add_r5 lt_add_r6 lt_add_r7 lt_add_r8

set_option maxRecDepth 100000 in
set_option maxHeartbeats 2000000 in
theorem rPlace_any (ss : List Site) (rs : List Rest) (A R : Option Addr) (n c rn rc : Nat) (c0 c1 c2 : Int) (ls : List Lot) (L : Option Addr) (ln lc : Nat) (si : ByteArray) (lv co : Int) (w : World) (hy : YardIn w ss rs A n c R rn rc) (hl : LotsIn w ls L ln) (hr : ∀ s ∈ ss, s.room ≤ 100000) (h1 : 0 ≤ lv) (h2 : lv ≤ 100000) (hc1 : 0 ≤ co) (hc2 : co ≤ 2) :
    Calls Tryz.prog 119 #[.agg #[.slice A n c, .slice R rn rc, .int .i64 c0, .int .i64 c1, .int .i64 c2], .slice L ln lc, .string si, .int .i64 lv, .int .i64 co] w (Ret w (.int .i64 (rPlaceP c0 c1 c2 ss ls si lv co))) := by
  have hln := hy.hn
  have hl1 := hy.l1
  subst hln
  go_enter Tryz.func119, Tryz.ntmps119
  cases hf : findSite si ss with
  | none =>
    have hsi : rSiteR si ss = -1 := by rw [rSiteR, siteIdx_none hf]
    have hX : rPlaceP c0 c1 c2 ss ls si lv co = 6 := by rw [rPlaceP, hf]
    rw [hX]
    clear hX hf
    go_wp2_with (go_at_call 120; refine (rSite_any ss rs _ _ _ _ _ _ _ _ _ _ _ (hy.keep (m := w.heap.size) (by repeat (first | exact B_refl | exact Below.refl _ _ | assumption | with_reducible refine B_alloc ?_ _ | with_reducible refine B_ext ?_ _ | with_reducible refine B_drew ?_ | with_reducible refine B_drewN ?_ _ | with_reducible refine B_set ?_ (by simp; omega) _)))).mono ?_; rintro e wq ⟨rfl, zt, rfl⟩; rw [hsi])
    go_ret
    exact Ret.of rfl (by repeat (first | exact B_refl | exact Below.refl _ _ | assumption | with_reducible refine B_alloc ?_ _ | with_reducible refine B_ext ?_ _ | with_reducible refine B_drew ?_ | with_reducible refine B_drewN ?_ _ | with_reducible refine B_set ?_ (by simp; omega) _))
  | some s =>
    obtain ⟨i, hik, hgk⟩ := siteIdx_some hf
    have hsi : rSiteR si ss = (i : Int) := by rw [rSiteR, hik]
    obtain ⟨hlt, hse⟩ := List.getElem?_eq_some_iff.1 hgk
    have hroom := hr s (findSite_mem hf)
    obtain ⟨b, off, rfl, hb, hcl⟩ := hy.sl.at hlt
    rw [hse] at hcl
    have x0 : w.cell? ⟨b, off + i * 6, none⟩ = some (.string s.name) := hcl 0 _ rfl
    have x1 : w.cell? ⟨b, off + i * 6 + 1, none⟩ = some (.int .i64 s.kind) := hcl 1 _ rfl
    have x2 : w.cell? ⟨b, off + i * 6 + 2, none⟩ = some (.int .i64 s.soil) := hcl 2 _ rfl
    have x3 : w.cell? ⟨b, off + i * 6 + 3, none⟩ = some (.int .i64 s.depth) := hcl 3 _ rfl
    have x4 : w.cell? ⟨b, off + i * 6 + 4, none⟩ = some (.int .i64 s.step) := hcl 4 _ rfl
    have x5 : w.cell? ⟨b, off + i * 6 + 5, none⟩ = some (.int .i64 s.room) := hcl 5 _ rfl
    have hlt2 : (i : Int) < (ss.length : Int) := by omega
    have hi0 : ¬ ((i : Int) < 0) := by omega
    have hX : rPlaceP c0 c1 c2 ss ls si lv co = if decide (s.room ≤ lv) then 2 else if !takesP c0 c1 c2 s.kind s.depth s.step lv co then 15 else if rOccP si lv ls then 16 else if rCovP s.kind s.name s.room lv ls then 18 else 0 := by rw [rPlaceP, hf]
    rw [hX]
    clear hX hf hik hgk hse hcl
    obtain ⟨a, k, so, d, st, r⟩ := s
    dsimp only at x0 x1 x2 x3 x4 x5 hroom ⊢
    by_cases hrl : r ≤ lv
    · rw [if_pos (by simpa using hrl)]
      go_wp2_with (go_at_call 120; refine (rSite_any ss rs _ _ _ _ _ _ _ _ _ _ _ (hy.keep (m := w.heap.size) (by repeat (first | exact B_refl | exact Below.refl _ _ | assumption | with_reducible refine B_alloc ?_ _ | with_reducible refine B_ext ?_ _ | with_reducible refine B_drew ?_ | with_reducible refine B_drewN ?_ _ | with_reducible refine B_set ?_ (by simp; omega) _)))).mono ?_; rintro e wq ⟨rfl, zt, rfl⟩; rw [hsi])
      go_ret
      exact Ret.of rfl (by repeat (first | exact B_refl | exact Below.refl _ _ | assumption | with_reducible refine B_alloc ?_ _ | with_reducible refine B_ext ?_ _ | with_reducible refine B_drew ?_ | with_reducible refine B_drewN ?_ _ | with_reducible refine B_set ?_ (by simp; omega) _))
    rw [if_neg (by simpa using hrl)]
    cases ht : takesP c0 c1 c2 k d st lv co
    · rw [if_pos (by simp)]
      go_wp2_with (first
        | (go_at_call 120; refine (rSite_any ss rs _ _ _ _ _ _ _ _ _ _ _ (hy.keep (m := w.heap.size) (by repeat (first | exact B_refl | exact Below.refl _ _ | assumption | with_reducible refine B_alloc ?_ _ | with_reducible refine B_ext ?_ _ | with_reducible refine B_drew ?_ | with_reducible refine B_drewN ?_ _ | with_reducible refine B_set ?_ (by simp; omega) _)))).mono ?_; rintro e wq ⟨rfl, zt, rfl⟩; rw [hsi])
        | (go_at_call 139; refine (rTakes_any _ _ _ _ _ _ _ _ _ _ _ _ _ _ _ _ _ _ hc1 hc2).mono ?_; rintro e wq ⟨rfl, zq, rfl⟩; rw [ht]))
      go_ret
      exact Ret.of rfl (by repeat (first | exact B_refl | exact Below.refl _ _ | assumption | with_reducible refine B_alloc ?_ _ | with_reducible refine B_ext ?_ _ | with_reducible refine B_drew ?_ | with_reducible refine B_drewN ?_ _ | with_reducible refine B_set ?_ (by simp; omega) _))
    rw [if_neg (by simp)]
    cases ho : rOccP si lv ls
    · rw [if_neg (by simp)]
      cases hv : rCovP k a r lv ls
      · rw [if_neg (by simp)]
        go_wp2_with (first
          | (go_at_call 120; refine (rSite_any ss rs _ _ _ _ _ _ _ _ _ _ _ (hy.keep (m := w.heap.size) (by repeat (first | exact B_refl | exact Below.refl _ _ | assumption | with_reducible refine B_alloc ?_ _ | with_reducible refine B_ext ?_ _ | with_reducible refine B_drew ?_ | with_reducible refine B_drewN ?_ _ | with_reducible refine B_set ?_ (by simp; omega) _)))).mono ?_; rintro e wq ⟨rfl, zt, rfl⟩; rw [hsi])
          | (go_at_call 139; refine (rTakes_any _ _ _ _ _ _ _ _ _ _ _ _ _ _ _ _ _ _ hc1 hc2).mono ?_; rintro e wq ⟨rfl, zq, rfl⟩; rw [ht])
          | (go_at_call 121; refine (rOcc_any ls _ _ _ _ _ _ (hl.keep (m := w.heap.size) (by repeat (first | exact B_refl | exact Below.refl _ _ | assumption | with_reducible refine B_alloc ?_ _ | with_reducible refine B_ext ?_ _ | with_reducible refine B_drew ?_ | with_reducible refine B_drewN ?_ _ | with_reducible refine B_set ?_ (by simp; omega) _)))).mono ?_; rintro e wq ⟨rfl, zq, rfl⟩; rw [ho])
          | (go_at_call 122; refine (rCov_any ls _ _ _ _ _ _ _ _ _ _ _ (hl.keep (m := w.heap.size) (by repeat (first | exact B_refl | exact Below.refl _ _ | assumption | with_reducible refine B_alloc ?_ _ | with_reducible refine B_ext ?_ _ | with_reducible refine B_drew ?_ | with_reducible refine B_drewN ?_ _ | with_reducible refine B_set ?_ (by simp; omega) _))) (by omega) h2 hroom).mono ?_; rintro e wq ⟨rfl, zq, rfl⟩; rw [hv]))
        go_ret
        exact Ret.of rfl (by repeat (first | exact B_refl | exact Below.refl _ _ | assumption | with_reducible refine B_alloc ?_ _ | with_reducible refine B_ext ?_ _ | with_reducible refine B_drew ?_ | with_reducible refine B_drewN ?_ _ | with_reducible refine B_set ?_ (by simp; omega) _))
      · rw [if_pos (by simp)]
        go_wp2_with (first
          | (go_at_call 120; refine (rSite_any ss rs _ _ _ _ _ _ _ _ _ _ _ (hy.keep (m := w.heap.size) (by repeat (first | exact B_refl | exact Below.refl _ _ | assumption | with_reducible refine B_alloc ?_ _ | with_reducible refine B_ext ?_ _ | with_reducible refine B_drew ?_ | with_reducible refine B_drewN ?_ _ | with_reducible refine B_set ?_ (by simp; omega) _)))).mono ?_; rintro e wq ⟨rfl, zt, rfl⟩; rw [hsi])
          | (go_at_call 139; refine (rTakes_any _ _ _ _ _ _ _ _ _ _ _ _ _ _ _ _ _ _ hc1 hc2).mono ?_; rintro e wq ⟨rfl, zq, rfl⟩; rw [ht])
          | (go_at_call 121; refine (rOcc_any ls _ _ _ _ _ _ (hl.keep (m := w.heap.size) (by repeat (first | exact B_refl | exact Below.refl _ _ | assumption | with_reducible refine B_alloc ?_ _ | with_reducible refine B_ext ?_ _ | with_reducible refine B_drew ?_ | with_reducible refine B_drewN ?_ _ | with_reducible refine B_set ?_ (by simp; omega) _)))).mono ?_; rintro e wq ⟨rfl, zq, rfl⟩; rw [ho])
          | (go_at_call 122; refine (rCov_any ls _ _ _ _ _ _ _ _ _ _ _ (hl.keep (m := w.heap.size) (by repeat (first | exact B_refl | exact Below.refl _ _ | assumption | with_reducible refine B_alloc ?_ _ | with_reducible refine B_ext ?_ _ | with_reducible refine B_drew ?_ | with_reducible refine B_drewN ?_ _ | with_reducible refine B_set ?_ (by simp; omega) _))) (by omega) h2 hroom).mono ?_; rintro e wq ⟨rfl, zq, rfl⟩; rw [hv]))
        go_ret
        exact Ret.of rfl (by repeat (first | exact B_refl | exact Below.refl _ _ | assumption | with_reducible refine B_alloc ?_ _ | with_reducible refine B_ext ?_ _ | with_reducible refine B_drew ?_ | with_reducible refine B_drewN ?_ _ | with_reducible refine B_set ?_ (by simp; omega) _))
    · rw [if_pos (by simp)]
      go_wp2_with (first
        | (go_at_call 120; refine (rSite_any ss rs _ _ _ _ _ _ _ _ _ _ _ (hy.keep (m := w.heap.size) (by repeat (first | exact B_refl | exact Below.refl _ _ | assumption | with_reducible refine B_alloc ?_ _ | with_reducible refine B_ext ?_ _ | with_reducible refine B_drew ?_ | with_reducible refine B_drewN ?_ _ | with_reducible refine B_set ?_ (by simp; omega) _)))).mono ?_; rintro e wq ⟨rfl, zt, rfl⟩; rw [hsi])
        | (go_at_call 139; refine (rTakes_any _ _ _ _ _ _ _ _ _ _ _ _ _ _ _ _ _ _ hc1 hc2).mono ?_; rintro e wq ⟨rfl, zq, rfl⟩; rw [ht])
        | (go_at_call 121; refine (rOcc_any ls _ _ _ _ _ _ (hl.keep (m := w.heap.size) (by repeat (first | exact B_refl | exact Below.refl _ _ | assumption | with_reducible refine B_alloc ?_ _ | with_reducible refine B_ext ?_ _ | with_reducible refine B_drew ?_ | with_reducible refine B_drewN ?_ _ | with_reducible refine B_set ?_ (by simp; omega) _)))).mono ?_; rintro e wq ⟨rfl, zq, rfl⟩; rw [ho]))
      go_ret
      exact Ret.of rfl (by repeat (first | exact B_refl | exact Below.refl _ _ | assumption | with_reducible refine B_alloc ?_ _ | with_reducible refine B_ext ?_ _ | with_reducible refine B_drew ?_ | with_reducible refine B_drewN ?_ _ | with_reducible refine B_set ?_ (by simp; omega) _))
end Go.Proofs.YtpohkolapgofdaaGreatDoor
namespace Go.Proofs.YtpohkolapgofdaaGreatDoor
open Go.RowKit
attribute [local go_sem] World.cell?_alloc_mark ext_size ext_cell ext_frozen lt_add_r lt_add_r2 lt_add_r3 lt_add_r4 lt_add_r5 lt_add_r6 lt_add_r7 lt_add_r8

def findLot (nm : ByteArray) : List Lot → Option Lot
  | [] => none
  | l :: r => if l.remain.toList == nm.toList then some l else findLot nm r
theorem lotIdx_find (nm : ByteArray) : ∀ (l : List Lot) (k : Nat), (match lotIdx nm l k with | none => findLot nm l = none | some j => ∃ i s, j = k + i ∧ l[i]? = some s ∧ findLot nm l = some s)
  | [], k => rfl
  | s :: l, k => by
    unfold lotIdx findLot
    by_cases h : (s.remain.toList == nm.toList) = true
    · rw [if_pos h, if_pos h]
      exact ⟨0, s, rfl, rfl, rfl⟩
    · rw [if_neg h, if_neg h]
      have := lotIdx_find nm l (k + 1)
      split at this
      · exact this
      · rename_i j hj
        obtain ⟨i, s', e, hi, hf⟩ := this
        exact ⟨i + 1, s', by omega, by simpa using hi, hf⟩
theorem lotIdx_some {nm : ByteArray} {ls : List Lot} {s : Lot} (h : findLot nm ls = some s) : ∃ k : Nat, lotIdx nm ls 0 = some k ∧ ls[k]? = some s := by
  have := lotIdx_find nm ls 0
  split at this
  · rw [h] at this; cases this
  · rename_i j hj
    obtain ⟨i, s', rfl, hi, hf⟩ := this
    rw [h] at hf
    cases hf
    exact ⟨_, hj, by simpa using hi⟩
theorem lotIdx_none {nm : ByteArray} {ls : List Lot} (h : findLot nm ls = none) : lotIdx nm ls 0 = none := by
  have := lotIdx_find nm ls 0
  split at this
  · assumption
  · obtain ⟨i, s', _, _, hf⟩ := this
    rw [h] at hf
    cases hf
def rPutP (c0 c1 c2 : Int) (ss : List Site) (ls : List Lot) (kd : Int) (si : ByteArray) (lv : Int) (rm : ByteArray) (co : Int) : Int :=
  if kd == 0 && (findLot rm ls).isSome then 5 else
  if kd == 2 && !(findLot rm ls).isSome then 6 else
  if kd == 2 && ((findLot rm ls).getD zeroLot).state != 0 then 28 else
  rPlaceP c0 c1 c2 ss ls si lv co

set_option maxRecDepth 100000 in
set_option maxHeartbeats 2000000 in
theorem rPut_any (ss : List Site) (rs : List Rest) (A R : Option Addr) (n c rn rc : Nat) (c0 c1 c2 : Int) (ls : List Lot) (L : Option Addr) (ln lc : Nat) (dy kd : Int) (si : ByteArray) (lv : Int) (rm : ByteArray) (co : Int) (o : Bool) (w : World) (hy : YardIn w ss rs A n c R rn rc) (hl : LotsIn w ls L ln) (hr : ∀ s ∈ ss, s.room ≤ 100000) (hk : kd = 0 ∨ kd = 2) (h1 : 0 ≤ lv) (h2 : lv ≤ 100000) (hc1 : 0 ≤ co) (hc2 : co ≤ 2) :
    Calls Tryz.prog 98 #[.agg #[.slice A n c, .slice R rn rc, .int .i64 c0, .int .i64 c1, .int .i64 c2], .slice L ln lc, .agg #[.int .i64 dy, .int .i64 kd, .string si, .int .i64 lv, .string rm, .int .i64 co, .bool o]] w (Ret w (.int .i64 (rPutP c0 c1 c2 ss ls kd si lv rm co))) := by
  obtain ⟨T, hT⟩ : ∃ T, rPlaceP c0 c1 c2 ss ls si lv co = T := ⟨_, rfl⟩
  have HP := Lib.hid hT
  go_enter Tryz.func98, Tryz.ntmps98
  cases hf : findLot rm ls with
  | none =>
    have hfi : rFindR rm ls = -1 := by rw [rFindR, lotIdx_none hf]
    rcases hk with rfl | rfl
    · have hX : rPutP c0 c1 c2 ss ls 0 si lv rm co = T := by simp [rPutP, hf, hT]
      rw [hX]
      clear hX hT hf
      go_wp2_with (first
                        | (go_at_call 118; refine (rFind_any ls _ _ _ _ _ (hl.keep (m := w.heap.size) (by repeat (first | exact B_refl | exact Below.refl _ _ | assumption | with_reducible refine B_alloc ?_ _ | with_reducible refine B_ext ?_ _ | with_reducible refine B_drew ?_ | with_reducible refine B_drewN ?_ _ | with_reducible refine B_set ?_ (by simp; omega) _)))).mono ?_; rintro e wq ⟨rfl, zt, rfl⟩; rw [hfi])
                        | (go_at_call 119; refine (rPlace_any ss rs _ _ _ _ _ _ _ _ _ ls _ _ _ _ _ _ _ (hy.keep (m := w.heap.size) (by repeat (first | exact B_refl | exact Below.refl _ _ | assumption | with_reducible refine B_alloc ?_ _ | with_reducible refine B_ext ?_ _ | with_reducible refine B_drew ?_ | with_reducible refine B_drewN ?_ _ | with_reducible refine B_set ?_ (by simp; omega) _))) (hl.keep (m := w.heap.size) (by repeat (first | exact B_refl | exact Below.refl _ _ | assumption | with_reducible refine B_alloc ?_ _ | with_reducible refine B_ext ?_ _ | with_reducible refine B_drew ?_ | with_reducible refine B_drewN ?_ _ | with_reducible refine B_set ?_ (by simp; omega) _))) hr h1 h2 hc1 hc2).mono ?_; rintro e wq ⟨rfl, zp, rfl⟩; rw [HP.out]))
      go_ret
      exact Ret.of rfl (by repeat (first | exact B_refl | exact Below.refl _ _ | assumption | with_reducible refine B_alloc ?_ _ | with_reducible refine B_ext ?_ _ | with_reducible refine B_drew ?_ | with_reducible refine B_drewN ?_ _ | with_reducible refine B_set ?_ (by simp; omega) _))
    · have hX : rPutP c0 c1 c2 ss ls 2 si lv rm co = 6 := by simp [rPutP, hf]
      rw [hX]
      clear hX hT hf
      go_wp2_with (first
                        | (go_at_call 118; refine (rFind_any ls _ _ _ _ _ (hl.keep (m := w.heap.size) (by repeat (first | exact B_refl | exact Below.refl _ _ | assumption | with_reducible refine B_alloc ?_ _ | with_reducible refine B_ext ?_ _ | with_reducible refine B_drew ?_ | with_reducible refine B_drewN ?_ _ | with_reducible refine B_set ?_ (by simp; omega) _)))).mono ?_; rintro e wq ⟨rfl, zt, rfl⟩; rw [hfi])
                        | (go_at_call 119; refine (rPlace_any ss rs _ _ _ _ _ _ _ _ _ ls _ _ _ _ _ _ _ (hy.keep (m := w.heap.size) (by repeat (first | exact B_refl | exact Below.refl _ _ | assumption | with_reducible refine B_alloc ?_ _ | with_reducible refine B_ext ?_ _ | with_reducible refine B_drew ?_ | with_reducible refine B_drewN ?_ _ | with_reducible refine B_set ?_ (by simp; omega) _))) (hl.keep (m := w.heap.size) (by repeat (first | exact B_refl | exact Below.refl _ _ | assumption | with_reducible refine B_alloc ?_ _ | with_reducible refine B_ext ?_ _ | with_reducible refine B_drew ?_ | with_reducible refine B_drewN ?_ _ | with_reducible refine B_set ?_ (by simp; omega) _))) hr h1 h2 hc1 hc2).mono ?_; rintro e wq ⟨rfl, zp, rfl⟩; rw [HP.out]))
      go_ret
      exact Ret.of rfl (by repeat (first | exact B_refl | exact Below.refl _ _ | assumption | with_reducible refine B_alloc ?_ _ | with_reducible refine B_ext ?_ _ | with_reducible refine B_drew ?_ | with_reducible refine B_drewN ?_ _ | with_reducible refine B_set ?_ (by simp; omega) _))
  | some s =>
    obtain ⟨i, hik, hgk⟩ := lotIdx_some hf
    have hfi : rFindR rm ls = (i : Int) := by rw [rFindR, hik]
    obtain ⟨hlt, hse⟩ := List.getElem?_eq_some_iff.1 hgk
    have hln := hl.hn
    have hl1 := hl.l1
    subst hln
    obtain ⟨b, off, rfl, hb, hcl⟩ := hl.sl.at hlt
    rw [hse] at hcl
    have x1 : w.cell? ⟨b, off + i * 6 + 1, none⟩ = some (.int .i64 s.state) := hcl 1 _ rfl
    have hlt2 : (i : Int) < (ls.length : Int) := by omega
    have hi0 : ¬ ((i : Int) < 0) := by omega
    rcases hk with rfl | rfl
    · have hX : rPutP c0 c1 c2 ss ls 0 si lv rm co = 5 := by simp [rPutP, hf]
      rw [hX]
      clear hX hT hf hik hgk hse hcl
      go_wp2_with (first
                        | (go_at_call 118; refine (rFind_any ls _ _ _ _ _ (hl.keep (m := w.heap.size) (by repeat (first | exact B_refl | exact Below.refl _ _ | assumption | with_reducible refine B_alloc ?_ _ | with_reducible refine B_ext ?_ _ | with_reducible refine B_drew ?_ | with_reducible refine B_drewN ?_ _ | with_reducible refine B_set ?_ (by simp; omega) _)))).mono ?_; rintro e wq ⟨rfl, zt, rfl⟩; rw [hfi])
                        | (go_at_call 119; refine (rPlace_any ss rs _ _ _ _ _ _ _ _ _ ls _ _ _ _ _ _ _ (hy.keep (m := w.heap.size) (by repeat (first | exact B_refl | exact Below.refl _ _ | assumption | with_reducible refine B_alloc ?_ _ | with_reducible refine B_ext ?_ _ | with_reducible refine B_drew ?_ | with_reducible refine B_drewN ?_ _ | with_reducible refine B_set ?_ (by simp; omega) _))) (hl.keep (m := w.heap.size) (by repeat (first | exact B_refl | exact Below.refl _ _ | assumption | with_reducible refine B_alloc ?_ _ | with_reducible refine B_ext ?_ _ | with_reducible refine B_drew ?_ | with_reducible refine B_drewN ?_ _ | with_reducible refine B_set ?_ (by simp; omega) _))) hr h1 h2 hc1 hc2).mono ?_; rintro e wq ⟨rfl, zp, rfl⟩; rw [HP.out]))
      go_ret
      exact Ret.of rfl (by repeat (first | exact B_refl | exact Below.refl _ _ | assumption | with_reducible refine B_alloc ?_ _ | with_reducible refine B_ext ?_ _ | with_reducible refine B_drew ?_ | with_reducible refine B_drewN ?_ _ | with_reducible refine B_set ?_ (by simp; omega) _))
    · cases hs : (s.state != 0)
      · have hX : rPutP c0 c1 c2 ss ls 2 si lv rm co = T := by simp [rPutP, hf, hT, hs]
        have hs0 : s.state = 0 := by simpa using hs
        rw [hX]
        rw [hs0] at x1
        clear hX hT hf hik hgk hse hcl hs
        go_wp2_with (first
                          | (go_at_call 118; refine (rFind_any ls _ _ _ _ _ (hl.keep (m := w.heap.size) (by repeat (first | exact B_refl | exact Below.refl _ _ | assumption | with_reducible refine B_alloc ?_ _ | with_reducible refine B_ext ?_ _ | with_reducible refine B_drew ?_ | with_reducible refine B_drewN ?_ _ | with_reducible refine B_set ?_ (by simp; omega) _)))).mono ?_; rintro e wq ⟨rfl, zt, rfl⟩; rw [hfi])
                          | (go_at_call 119; refine (rPlace_any ss rs _ _ _ _ _ _ _ _ _ ls _ _ _ _ _ _ _ (hy.keep (m := w.heap.size) (by repeat (first | exact B_refl | exact Below.refl _ _ | assumption | with_reducible refine B_alloc ?_ _ | with_reducible refine B_ext ?_ _ | with_reducible refine B_drew ?_ | with_reducible refine B_drewN ?_ _ | with_reducible refine B_set ?_ (by simp; omega) _))) (hl.keep (m := w.heap.size) (by repeat (first | exact B_refl | exact Below.refl _ _ | assumption | with_reducible refine B_alloc ?_ _ | with_reducible refine B_ext ?_ _ | with_reducible refine B_drew ?_ | with_reducible refine B_drewN ?_ _ | with_reducible refine B_set ?_ (by simp; omega) _))) hr h1 h2 hc1 hc2).mono ?_; rintro e wq ⟨rfl, zp, rfl⟩; rw [HP.out]))
        go_ret
        exact Ret.of rfl (by repeat (first | exact B_refl | exact Below.refl _ _ | assumption | with_reducible refine B_alloc ?_ _ | with_reducible refine B_ext ?_ _ | with_reducible refine B_drew ?_ | with_reducible refine B_drewN ?_ _ | with_reducible refine B_set ?_ (by simp; omega) _))
      · have hX : rPutP c0 c1 c2 ss ls 2 si lv rm co = 28 := by simp only [rPutP, hf]; simp [hs]
        have hs0 : s.state ≠ 0 := by simpa using hs
        rw [hX]
        clear hX hT hf hik hgk hse hcl hs
        go_wp2_with (first
                          | (go_at_call 118; refine (rFind_any ls _ _ _ _ _ (hl.keep (m := w.heap.size) (by repeat (first | exact B_refl | exact Below.refl _ _ | assumption | with_reducible refine B_alloc ?_ _ | with_reducible refine B_ext ?_ _ | with_reducible refine B_drew ?_ | with_reducible refine B_drewN ?_ _ | with_reducible refine B_set ?_ (by simp; omega) _)))).mono ?_; rintro e wq ⟨rfl, zt, rfl⟩; rw [hfi])
                          | (go_at_call 119; refine (rPlace_any ss rs _ _ _ _ _ _ _ _ _ ls _ _ _ _ _ _ _ (hy.keep (m := w.heap.size) (by repeat (first | exact B_refl | exact Below.refl _ _ | assumption | with_reducible refine B_alloc ?_ _ | with_reducible refine B_ext ?_ _ | with_reducible refine B_drew ?_ | with_reducible refine B_drewN ?_ _ | with_reducible refine B_set ?_ (by simp; omega) _))) (hl.keep (m := w.heap.size) (by repeat (first | exact B_refl | exact Below.refl _ _ | assumption | with_reducible refine B_alloc ?_ _ | with_reducible refine B_ext ?_ _ | with_reducible refine B_drew ?_ | with_reducible refine B_drewN ?_ _ | with_reducible refine B_set ?_ (by simp; omega) _))) hr h1 h2 hc1 hc2).mono ?_; rintro e wq ⟨rfl, zp, rfl⟩; rw [HP.out]))
        go_ret
        exact Ret.of rfl (by repeat (first | exact B_refl | exact Below.refl _ _ | assumption | with_reducible refine B_alloc ?_ _ | with_reducible refine B_ext ?_ _ | with_reducible refine B_drew ?_ | with_reducible refine B_drewN ?_ _ | with_reducible refine B_set ?_ (by simp; omega) _))
end Go.Proofs.YtpohkolapgofdaaGreatDoor
