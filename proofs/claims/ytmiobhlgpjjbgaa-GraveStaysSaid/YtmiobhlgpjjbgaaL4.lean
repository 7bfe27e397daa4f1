/- Walks of the reference: the number of a lot, occupied, covered, the error of a place. -/
import Derived.Test.YtmiobhlgpjjbgaaL3
namespace Go.Proofs.Ytmiobhlgpjjbgaa
open Go.RowKit
attribute [local go_sem] World.cell?_alloc_mark ext_size ext_cell ext_frozen lt_add_r lt_add_r2 lt_add_r3 lt_add_r4 lt_add_r5 lt_add_r6 lt_add_r7 lt_add_r8

def lotIdx (nm : ByteArray) : List Lot → Nat → Option Nat
  | [], _ => none
  | l :: r, k => if l.remain.toList == nm.toList then some k else lotIdx nm r (k + 1)
def rFindR (nm : ByteArray) (ls : List Lot) : Int := match lotIdx nm ls 0 with | none => -1 | some k => (k : Int)
def rOccP (si : ByteArray) (lv : Int) : List Lot → Bool
  | [] => false
  | l :: r => if l.state == 1 && l.site.toList == si.toList && l.level == lv then true else rOccP si lv r
def rCovGo (kd : Int) (nm : ByteArray) (ls : List Lot) : Nat → Int → Bool
  | 0, _ => false
  | f + 1, n => if kd == 0 && rOccP nm n ls then true else rCovGo kd nm ls f (n + 1)
def rCovP (kd : Int) (nm : ByteArray) (room lv : Int) (ls : List Lot) : Bool := rCovGo kd nm ls (room - (lv + 1)).toNat (lv + 1)
def rPlaceP (c0 c1 c2 : Int) (ss : List Site) (ls : List Lot) (si : ByteArray) (lv co : Int) : Int :=
  match findSite si ss with
  | none => 6
  | some s =>
    if decide (s.room ≤ lv) then 2 else
    if !takesP c0 c1 c2 s.kind s.depth s.step lv co then 15 else
    if rOccP si lv ls then 16 else
    if rCovP s.kind s.name s.room lv ls then 18 else 0
structure LotsIn (w : World) (ls : List Lot) (A : Option Addr) (n : Nat) : Prop where
  hn : n = ls.length
  sl : Sl w 6 Lot.cells A ls
  l1 : ls.length ≤ 100000
theorem LotsIn.keep {w W : World} {ls : List Lot} {A : Option Addr} {n : Nat} (h : LotsIn w ls A n) {m : Nat} (hb : Below m w W) (hm : w.heap.size ≤ m := by first | exact Nat.le_refl _ | omega) : LotsIn W ls A n := ⟨h.hn, h.sl.keep hb hm, h.l1⟩

set_option maxRecDepth 100000 in
set_option maxHeartbeats 2000000 in
theorem rFind_any (ls : List Lot) (L : Option Addr) (ln lc : Nat) (nm : ByteArray) (w : World) (hl : LotsIn w ls L ln) :
    Calls Try.prog 78 #[.slice L ln lc, .string nm] w (Ret w (.int .i64 (rFindR nm ls))) := by
  have hln := hl.hn
  have hl1 := hl.l1
  subst hln
  unfold rFindR
  generalize hT : lotIdx nm ls 0 = T
  have HT := Lib.hid hT
  clear hT
  generalize hV : (match T with | none => (-1 : Int) | some k => (k : Int)) = V
  have HV := Lib.hid hV
  clear hV
  go_enter Try.func78, Try.ntmps78
  go_wp2_with fail
  go_loop [5] (fun i => ∃ k : Nat, k ≤ ls.length ∧ i = .int .i64 k ∧ T = lotIdx nm (ls.drop k) k) (fun i => ls.length - (intOf i).toNat)
  case atStart => exact ⟨0, Nat.zero_le _, rfl, HT.out.symm⟩
  case round =>
    obtain ⟨k, hk, rfl, hf⟩ := hrel
    by_cases hlt : k < ls.length
    · rw [List.drop_eq_getElem_cons hlt, lotIdx] at hf
      obtain ⟨b, off, rfl, hb, hc⟩ := hl.sl.at hlt
      have h0 : w.cell? ⟨b, off + k * 6, none⟩ = some (.string ls[k].remain) := hc 0 _ rfl
      have HF := Lib.hid hf
      have hlt2 : (k : Int) < (ls.length : Int) := by omega
      clear hc hf
      go_wp2_with fail
      · go_ret
        refine Ret.of (int_eq ?_) (by repeat (first | exact B_refl | exact Below.refl _ _ | assumption | with_reducible refine B_alloc ?_ _ | with_reducible refine B_ext ?_ _ | with_reducible refine B_drew ?_ | with_reducible refine B_drewN ?_ _ | with_reducible refine B_set ?_ (by simp; omega) _))
        rw [← HV.out, HF.out, if_pos (by assumption)]
      · go_round
        case rel => exact ⟨k + 1, by omega, by go_num, by rw [HF.out, if_neg (by simp_all)]⟩
        case measure => simp [intOf]; omega
    · rw [List.drop_eq_nil_of_le (by omega), lotIdx] at hf
      have HF := Lib.hid hf
      clear hf
      go_wp2_with fail
      go_ret
      refine Ret.of (int_eq ?_) (by repeat (first | exact B_refl | exact Below.refl _ _ | assumption | with_reducible refine B_alloc ?_ _ | with_reducible refine B_ext ?_ _ | with_reducible refine B_drew ?_ | with_reducible refine B_drewN ?_ _ | with_reducible refine B_set ?_ (by simp; omega) _))
      rw [← HV.out, HF.out]

set_option maxRecDepth 100000 in
set_option maxHeartbeats 2000000 in
theorem rOcc_any (ls : List Lot) (L : Option Addr) (ln lc : Nat) (si : ByteArray) (lv : Int) (w : World) (hl : LotsIn w ls L ln) :
    Calls Try.prog 73 #[.slice L ln lc, .string si, .int .i64 lv] w (Ret w (.bool (rOccP si lv ls))) := by
  have hln := hl.hn
  have hl1 := hl.l1
  subst hln
  generalize hT : rOccP si lv ls = T
  have HT := Lib.hid hT
  clear hT
  go_enter Try.func73, Try.ntmps73
  go_wp2_with fail
  go_loopw [7] (fun i wr => ∃ k : Nat, k ≤ ls.length ∧ i = .int .i64 k ∧ T = rOccP si lv (ls.drop k) ∧ ∃ z, wr = w.ext z) (fun i _ => ls.length - (intOf i).toNat)
  case atStart => exact ⟨0, Nat.zero_le _, rfl, HT.out.symm, ext_below (Below.refl _ _)⟩
  case round =>
    obtain ⟨k, hk, rfl, hf, z, rfl⟩ := hrel
    by_cases hlt : k < ls.length
    · rw [List.drop_eq_getElem_cons hlt, rOccP] at hf
      obtain ⟨b, off, rfl, hb, hc⟩ := hl.sl.at hlt
      have h1 : w.cell? ⟨b, off + k * 6 + 1, none⟩ = some (.int .i64 ls[k].state) := hc 1 _ rfl
      have h2 : w.cell? ⟨b, off + k * 6 + 2, none⟩ = some (.string ls[k].site) := hc 2 _ rfl
      have h3 : w.cell? ⟨b, off + k * 6 + 3, none⟩ = some (.int .i64 ls[k].level) := hc 3 _ rfl
      have HF := Lib.hid hf
      have hlt2 : (k : Int) < (ls.length : Int) := by omega
      clear hc hf
      generalize ls[k] = s at *
      obtain ⟨a, st, sn, sl, sc, sd⟩ := s
      dsimp only at h1 h2 h3 HF
      cases hs : (st == 1)
      · go_wp2_with fail
        go_roundw
        case rel => exact ⟨k + 1, by omega, by go_num, by rw [HF.out, if_neg (by simp [hs])], ext_below (by repeat (first | exact B_refl | exact Below.refl _ _ | assumption | with_reducible refine B_alloc ?_ _ | with_reducible refine B_ext ?_ _ | with_reducible refine B_drew ?_ | with_reducible refine B_drewN ?_ _ | with_reducible refine B_set ?_ (by simp; omega) _))⟩
        case measure => simp [intOf]; omega
      · cases hs2 : (sn.toList == si.toList)
        · go_wp2_with fail
          go_roundw
          case rel => exact ⟨k + 1, by omega, by go_num, by rw [HF.out, if_neg (by simp [hs2])], ext_below (by repeat (first | exact B_refl | exact Below.refl _ _ | assumption | with_reducible refine B_alloc ?_ _ | with_reducible refine B_ext ?_ _ | with_reducible refine B_drew ?_ | with_reducible refine B_drewN ?_ _ | with_reducible refine B_set ?_ (by simp; omega) _))⟩
          case measure => simp [intOf]; omega
        · cases hs3 : (sl == lv)
          · go_wp2_with fail
            go_roundw
            case rel => exact ⟨k + 1, by omega, by go_num, by rw [HF.out, if_neg (by simp [hs3])], ext_below (by repeat (first | exact B_refl | exact Below.refl _ _ | assumption | with_reducible refine B_alloc ?_ _ | with_reducible refine B_ext ?_ _ | with_reducible refine B_drew ?_ | with_reducible refine B_drewN ?_ _ | with_reducible refine B_set ?_ (by simp; omega) _))⟩
            case measure => simp [intOf]; omega
          · go_wp2_with fail
            go_ret
            exact Ret.of (bool_eq (by rw [HF.out, if_pos (by simp [hs, hs2, hs3])])) (by repeat (first | exact B_refl | exact Below.refl _ _ | assumption | with_reducible refine B_alloc ?_ _ | with_reducible refine B_ext ?_ _ | with_reducible refine B_drew ?_ | with_reducible refine B_drewN ?_ _ | with_reducible refine B_set ?_ (by simp; omega) _))
    · rw [List.drop_eq_nil_of_le (by omega), rOccP] at hf
      have HF := Lib.hid hf
      clear hf
      go_wp2_with fail
      go_ret
      exact Ret.of (bool_eq (by rw [HF.out])) (by repeat (first | exact B_refl | exact Below.refl _ _ | assumption | with_reducible refine B_alloc ?_ _ | with_reducible refine B_ext ?_ _ | with_reducible refine B_drew ?_ | with_reducible refine B_drewN ?_ _ | with_reducible refine B_set ?_ (by simp; omega) _))

set_option maxRecDepth 100000 in
set_option maxHeartbeats 2000000 in
theorem rCov_any (ls : List Lot) (L : Option Addr) (ln lc : Nat) (nm : ByteArray) (k so d st r lv : Int) (w : World) (hl : LotsIn w ls L ln) (h1 : -1000 ≤ lv) (h2 : lv ≤ 100000) (hr : r ≤ 100000) :
    Calls Try.prog 74 #[.slice L ln lc, .agg #[.string nm, .int .i64 k, .int .i64 so, .int .i64 d, .int .i64 st, .int .i64 r], .int .i64 lv] w (Ret w (.bool (rCovP k nm r lv ls))) := by
  unfold rCovP
  generalize hT : rCovGo k nm ls (r - (lv + 1)).toNat (lv + 1) = T
  have HT := Lib.hid hT
  clear hT
  go_enter Try.func74, Try.ntmps74
  go_wp2_with fail
  obtain ⟨W0, hW0⟩ : ∃ W0, W0 = w.alloc (.cells #[.string nm, .int .i64 k, .int .i64 so, .int .i64 d, .int .i64 st, .int .i64 r] 32) := ⟨_, rfl⟩
  rw [← hW0]
  have hB : Below w.heap.size w W0 := by rw [hW0]; repeat (first | exact B_refl | exact Below.refl _ _ | assumption | with_reducible refine B_alloc ?_ _ | with_reducible refine B_ext ?_ _ | with_reducible refine B_drew ?_ | with_reducible refine B_drewN ?_ _ | with_reducible refine B_set ?_ (by simp; omega) _)
  have g0 : W0.cell? ⟨w.heap.size, 0, none⟩ = some (.string nm) := by rw [hW0]; simp [go_sem]
  have g1 : W0.cell? ⟨w.heap.size, 1, none⟩ = some (.int .i64 k) := by rw [hW0]; simp [go_sem]
  have g5 : W0.cell? ⟨w.heap.size, 5, none⟩ = some (.int .i64 r) := by rw [hW0]; simp [go_sem]
  have hz : w.heap.size < W0.heap.size := by rw [hW0]; simp
  clear hW0
  go_loopw [7] (fun i wr => ∃ n : Int, lv + 1 ≤ n ∧ n ≤ 200000 ∧ i = .int .i64 n ∧ T = rCovGo k nm ls (r - n).toNat n ∧ ∃ z, wr = W0.ext z) (fun i _ => (r - intOf i).toNat)
  case atStart => exact ⟨lv + 1, Int.le_refl _, by omega, rfl, HT.out.symm, ext_below (Below.refl _ _)⟩
  case round =>
    obtain ⟨n, hn1, hn2, rfl, hf, z, rfl⟩ := hrel
    by_cases hlt : n < r
    · obtain ⟨f, hfu⟩ : ∃ f, (r - n).toNat = f + 1 := ⟨(r - n).toNat - 1, by omega⟩
      rw [hfu, rCovGo] at hf
      have hf1 : (r - (n + 1)).toNat = f := by omega
      have HF := Lib.hid hf
      clear hf
      cases hk : (k == 0)
      · go_wp2_with fail
        go_roundw
        case rel => exact ⟨n + 1, by omega, by omega, by go_num, by rw [HF.out, if_neg (by simp [hk]), hf1], ext_below (by repeat (first | exact B_refl | exact Below.refl _ _ | assumption | with_reducible refine B_alloc ?_ _ | with_reducible refine B_ext ?_ _ | with_reducible refine B_drew ?_ | with_reducible refine B_drewN ?_ _ | with_reducible refine B_set ?_ (by simp; omega) _))⟩
        case measure => simp [intOf]; omega
      · cases ho : rOccP nm n ls
        · go_wp2_with (go_at_call 73; refine (rOcc_any ls _ _ _ _ _ _ (hl.keep (m := w.heap.size) (by repeat (first | exact B_refl | exact Below.refl _ _ | assumption | with_reducible refine B_alloc ?_ _ | with_reducible refine B_ext ?_ _ | with_reducible refine B_drew ?_ | with_reducible refine B_drewN ?_ _ | with_reducible refine B_set ?_ (by simp; omega) _)))).mono ?_; rintro e wq ⟨rfl, zq, rfl⟩; rw [ho])
          go_roundw
          case rel => exact ⟨n + 1, by omega, by omega, by go_num, by rw [HF.out, if_neg (by simp [ho]), hf1], ext_below (by repeat (first | exact B_refl | exact Below.refl _ _ | assumption | with_reducible refine B_alloc ?_ _ | with_reducible refine B_ext ?_ _ | with_reducible refine B_drew ?_ | with_reducible refine B_drewN ?_ _ | with_reducible refine B_set ?_ (by simp; omega) _))⟩
          case measure => simp [intOf]; omega
        · go_wp2_with (go_at_call 73; refine (rOcc_any ls _ _ _ _ _ _ (hl.keep (m := w.heap.size) (by repeat (first | exact B_refl | exact Below.refl _ _ | assumption | with_reducible refine B_alloc ?_ _ | with_reducible refine B_ext ?_ _ | with_reducible refine B_drew ?_ | with_reducible refine B_drewN ?_ _ | with_reducible refine B_set ?_ (by simp; omega) _)))).mono ?_; rintro e wq ⟨rfl, zq, rfl⟩; rw [ho])
          go_ret
          exact Ret.of (bool_eq (by rw [HF.out, if_pos (by simp [hk, ho])])) (by repeat (first | exact B_refl | exact Below.refl _ _ | assumption | with_reducible refine B_alloc ?_ _ | with_reducible refine B_ext ?_ _ | with_reducible refine B_drew ?_ | with_reducible refine B_drewN ?_ _ | with_reducible refine B_set ?_ (by simp; omega) _))
    · have hfu : (r - n).toNat = 0 := by omega
      rw [hfu, rCovGo] at hf
      have HF := Lib.hid hf
      clear hf
      go_wp2_with fail
      go_ret
      exact Ret.of (bool_eq (by rw [HF.out])) (by repeat (first | exact B_refl | exact Below.refl _ _ | assumption | with_reducible refine B_alloc ?_ _ | with_reducible refine B_ext ?_ _ | with_reducible refine B_drew ?_ | with_reducible refine B_drewN ?_ _ | with_reducible refine B_set ?_ (by simp; omega) _))
end Go.Proofs.Ytmiobhlgpjjbgaa
