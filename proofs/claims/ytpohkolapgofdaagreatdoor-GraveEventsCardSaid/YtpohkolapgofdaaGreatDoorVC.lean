/- Walk of the law GraveEvents. -/
import Derived.Test.YtpohkolapgofdaaGreatDoorTZ
namespace Go.Proofs.YtpohkolapgofdaaGreatDoor
open Go.RowKit
attribute [local go_sem] World.cell?_alloc_mark ext_size ext_cell ext_frozen lt_add_r lt_add_r2 lt_add_r3 lt_add_r4 lt_add_r5 lt_add_r6 lt_add_r7 lt_add_r8
attribute [local go_sem] ext_setCell alloc_setCell_lt

theorem join_len (sep : Bs) : ∀ (r : List Bs) (x : Bs), (Lib.join (x :: r) sep).length = x.length + (r.map fun y => sep.length + y.length).sum
  | [], x => by rw [Lib.join_cons]; simp [Lib.joinTail]
  | y :: r, x => by
    have ih := join_len sep r y
    have hj : Lib.joinTail sep (y :: r) = sep ++ y ++ Lib.joinTail sep r := rfl
    rw [Lib.join_cons] at ih ⊢
    rw [hj]
    simp only [List.length_append, List.map_cons, List.sum_cons] at ih ⊢
    omega
theorem fmt_len {e : Event} (h : OkE e) (hs : e.site.size ≤ 1000) (hr : e.remain.size ≤ 1000) : (fmtB e).length ≤ e.site.size + e.remain.size + 100 := by
  obtain ⟨dy, kd, si, lv, rm, co, od⟩ := e
  obtain ⟨hd, hk, hrm, hsi, hlv, hco, hn, hf, ho⟩ := h
  dsimp only at *
  have hkk : kd = 0 ∨ kd = 1 ∨ kd = 2 ∨ kd = 3 ∨ kd = 4 := by omega
  have h1 := itoa_small (n := dy) (by omega) (by omega)
  have l1 : (bs si).length = si.size := bs_len si
  have l2 : (bs rm).length = rm.size := bs_len rm
  unfold fmtB lineW midW
  rcases hkk with rfl | rfl | rfl | rfl | rfl
  · have h2 := hlv (by simp)
    have h3 := hco (by simp)
    have h2 := itoa_small (n := lv) (by omega) (by omega)
    have h3 := itoa_small (n := co) (by omega) (by omega)
    cases od <;> simp [join_len, kindsB, buryB, orderB] <;> omega
  · cases od <;> simp [join_len, kindsB, exhumeB, orderB] <;> omega
  · have h2 := hlv (by simp)
    have h3 := hco (by simp)
    have h2 := itoa_small (n := lv) (by omega) (by omega)
    have h3 := itoa_small (n := co) (by omega) (by omega)
    cases od <;> simp [join_len, kindsB, reburyB, orderB] <;> omega
  · have h2 := hlv (by simp)
    have h2 := itoa_small (n := lv) (by omega) (by omega)
    cases od <;> simp [join_len, kindsB, lowerB, orderB] <;> omega
  · cases od <;> simp [join_len, kindsB, gatherB, orderB] <;> omega
theorem ltr9 {a b c0 c1 c2 c3 c4 c5 c6 c7 c8 : Nat} (h : a < b) : a < b + c0 + c1 + c2 + c3 + c4 + c5 + c6 + c7 + c8 := by omega
theorem ltr10 {a b c0 c1 c2 c3 c4 c5 c6 c7 c8 c9 : Nat} (h : a < b) : a < b + c0 + c1 + c2 + c3 + c4 + c5 + c6 + c7 + c8 + c9 := by omega
theorem ltr11 {a b c0 c1 c2 c3 c4 c5 c6 c7 c8 c9 c10 : Nat} (h : a < b) : a < b + c0 + c1 + c2 + c3 + c4 + c5 + c6 + c7 + c8 + c9 + c10 := by omega
theorem ltr12 {a b c0 c1 c2 c3 c4 c5 c6 c7 c8 c9 c10 c11 : Nat} (h : a < b) : a < b + c0 + c1 + c2 + c3 + c4 + c5 + c6 + c7 + c8 + c9 + c10 + c11 := by omega
theorem ltr13 {a b c0 c1 c2 c3 c4 c5 c6 c7 c8 c9 c10 c11 c12 : Nat} (h : a < b) : a < b + c0 + c1 + c2 + c3 + c4 + c5 + c6 + c7 + c8 + c9 + c10 + c11 + c12 := by omega
theorem ltr14 {a b c0 c1 c2 c3 c4 c5 c6 c7 c8 c9 c10 c11 c12 c13 : Nat} (h : a < b) : a < b + c0 + c1 + c2 + c3 + c4 + c5 + c6 + c7 + c8 + c9 + c10 + c11 + c12 + c13 := by omega
attribute [local go_sem] ltr9 ltr10 ltr11 ltr12 ltr13 ltr14
set_option maxRecDepth 100000 in
set_option maxHeartbeats 2000000 in
theorem ge_none_ok (dy k : Int) (si : ByteArray) (l : Int) (rm : ByteArray) (c : Int) (o : Bool) (s : ByteArray) (w : World) (hL : Laid w)  (HPP : Hid (∀ W, Laid W → s.size ≤ 1000 → Calls Tryz.prog 6 #[.string s] W (Ret W (parseV (none))))) (HPR : Hid (∀ W, s.size ≤ 1000 → Calls Tryz.prog 7 #[.string s] W (Ret W (parseRV (none))))) (hsi : si.size ≤ 30) (hrm : rm.size ≤ 30) (hs : s.size ≤ 100) (hd : checkEventP ⟨dy, k, si, l, rm, c, o⟩ = 0) : Calls Tryz.prog 3 #[.agg #[.int .i64 dy, .int .i64 k, .string si, .int .i64 l, .string rm, .int .i64 c, .bool o], .string s] w (Ret w (.bool true)) := by
  have hF : pFmt ⟨dy, k, si, l, rm, c, o⟩ = .tuple #[.string (toB (fmtB ⟨dy, k, si, l, rm, c, o⟩)), .int .i64 0] := by unfold pFmt; rw [hd]; rfl
  have hfl := fmt_len (ok_of hd) (by show si.size ≤ 1000; omega) (by show rm.size ≤ 1000; omega)
  dsimp only at hfl
  have hB : ∀ W, Laid W → Calls Tryz.prog 6 #[.string (toB (fmtB ⟨dy, k, si, l, rm, c, o⟩))] W (Ret W (parseV (some ⟨dy, k, si, l, rm, c, o⟩))) := fun W h => by
    have h2 := pParse_any (toB (fmtB ⟨dy, k, si, l, rm, c, o⟩)) W h (by rw [← bs_len, bs_toB]; omega)
    rw [bs_toB, parseP_fmt hd] at h2
    exact h2
  have hR : ∀ W, Calls Tryz.prog 11 #[.agg #[.int .i64 dy, .int .i64 k, .string si, .int .i64 l, .string rm, .int .i64 c, .bool o]] W (Ret W (.string (toB (fmtB ⟨dy, k, si, l, rm, c, o⟩)))) := fun W => rFormat_any dy k si l rm c o W (ok_of hd) (by omega) (by omega)
  have HF := Lib.hid hF
  have HB := Lib.hid hB
  have HR := Lib.hid hR
  have HD := Lib.hid hd
  clear hF hB hR hd hfl
  generalize toB (fmtB ⟨dy, k, si, l, rm, c, o⟩) = T at *
  go_enter Tryz.func3, Tryz.ntmps3
  go_upto_region 15 with (first
                           | (go_at_call 5; refine (awake_any _).mono ?_; rintro e wq ⟨rfl, z0, rfl⟩)
                           | (go_at_call 6; refine (HPP.out _ (hL.keep (n := w.heap.size) (by repeat (first | exact B_refl | exact Below.refl _ _ | assumption | with_reducible refine B_alloc ?_ _ | with_reducible refine B_ext ?_ _ | with_reducible refine B_drew ?_ | with_reducible refine B_drewN ?_ _ | with_reducible refine B_set ?_ (by simp; omega) _))) (by omega)).mono ?_; rintro e wq ⟨rfl, z1, rfl⟩; simp only [parseV, evV, zeroE])
                           | (go_at_call 7; refine (HPR.out _ (by omega)).mono ?_; rintro e wq ⟨rfl, z2, rfl⟩; simp only [parseRV, evV, zeroE])
                           | (go_at_call 8; refine (pFormat_any dy k si l rm c o _ (hL.keep (n := w.heap.size) (by repeat (first | exact B_refl | exact Below.refl _ _ | assumption | with_reducible refine B_alloc ?_ _ | with_reducible refine B_ext ?_ _ | with_reducible refine B_drew ?_ | with_reducible refine B_drewN ?_ _ | with_reducible refine B_set ?_ (by simp; omega) _))) (by omega) (by omega)).mono ?_; rintro e wq ⟨rfl, z3, rfl⟩; rw [HF.out])
                           | (go_at_call 9; refine (rCheckEvent_any dy k si l rm c o _ (by omega) (by omega)).mono ?_; rintro e wq ⟨rfl, z4, rfl⟩; rw [HD.out])
                           | (go_at_call 10; refine (checkEvent_any dy k si l rm c o _ (by omega) (by omega)).mono ?_; rintro e wq ⟨rfl, z5, rfl⟩; rw [HD.out])
                           | (go_at_call 11; refine (HR.out _).mono ?_; rintro e wq ⟨rfl, z7, rfl⟩))
  go_wp2_with (first
                | (go_at_call 5; refine (awake_any _).mono ?_; rintro e wq ⟨rfl, z0, rfl⟩)
                | (go_at_call 7; refine (HPR.out _ (by omega)).mono ?_; rintro e wq ⟨rfl, z2, rfl⟩; simp only [parseRV, evV, zeroE])
                | (go_at_call 8; refine (pFormat_any dy k si l rm c o _ (hL.keep (n := w.heap.size) (by repeat (first | exact B_refl | exact Below.refl _ _ | assumption | with_reducible refine B_alloc ?_ _ | with_reducible refine B_ext ?_ _ | with_reducible refine B_drew ?_ | with_reducible refine B_drewN ?_ _ | with_reducible refine B_set ?_ (by simp; omega) _))) (by omega) (by omega)).mono ?_; rintro e wq ⟨rfl, z3, rfl⟩; rw [HF.out])
                | (go_at_call 9; refine (rCheckEvent_any dy k si l rm c o _ (by omega) (by omega)).mono ?_; rintro e wq ⟨rfl, z4, rfl⟩; rw [HD.out])
                | (go_at_call 10; refine (checkEvent_any dy k si l rm c o _ (by omega) (by omega)).mono ?_; rintro e wq ⟨rfl, z5, rfl⟩; rw [HD.out])
                | (go_at_call 6; refine (HB.out _ (hL.keep (n := w.heap.size) (by repeat (first | exact B_refl | exact Below.refl _ _ | assumption | with_reducible refine B_alloc ?_ _ | with_reducible refine B_ext ?_ _ | with_reducible refine B_drew ?_ | with_reducible refine B_drewN ?_ _ | with_reducible refine B_set ?_ (by simp; omega) _)))).mono ?_; rintro e wq ⟨rfl, z6, rfl⟩; simp only [parseV, evV])
                | (go_at_call 11; refine (HR.out _).mono ?_; rintro e wq ⟨rfl, z7, rfl⟩))
  go_ret
  exact Ret.of rfl (by repeat (first | exact B_refl | exact Below.refl _ _ | assumption | with_reducible refine B_alloc ?_ _ | with_reducible refine B_ext ?_ _ | with_reducible refine B_drew ?_ | with_reducible refine B_drewN ?_ _ | with_reducible refine B_set ?_ (by simp; omega) _))
set_option maxRecDepth 100000 in
set_option maxHeartbeats 2000000 in
theorem ge_none_bad (dy k : Int) (si : ByteArray) (l : Int) (rm : ByteArray) (c : Int) (o : Bool) (s : ByteArray) (w : World) (hL : Laid w)  (HPP : Hid (∀ W, Laid W → s.size ≤ 1000 → Calls Tryz.prog 6 #[.string s] W (Ret W (parseV (none))))) (HPR : Hid (∀ W, s.size ≤ 1000 → Calls Tryz.prog 7 #[.string s] W (Ret W (parseRV (none))))) (hsi : si.size ≤ 30) (hrm : rm.size ≤ 30) (hs : s.size ≤ 100) (d : Int) (hd : ¬ d = 0) (hdd : checkEventP ⟨dy, k, si, l, rm, c, o⟩ = d) : Calls Tryz.prog 3 #[.agg #[.int .i64 dy, .int .i64 k, .string si, .int .i64 l, .string rm, .int .i64 c, .bool o], .string s] w (Ret w (.bool true)) := by
  have hF : pFmt ⟨dy, k, si, l, rm, c, o⟩ = .tuple #[.string ⟨#[]⟩, .int .i64 d] := by unfold pFmt; rw [hdd, beq_eq_false_iff_ne.2 hd]; rfl
  have HF := Lib.hid hF
  have HD := Lib.hid hdd
  clear hF hdd
  go_enter Tryz.func3, Tryz.ntmps3
  go_wp2_with (first
                | (go_at_call 5; refine (awake_any _).mono ?_; rintro e wq ⟨rfl, z0, rfl⟩)
                | (go_at_call 6; refine (HPP.out _ (hL.keep (n := w.heap.size) (by repeat (first | exact B_refl | exact Below.refl _ _ | assumption | with_reducible refine B_alloc ?_ _ | with_reducible refine B_ext ?_ _ | with_reducible refine B_drew ?_ | with_reducible refine B_drewN ?_ _ | with_reducible refine B_set ?_ (by simp; omega) _))) (by omega)).mono ?_; rintro e wq ⟨rfl, z1, rfl⟩; simp only [parseV, evV, zeroE])
                | (go_at_call 7; refine (HPR.out _ (by omega)).mono ?_; rintro e wq ⟨rfl, z2, rfl⟩; simp only [parseRV, evV, zeroE])
                | (go_at_call 8; refine (pFormat_any dy k si l rm c o _ (hL.keep (n := w.heap.size) (by repeat (first | exact B_refl | exact Below.refl _ _ | assumption | with_reducible refine B_alloc ?_ _ | with_reducible refine B_ext ?_ _ | with_reducible refine B_drew ?_ | with_reducible refine B_drewN ?_ _ | with_reducible refine B_set ?_ (by simp; omega) _))) (by omega) (by omega)).mono ?_; rintro e wq ⟨rfl, z3, rfl⟩; rw [HF.out])
                | (go_at_call 9; refine (rCheckEvent_any dy k si l rm c o _ (by omega) (by omega)).mono ?_; rintro e wq ⟨rfl, z4, rfl⟩; rw [HD.out])
                | (go_at_call 10; refine (checkEvent_any dy k si l rm c o _ (by omega) (by omega)).mono ?_; rintro e wq ⟨rfl, z5, rfl⟩; rw [HD.out])
                | (go_at_call 11; refine (HR.out _).mono ?_; rintro e wq ⟨rfl, z7, rfl⟩))
  go_ret
  exact Ret.of rfl (by repeat (first | exact B_refl | exact Below.refl _ _ | assumption | with_reducible refine B_alloc ?_ _ | with_reducible refine B_ext ?_ _ | with_reducible refine B_drew ?_ | with_reducible refine B_drewN ?_ _ | with_reducible refine B_set ?_ (by simp; omega) _))
set_option maxRecDepth 100000 in
set_option maxHeartbeats 2000000 in
theorem ge_some_ok (dy k : Int) (si : ByteArray) (l : Int) (rm : ByteArray) (c : Int) (o : Bool) (s : ByteArray) (w : World) (hL : Laid w) (x0 x1 : Int) (x2 : ByteArray) (x3 : Int) (x4 : ByteArray) (x5 : Int) (x6 : Bool) (HPP : Hid (∀ W, Laid W → s.size ≤ 1000 → Calls Tryz.prog 6 #[.string s] W (Ret W (parseV (some ⟨x0, x1, x2, x3, x4, x5, x6⟩))))) (HPR : Hid (∀ W, s.size ≤ 1000 → Calls Tryz.prog 7 #[.string s] W (Ret W (parseRV (some ⟨x0, x1, x2, x3, x4, x5, x6⟩))))) (hsi : si.size ≤ 30) (hrm : rm.size ≤ 30) (hs : s.size ≤ 100) (hd : checkEventP ⟨dy, k, si, l, rm, c, o⟩ = 0) : Calls Tryz.prog 3 #[.agg #[.int .i64 dy, .int .i64 k, .string si, .int .i64 l, .string rm, .int .i64 c, .bool o], .string s] w (Ret w (.bool true)) := by
  have hF : pFmt ⟨dy, k, si, l, rm, c, o⟩ = .tuple #[.string (toB (fmtB ⟨dy, k, si, l, rm, c, o⟩)), .int .i64 0] := by unfold pFmt; rw [hd]; rfl
  have hfl := fmt_len (ok_of hd) (by show si.size ≤ 1000; omega) (by show rm.size ≤ 1000; omega)
  dsimp only at hfl
  have hB : ∀ W, Laid W → Calls Tryz.prog 6 #[.string (toB (fmtB ⟨dy, k, si, l, rm, c, o⟩))] W (Ret W (parseV (some ⟨dy, k, si, l, rm, c, o⟩))) := fun W h => by
    have h2 := pParse_any (toB (fmtB ⟨dy, k, si, l, rm, c, o⟩)) W h (by rw [← bs_len, bs_toB]; omega)
    rw [bs_toB, parseP_fmt hd] at h2
    exact h2
  have hR : ∀ W, Calls Tryz.prog 11 #[.agg #[.int .i64 dy, .int .i64 k, .string si, .int .i64 l, .string rm, .int .i64 c, .bool o]] W (Ret W (.string (toB (fmtB ⟨dy, k, si, l, rm, c, o⟩)))) := fun W => rFormat_any dy k si l rm c o W (ok_of hd) (by omega) (by omega)
  have HF := Lib.hid hF
  have HB := Lib.hid hB
  have HR := Lib.hid hR
  have HD := Lib.hid hd
  clear hF hB hR hd hfl
  generalize toB (fmtB ⟨dy, k, si, l, rm, c, o⟩) = T at *
  go_enter Tryz.func3, Tryz.ntmps3
  go_upto_region 15 with (first
                           | (go_at_call 5; refine (awake_any _).mono ?_; rintro e wq ⟨rfl, z0, rfl⟩)
                           | (go_at_call 6; refine (HPP.out _ (hL.keep (n := w.heap.size) (by repeat (first | exact B_refl | exact Below.refl _ _ | assumption | with_reducible refine B_alloc ?_ _ | with_reducible refine B_ext ?_ _ | with_reducible refine B_drew ?_ | with_reducible refine B_drewN ?_ _ | with_reducible refine B_set ?_ (by simp; omega) _))) (by omega)).mono ?_; rintro e wq ⟨rfl, z1, rfl⟩; simp only [parseV, evV, zeroE])
                           | (go_at_call 7; refine (HPR.out _ (by omega)).mono ?_; rintro e wq ⟨rfl, z2, rfl⟩; simp only [parseRV, evV, zeroE])
                           | (go_at_call 8; refine (pFormat_any dy k si l rm c o _ (hL.keep (n := w.heap.size) (by repeat (first | exact B_refl | exact Below.refl _ _ | assumption | with_reducible refine B_alloc ?_ _ | with_reducible refine B_ext ?_ _ | with_reducible refine B_drew ?_ | with_reducible refine B_drewN ?_ _ | with_reducible refine B_set ?_ (by simp; omega) _))) (by omega) (by omega)).mono ?_; rintro e wq ⟨rfl, z3, rfl⟩; rw [HF.out])
                           | (go_at_call 9; refine (rCheckEvent_any dy k si l rm c o _ (by omega) (by omega)).mono ?_; rintro e wq ⟨rfl, z4, rfl⟩; rw [HD.out])
                           | (go_at_call 10; refine (checkEvent_any dy k si l rm c o _ (by omega) (by omega)).mono ?_; rintro e wq ⟨rfl, z5, rfl⟩; rw [HD.out])
                           | (go_at_call 11; refine (HR.out _).mono ?_; rintro e wq ⟨rfl, z7, rfl⟩))
  go_wp2_with (first
                | (go_at_call 5; refine (awake_any _).mono ?_; rintro e wq ⟨rfl, z0, rfl⟩)
                | (go_at_call 7; refine (HPR.out _ (by omega)).mono ?_; rintro e wq ⟨rfl, z2, rfl⟩; simp only [parseRV, evV, zeroE])
                | (go_at_call 8; refine (pFormat_any dy k si l rm c o _ (hL.keep (n := w.heap.size) (by repeat (first | exact B_refl | exact Below.refl _ _ | assumption | with_reducible refine B_alloc ?_ _ | with_reducible refine B_ext ?_ _ | with_reducible refine B_drew ?_ | with_reducible refine B_drewN ?_ _ | with_reducible refine B_set ?_ (by simp; omega) _))) (by omega) (by omega)).mono ?_; rintro e wq ⟨rfl, z3, rfl⟩; rw [HF.out])
                | (go_at_call 9; refine (rCheckEvent_any dy k si l rm c o _ (by omega) (by omega)).mono ?_; rintro e wq ⟨rfl, z4, rfl⟩; rw [HD.out])
                | (go_at_call 10; refine (checkEvent_any dy k si l rm c o _ (by omega) (by omega)).mono ?_; rintro e wq ⟨rfl, z5, rfl⟩; rw [HD.out])
                | (go_at_call 6; refine (HB.out _ (hL.keep (n := w.heap.size) (by repeat (first | exact B_refl | exact Below.refl _ _ | assumption | with_reducible refine B_alloc ?_ _ | with_reducible refine B_ext ?_ _ | with_reducible refine B_drew ?_ | with_reducible refine B_drewN ?_ _ | with_reducible refine B_set ?_ (by simp; omega) _)))).mono ?_; rintro e wq ⟨rfl, z6, rfl⟩; simp only [parseV, evV])
                | (go_at_call 11; refine (HR.out _).mono ?_; rintro e wq ⟨rfl, z7, rfl⟩))
  go_ret
  exact Ret.of rfl (by repeat (first | exact B_refl | exact Below.refl _ _ | assumption | with_reducible refine B_alloc ?_ _ | with_reducible refine B_ext ?_ _ | with_reducible refine B_drew ?_ | with_reducible refine B_drewN ?_ _ | with_reducible refine B_set ?_ (by simp; omega) _))
set_option maxRecDepth 100000 in
set_option maxHeartbeats 2000000 in
theorem ge_some_bad (dy k : Int) (si : ByteArray) (l : Int) (rm : ByteArray) (c : Int) (o : Bool) (s : ByteArray) (w : World) (hL : Laid w) (x0 x1 : Int) (x2 : ByteArray) (x3 : Int) (x4 : ByteArray) (x5 : Int) (x6 : Bool) (HPP : Hid (∀ W, Laid W → s.size ≤ 1000 → Calls Tryz.prog 6 #[.string s] W (Ret W (parseV (some ⟨x0, x1, x2, x3, x4, x5, x6⟩))))) (HPR : Hid (∀ W, s.size ≤ 1000 → Calls Tryz.prog 7 #[.string s] W (Ret W (parseRV (some ⟨x0, x1, x2, x3, x4, x5, x6⟩))))) (hsi : si.size ≤ 30) (hrm : rm.size ≤ 30) (hs : s.size ≤ 100) (d : Int) (hd : ¬ d = 0) (hdd : checkEventP ⟨dy, k, si, l, rm, c, o⟩ = d) : Calls Tryz.prog 3 #[.agg #[.int .i64 dy, .int .i64 k, .string si, .int .i64 l, .string rm, .int .i64 c, .bool o], .string s] w (Ret w (.bool true)) := by
  have hF : pFmt ⟨dy, k, si, l, rm, c, o⟩ = .tuple #[.string ⟨#[]⟩, .int .i64 d] := by unfold pFmt; rw [hdd, beq_eq_false_iff_ne.2 hd]; rfl
  have HF := Lib.hid hF
  have HD := Lib.hid hdd
  clear hF hdd
  go_enter Tryz.func3, Tryz.ntmps3
  go_wp2_with (first
                | (go_at_call 5; refine (awake_any _).mono ?_; rintro e wq ⟨rfl, z0, rfl⟩)
                | (go_at_call 6; refine (HPP.out _ (hL.keep (n := w.heap.size) (by repeat (first | exact B_refl | exact Below.refl _ _ | assumption | with_reducible refine B_alloc ?_ _ | with_reducible refine B_ext ?_ _ | with_reducible refine B_drew ?_ | with_reducible refine B_drewN ?_ _ | with_reducible refine B_set ?_ (by simp; omega) _))) (by omega)).mono ?_; rintro e wq ⟨rfl, z1, rfl⟩; simp only [parseV, evV, zeroE])
                | (go_at_call 7; refine (HPR.out _ (by omega)).mono ?_; rintro e wq ⟨rfl, z2, rfl⟩; simp only [parseRV, evV, zeroE])
                | (go_at_call 8; refine (pFormat_any dy k si l rm c o _ (hL.keep (n := w.heap.size) (by repeat (first | exact B_refl | exact Below.refl _ _ | assumption | with_reducible refine B_alloc ?_ _ | with_reducible refine B_ext ?_ _ | with_reducible refine B_drew ?_ | with_reducible refine B_drewN ?_ _ | with_reducible refine B_set ?_ (by simp; omega) _))) (by omega) (by omega)).mono ?_; rintro e wq ⟨rfl, z3, rfl⟩; rw [HF.out])
                | (go_at_call 9; refine (rCheckEvent_any dy k si l rm c o _ (by omega) (by omega)).mono ?_; rintro e wq ⟨rfl, z4, rfl⟩; rw [HD.out])
                | (go_at_call 10; refine (checkEvent_any dy k si l rm c o _ (by omega) (by omega)).mono ?_; rintro e wq ⟨rfl, z5, rfl⟩; rw [HD.out])
                | (go_at_call 11; refine (HR.out _).mono ?_; rintro e wq ⟨rfl, z7, rfl⟩))
  go_ret
  exact Ret.of rfl (by repeat (first | exact B_refl | exact Below.refl _ _ | assumption | with_reducible refine B_alloc ?_ _ | with_reducible refine B_ext ?_ _ | with_reducible refine B_drew ?_ | with_reducible refine B_drewN ?_ _ | with_reducible refine B_set ?_ (by simp; omega) _))
set_option maxRecDepth 100000 in
set_option maxHeartbeats 2000000 in
theorem graveEvents_any (dy k : Int) (si : ByteArray) (l : Int) (rm : ByteArray) (c : Int) (o : Bool) (s : ByteArray) (w : World) (hL : Laid w) :
    Calls Tryz.prog 3 #[.agg #[.int .i64 dy, .int .i64 k, .string si, .int .i64 l, .string rm, .int .i64 c, .bool o], .string s] w (Ret w (.bool true)) := by
  have hpp : ∀ W, Laid W → s.size ≤ 1000 → Calls Tryz.prog 6 #[.string s] W (Ret W (parseV (parseP (bs s)))) := fun W h1 h2 => pParse_any s W h1 h2
  have hpr : ∀ W, s.size ≤ 1000 → Calls Tryz.prog 7 #[.string s] W (Ret W (parseRV (parseP (bs s)))) := fun W h2 => by rw [parse_same]; exact rParse_any s W h2
  generalize parseP (bs s) = p at *
  have HPP := Lib.hid hpp
  have HPR := Lib.hid hpr
  clear hpp hpr
  by_cases hb : si.size ≤ 30 ∧ rm.size ≤ 30 ∧ s.size ≤ 100
  · obtain ⟨hsi, hrm, hs⟩ := hb
    by_cases hd : checkEventP ⟨dy, k, si, l, rm, c, o⟩ = 0
    · cases p with
      | none => exact ge_none_ok dy k si l rm c o s w hL HPP HPR hsi hrm hs hd
      | some ev =>
        obtain ⟨x0, x1, x2, x3, x4, x5, x6⟩ := ev
        exact ge_some_ok dy k si l rm c o s w hL x0 x1 x2 x3 x4 x5 x6 HPP HPR hsi hrm hs hd
    · cases p with
      | none => exact ge_none_bad dy k si l rm c o s w hL HPP HPR hsi hrm hs _ hd rfl
      | some ev =>
        obtain ⟨x0, x1, x2, x3, x4, x5, x6⟩ := ev
        exact ge_some_bad dy k si l rm c o s w hL x0 x1 x2 x3 x4 x5 x6 HPP HPR hsi hrm hs _ hd rfl
  · go_enter Tryz.func3, Tryz.ntmps3
    go_wp2_with (first
      | (go_at_call 5; refine (awake_any _).mono ?_; rintro e wq ⟨rfl, z0, rfl⟩))
    all_goals go_ret
    all_goals exact Ret.of rfl (by repeat (first | exact B_refl | exact Below.refl _ _ | assumption | with_reducible refine B_alloc ?_ _ | with_reducible refine B_ext ?_ _ | with_reducible refine B_drew ?_ | with_reducible refine B_drewN ?_ _ | with_reducible refine B_set ?_ (by simp; omega) _))
end Go.Proofs.YtpohkolapgofdaaGreatDoor
