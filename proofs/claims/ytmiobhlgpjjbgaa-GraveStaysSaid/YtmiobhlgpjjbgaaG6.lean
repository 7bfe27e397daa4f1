/- Walk: the law GraveStays. -/
/- GraveStays: for every yard, events and name the law returns true, and the input reads as it did. No conditions. -/
import Derived.Test.YtmiobhlgpjjbgaaLK
import Derived.Test.YtmiobhlgpjjbgaaLH
import Derived.Test.YtmiobhlgpjjbgaaRows
import Derived.Test.YtmiobhlgpjjbgaaD1
namespace Go.Proofs.Ytmiobhlgpjjbgaa
open Go.RowKit
attribute [local go_sem] World.cell?_alloc_mark ext_size ext_cell ext_frozen lt_add_r lt_add_r2 lt_add_r3 lt_add_r4 lt_add_r5 lt_add_r6 lt_add_r7 lt_add_r8

theorem lt_add_r9 {a b c0 c1 c2 c3 c4 c5 c6 c7 c8 : Nat} (h : a < b) : a < b + c0 + c1 + c2 + c3 + c4 + c5 + c6 + c7 + c8 := by omega
theorem lt_add_r10 {a b c0 c1 c2 c3 c4 c5 c6 c7 c8 c9 : Nat} (h : a < b) : a < b + c0 + c1 + c2 + c3 + c4 + c5 + c6 + c7 + c8 + c9 := by omega
theorem lt_add_r11 {a b c0 c1 c2 c3 c4 c5 c6 c7 c8 c9 c10 : Nat} (h : a < b) : a < b + c0 + c1 + c2 + c3 + c4 + c5 + c6 + c7 + c8 + c9 + c10 := by omega
theorem lt_add_r12 {a b c0 c1 c2 c3 c4 c5 c6 c7 c8 c9 c10 c11 : Nat} (h : a < b) : a < b + c0 + c1 + c2 + c3 + c4 + c5 + c6 + c7 + c8 + c9 + c10 + c11 := by omega
theorem lt_add_r13 {a b c0 c1 c2 c3 c4 c5 c6 c7 c8 c9 c10 c11 c12 : Nat} (h : a < b) : a < b + c0 + c1 + c2 + c3 + c4 + c5 + c6 + c7 + c8 + c9 + c10 + c11 + c12 := by omega
theorem lt_add_r14 {a b c0 c1 c2 c3 c4 c5 c6 c7 c8 c9 c10 c11 c12 c13 : Nat} (h : a < b) : a < b + c0 + c1 + c2 + c3 + c4 + c5 + c6 + c7 + c8 + c9 + c10 + c11 + c12 + c13 := by omega
theorem lt_add_r15 {a b c0 c1 c2 c3 c4 c5 c6 c7 c8 c9 c10 c11 c12 c13 c14 : Nat} (h : a < b) : a < b + c0 + c1 + c2 + c3 + c4 + c5 + c6 + c7 + c8 + c9 + c10 + c11 + c12 + c13 + c14 := by omega
theorem lt_add_r16 {a b c0 c1 c2 c3 c4 c5 c6 c7 c8 c9 c10 c11 c12 c13 c14 c15 : Nat} (h : a < b) : a < b + c0 + c1 + c2 + c3 + c4 + c5 + c6 + c7 + c8 + c9 + c10 + c11 + c12 + c13 + c14 + c15 := by omega
attribute [local go_sem] lt_add_r9 lt_add_r10 lt_add_r11 lt_add_r12 lt_add_r13 lt_add_r14 lt_add_r15 lt_add_r16
def Bk.at (k : Bk) (A : Option Addr) (n c : Nat) (R : Option Addr) (rn rc : Nat) : Bk := ⟨A, n, c, R, rn, rc, k.c0, k.c1, k.c2, k.st, k.m, k.day⟩
theorem error_at (k : Bk) (A : Option Addr) (n c : Nat) (R : Option Addr) (rn rc : Nat) (ss : List Site) (rs : List Rest) (e : Event) : errorP (k.at A n c R rn rc) ss rs e = errorP k ss rs e := rfl
theorem adds_at (A : Option Addr) (n c : Nat) (R : Option Addr) (rn rc : Nat) (ss : List Site) (rs : List Rest) : ∀ (es : List Event) (k : Bk), (addsP ss rs (k.at A n c R rn rc) es).1.st = (addsP ss rs k es).1.st
  | [], _ => rfl
  | e :: l, k => by
    unfold addsP
    rw [error_at]
    split
    · rfl
    · exact adds_at A n c R rn rc ss rs l (addK k e (errorP k ss rs e).1)
theorem st_any {c0 c1 c2 : Int} {ss : List Site} {rs : List Rest} {es : List Event} (A : Option Addr) (n c : Nat) (R : Option Addr) (rn rc : Nat) :
    (addsP ss rs (bk0 A n c R rn rc c0 c1 c2) es).1.st = (addsP ss rs (bk0 none 0 0 none 0 0 c0 c1 c2) es).1.st := adds_at A n c R rn rc ss rs es (bk0 none 0 0 none 0 0 c0 c1 c2)
theorem name_ne {nm : ByteArray} (h : isNameP nm = true) : nm ≠ ⟨#[]⟩ := by
  rintro rfl
  revert h
  decide +kernel
section
variable {c0 c1 c2 : Int} {ss : List Site} {rs : List Rest} {es : List Event} {nm : ByteArray}
theorem stays_bad (A R : Option Addr) (n c rn rc : Nat) (h : (rCheckP c0 c1 c2 ss rs es != 0) = true) : staysR (readP ss rs (bk0 A n c R rn rc c0 c1 c2) es) nm = ([], rCheckP c0 c1 c2 ss rs es) ∧ (wsErr (readP ss rs (bk0 A n c R rn rc c0 c1 c2) es) ss nm != 0) = true ∧ wsErr (readP ss rs (bk0 A n c R rn rc c0 c1 c2) es) ss nm = rCheckP c0 c1 c2 ss rs es := by
  have h1 := (read_check ss rs A R n c rn rc c0 c1 c2 es).1
  unfold staysR wsErr
  rw [h1, if_pos h, if_pos h]
  exact ⟨rfl, h, rfl⟩
theorem stays_good (A R : Option Addr) (n c rn rc : Nat) (h : rCheckP c0 c1 c2 ss rs es = 0) :
    staysR (readP ss rs (bk0 A n c R rn rc c0 c1 c2) es) nm = (if decide ((staysP nm (addsP ss rs (bk0 none 0 0 none 0 0 c0 c1 c2) es).1.st).length = 0) then ([], 6) else (staysP nm (addsP ss rs (bk0 none 0 0 none 0 0 c0 c1 c2) es).1.st, 0)) ∧
    wsErr (readP ss rs (bk0 A n c R rn rc c0 c1 c2) es) ss nm = (if (findSite nm ss).isSome then 0 else 6) ∧ (readP ss rs (bk0 A n c R rn rc c0 c1 c2) es).1.st = (addsP ss rs (bk0 none 0 0 none 0 0 c0 c1 c2) es).1.st ∧
    ∀ x ∈ (readP ss rs (bk0 A n c R rn rc c0 c1 c2) es).1.st, PlacedS ss x.lot := by
  obtain ⟨h1, h2⟩ := read_check ss rs A R n c rn rc c0 c1 c2 es
  obtain ⟨_, _, h3, _, _, _⟩ := h2 h
  rw [h] at h1
  have h4 := st_any (c0 := c0) (c1 := c1) (c2 := c2) (ss := ss) (rs := rs) (es := es) A n c R rn rc
  unfold staysR wsErr
  rw [h1, h3, h4]
  refine ⟨by simp, by simp, rfl, ?_⟩
  exact (st_full h none none 0 0 0 0).2.1
end
theorem rows_low {w : World} {base g : Nat} {vs : List Value} {xss : List (List Stay)} (h : RowsAt w base g vs xss) : RowsAt w 0 g vs xss :=
  ⟨h.blk, Nat.zero_le _, h.len, fun i v xs h1 h2 => own_mono' (h.rows i v xs h1 h2) (Nat.zero_le _), h.apart⟩
set_option maxRecDepth 100000 in
set_option maxHeartbeats 2000000 in
theorem graveStays_any (ss : List Site) (rs : List Rest) (A R : Option Addr) (n c rn rc : Nat) (c0 c1 c2 : Int) (es : List Event) (E : Option Addr) (en ec : Nat) (nm : ByteArray) (w : World) (hy : YardRaw w ss rs A n c R rn rc) (hev : EventsRaw w es E en) (hcap : es.length ≤ ec) :
    Calls Try.prog 8 #[.agg #[.slice A n c, .slice R rn rc, .int .i64 c0, .int .i64 c1, .int .i64 c2], .slice E en ec, .string nm] w (Ret w (.bool true)) := by
  have h1 := hy.hn
  have h2 := hy.hrn
  subst h1 h2
  go_enter Try.func8, Try.ntmps8
  cases hsm : smallP ss rs
  · go_wp2_with (first
                  | (go_at_call 12; refine (awake_any _).mono ?_; rintro e wq ⟨rfl, za, rfl⟩)
                  | (go_at_call 13; refine (small_any ss rs _ _ _ _ _ _ _ _ _ _ (hy.keep (m := w.heap.size) (by repeat (first | exact B_refl | exact Below.refl _ _ | assumption | with_reducible refine B_alloc ?_ _ | with_reducible refine B_ext ?_ _ | with_reducible refine B_drew ?_ | with_reducible refine B_drewN ?_ _ | with_reducible refine B_set ?_ (by simp; omega) _)))).mono ?_; rintro e wq ⟨rfl, zs, rfl⟩; rw [hsm])
                  | (go_at_call 19; refine (few_any es _ _ _ _ (hev.keep (m := w.heap.size) (by repeat (first | exact B_refl | exact Below.refl _ _ | assumption | with_reducible refine B_alloc ?_ _ | with_reducible refine B_ext ?_ _ | with_reducible refine B_drew ?_ | with_reducible refine B_drewN ?_ _ | with_reducible refine B_set ?_ (by simp; omega) _)))).mono ?_; rintro e wq ⟨rfl, zf, rfl⟩; rw [hfw])
                  | (go_at_call 17; refine (copyYard_any ss rs _ _ _ _ _ _ _ _ _ _ (hyi.keep (m := w.heap.size) (by repeat (first | exact B_refl | exact Below.refl _ _ | assumption | with_reducible refine B_alloc ?_ _ | with_reducible refine B_ext ?_ _ | with_reducible refine B_drew ?_ | with_reducible refine B_drewN ?_ _ | with_reducible refine B_set ?_ (by simp; omega) _)))).mono ?_; intro e wq hq; obtain ⟨A2, k2, R2, r2, rfl, hy2, zc, rfl⟩ := hq.form hc63 hc43 hyi.sh; clear hq)
                  | (go_at_call 34; refine (copyEvents_any es E es.length ec _ (hei.keep (m := w.heap.size) (by repeat (first | exact B_refl | exact Below.refl _ _ | assumption | with_reducible refine B_alloc ?_ _ | with_reducible refine B_ext ?_ _ | with_reducible refine B_drew ?_ | with_reducible refine B_drewN ?_ _ | with_reducible refine B_set ?_ (by simp; omega) _)))).mono ?_; intro e wq hq; obtain ⟨E2, k3, ze, rfl, rfl, he2⟩ := hq.form hel3 hei.sh; clear hq)
                  | (go_at_call 22; refine (HST _ _ _ _ _ _ _ _ _ (hy2.keep (by repeat (first | exact B_refl | exact Below.refl _ _ | assumption | with_reducible refine B_alloc ?_ _ | with_reducible refine B_ext ?_ _ | with_reducible refine B_drew ?_ | with_reducible refine B_drewN ?_ _ | with_reducible refine B_set ?_ (by simp; omega) _))) (he2.keep (by repeat (first | exact B_refl | exact Below.refl _ _ | assumption | with_reducible refine B_alloc ?_ _ | with_reducible refine B_ext ?_ _ | with_reducible refine B_drew ?_ | with_reducible refine B_drewN ?_ _ | with_reducible refine B_set ?_ (by simp; omega) _)))).mono ?_; rintro e wq ⟨v, rfl, hown1, zd1, rfl⟩; dsimp only at hown1; obtain ⟨F, fc, rfl, hSF, _⟩ := own_sl stay_len hown1; clear hown1 hy2 he2)
                  | (go_at_call 42; refine (HLV _ _ _ _ _ _ _ _ _ (hy2.keep (by repeat (first | exact B_refl | exact Below.refl _ _ | assumption | with_reducible refine B_alloc ?_ _ | with_reducible refine B_ext ?_ _ | with_reducible refine B_drew ?_ | with_reducible refine B_drewN ?_ _ | with_reducible refine B_set ?_ (by simp; omega) _))) (he2.keep (by repeat (first | exact B_refl | exact Below.refl _ _ | assumption | with_reducible refine B_alloc ?_ _ | with_reducible refine B_ext ?_ _ | with_reducible refine B_drew ?_ | with_reducible refine B_drewN ?_ _ | with_reducible refine B_set ?_ (by simp; omega) _)))).mono ?_; rintro e wq ⟨rfl, zd2, rfl⟩; clear hy2 he2)
                  | (go_at_call 20; refine (rCheck_any ss rs _ _ _ _ _ _ _ _ _ es _ _ _ _ (hyi.keep (m := w.heap.size) (by repeat (first | exact B_refl | exact Below.refl _ _ | assumption | with_reducible refine B_alloc ?_ _ | with_reducible refine B_ext ?_ _ | with_reducible refine B_drew ?_ | with_reducible refine B_drewN ?_ _ | with_reducible refine B_set ?_ (by simp; omega) _))) (hei.keep (m := w.heap.size) (by repeat (first | exact B_refl | exact Below.refl _ _ | assumption | with_reducible refine B_alloc ?_ _ | with_reducible refine B_ext ?_ _ | with_reducible refine B_drew ?_ | with_reducible refine B_drewN ?_ _ | with_reducible refine B_set ?_ (by simp; omega) _)))).mono ?_; rintro e wq ⟨rfl, zk, rfl⟩; rw [HCK.out])
                  | (go_at_call 43; refine (HRS _ (hyi.keep (m := w.heap.size) (by repeat (first | exact B_refl | exact Below.refl _ _ | assumption | with_reducible refine B_alloc ?_ _ | with_reducible refine B_ext ?_ _ | with_reducible refine B_drew ?_ | with_reducible refine B_drewN ?_ _ | with_reducible refine B_set ?_ (by simp; omega) _))) (hei.keep (m := w.heap.size) (by repeat (first | exact B_refl | exact Below.refl _ _ | assumption | with_reducible refine B_alloc ?_ _ | with_reducible refine B_ext ?_ _ | with_reducible refine B_drew ?_ | with_reducible refine B_drewN ?_ _ | with_reducible refine B_set ?_ (by simp; omega) _)))).mono ?_; rintro e wq ⟨v3, rfl, hown3, zr, rfl⟩; obtain ⟨F2, fc2, rfl, hSF2, _⟩ := own_sl stay_len hown3; clear hown3)
                  | (go_at_call 44; refine (sameStays_any us _ _ _ _ _ (hSF.keep (by repeat (first | exact B_refl | exact Below.refl _ _ | assumption | with_reducible refine B_alloc ?_ _ | with_reducible refine B_ext ?_ _ | with_reducible refine B_drew ?_ | with_reducible refine B_drewN ?_ _ | with_reducible refine B_set ?_ (by simp; omega) _))) (hSF2.keep (by repeat (first | exact B_refl | exact Below.refl _ _ | assumption | with_reducible refine B_alloc ?_ _ | with_reducible refine B_ext ?_ _ | with_reducible refine B_drew ?_ | with_reducible refine B_drewN ?_ _ | with_reducible refine B_set ?_ (by simp; omega) _))) hul).mono ?_; rintro e wq ⟨rfl, zu, rfl⟩)
                  | (go_at_call 27; refine (rSite_any ss rs _ _ _ _ _ _ _ _ _ _ _ (hyi.keep (m := w.heap.size) (by repeat (first | exact B_refl | exact Below.refl _ _ | assumption | with_reducible refine B_alloc ?_ _ | with_reducible refine B_ext ?_ _ | with_reducible refine B_drew ?_ | with_reducible refine B_drewN ?_ _ | with_reducible refine B_set ?_ (by simp; omega) _)))).mono ?_; rintro e wq ⟨rfl, zt, rfl⟩; rw [hsi])
                  | (go_at_call 45; refine (HRL _ (hyi.keep (m := w.heap.size) (by repeat (first | exact B_refl | exact Below.refl _ _ | assumption | with_reducible refine B_alloc ?_ _ | with_reducible refine B_ext ?_ _ | with_reducible refine B_drew ?_ | with_reducible refine B_drewN ?_ _ | with_reducible refine B_set ?_ (by simp; omega) _))) (hei.keep (m := w.heap.size) (by repeat (first | exact B_refl | exact Below.refl _ _ | assumption | with_reducible refine B_alloc ?_ _ | with_reducible refine B_ext ?_ _ | with_reducible refine B_drew ?_ | with_reducible refine B_drewN ?_ _ | with_reducible refine B_set ?_ (by simp; omega) _)))).mono ?_; rintro e wq ⟨LG2, lvs2, rfl, hRL2, zl, rfl⟩))
    go_ret
    exact Ret.of rfl (by repeat (first | exact B_refl | exact Below.refl _ _ | assumption | with_reducible refine B_alloc ?_ _ | with_reducible refine B_ext ?_ _ | with_reducible refine B_drew ?_ | with_reducible refine B_drewN ?_ _ | with_reducible refine B_set ?_ (by simp; omega) _))
  obtain ⟨hyi, hyl1, hyl2⟩ := small_yard hy hsm
  cases hfw : fewP es
  · go_wp2_with (first
                  | (go_at_call 12; refine (awake_any _).mono ?_; rintro e wq ⟨rfl, za, rfl⟩)
                  | (go_at_call 13; refine (small_any ss rs _ _ _ _ _ _ _ _ _ _ (hy.keep (m := w.heap.size) (by repeat (first | exact B_refl | exact Below.refl _ _ | assumption | with_reducible refine B_alloc ?_ _ | with_reducible refine B_ext ?_ _ | with_reducible refine B_drew ?_ | with_reducible refine B_drewN ?_ _ | with_reducible refine B_set ?_ (by simp; omega) _)))).mono ?_; rintro e wq ⟨rfl, zs, rfl⟩; rw [hsm])
                  | (go_at_call 19; refine (few_any es _ _ _ _ (hev.keep (m := w.heap.size) (by repeat (first | exact B_refl | exact Below.refl _ _ | assumption | with_reducible refine B_alloc ?_ _ | with_reducible refine B_ext ?_ _ | with_reducible refine B_drew ?_ | with_reducible refine B_drewN ?_ _ | with_reducible refine B_set ?_ (by simp; omega) _)))).mono ?_; rintro e wq ⟨rfl, zf, rfl⟩; rw [hfw])
                  | (go_at_call 17; refine (copyYard_any ss rs _ _ _ _ _ _ _ _ _ _ (hyi.keep (m := w.heap.size) (by repeat (first | exact B_refl | exact Below.refl _ _ | assumption | with_reducible refine B_alloc ?_ _ | with_reducible refine B_ext ?_ _ | with_reducible refine B_drew ?_ | with_reducible refine B_drewN ?_ _ | with_reducible refine B_set ?_ (by simp; omega) _)))).mono ?_; intro e wq hq; obtain ⟨A2, k2, R2, r2, rfl, hy2, zc, rfl⟩ := hq.form hc63 hc43 hyi.sh; clear hq)
                  | (go_at_call 34; refine (copyEvents_any es E es.length ec _ (hei.keep (m := w.heap.size) (by repeat (first | exact B_refl | exact Below.refl _ _ | assumption | with_reducible refine B_alloc ?_ _ | with_reducible refine B_ext ?_ _ | with_reducible refine B_drew ?_ | with_reducible refine B_drewN ?_ _ | with_reducible refine B_set ?_ (by simp; omega) _)))).mono ?_; intro e wq hq; obtain ⟨E2, k3, ze, rfl, rfl, he2⟩ := hq.form hel3 hei.sh; clear hq)
                  | (go_at_call 22; refine (HST _ _ _ _ _ _ _ _ _ (hy2.keep (by repeat (first | exact B_refl | exact Below.refl _ _ | assumption | with_reducible refine B_alloc ?_ _ | with_reducible refine B_ext ?_ _ | with_reducible refine B_drew ?_ | with_reducible refine B_drewN ?_ _ | with_reducible refine B_set ?_ (by simp; omega) _))) (he2.keep (by repeat (first | exact B_refl | exact Below.refl _ _ | assumption | with_reducible refine B_alloc ?_ _ | with_reducible refine B_ext ?_ _ | with_reducible refine B_drew ?_ | with_reducible refine B_drewN ?_ _ | with_reducible refine B_set ?_ (by simp; omega) _)))).mono ?_; rintro e wq ⟨v, rfl, hown1, zd1, rfl⟩; dsimp only at hown1; obtain ⟨F, fc, rfl, hSF, _⟩ := own_sl stay_len hown1; clear hown1 hy2 he2)
                  | (go_at_call 42; refine (HLV _ _ _ _ _ _ _ _ _ (hy2.keep (by repeat (first | exact B_refl | exact Below.refl _ _ | assumption | with_reducible refine B_alloc ?_ _ | with_reducible refine B_ext ?_ _ | with_reducible refine B_drew ?_ | with_reducible refine B_drewN ?_ _ | with_reducible refine B_set ?_ (by simp; omega) _))) (he2.keep (by repeat (first | exact B_refl | exact Below.refl _ _ | assumption | with_reducible refine B_alloc ?_ _ | with_reducible refine B_ext ?_ _ | with_reducible refine B_drew ?_ | with_reducible refine B_drewN ?_ _ | with_reducible refine B_set ?_ (by simp; omega) _)))).mono ?_; rintro e wq ⟨rfl, zd2, rfl⟩; clear hy2 he2)
                  | (go_at_call 20; refine (rCheck_any ss rs _ _ _ _ _ _ _ _ _ es _ _ _ _ (hyi.keep (m := w.heap.size) (by repeat (first | exact B_refl | exact Below.refl _ _ | assumption | with_reducible refine B_alloc ?_ _ | with_reducible refine B_ext ?_ _ | with_reducible refine B_drew ?_ | with_reducible refine B_drewN ?_ _ | with_reducible refine B_set ?_ (by simp; omega) _))) (hei.keep (m := w.heap.size) (by repeat (first | exact B_refl | exact Below.refl _ _ | assumption | with_reducible refine B_alloc ?_ _ | with_reducible refine B_ext ?_ _ | with_reducible refine B_drew ?_ | with_reducible refine B_drewN ?_ _ | with_reducible refine B_set ?_ (by simp; omega) _)))).mono ?_; rintro e wq ⟨rfl, zk, rfl⟩; rw [HCK.out])
                  | (go_at_call 43; refine (HRS _ (hyi.keep (m := w.heap.size) (by repeat (first | exact B_refl | exact Below.refl _ _ | assumption | with_reducible refine B_alloc ?_ _ | with_reducible refine B_ext ?_ _ | with_reducible refine B_drew ?_ | with_reducible refine B_drewN ?_ _ | with_reducible refine B_set ?_ (by simp; omega) _))) (hei.keep (m := w.heap.size) (by repeat (first | exact B_refl | exact Below.refl _ _ | assumption | with_reducible refine B_alloc ?_ _ | with_reducible refine B_ext ?_ _ | with_reducible refine B_drew ?_ | with_reducible refine B_drewN ?_ _ | with_reducible refine B_set ?_ (by simp; omega) _)))).mono ?_; rintro e wq ⟨v3, rfl, hown3, zr, rfl⟩; obtain ⟨F2, fc2, rfl, hSF2, _⟩ := own_sl stay_len hown3; clear hown3)
                  | (go_at_call 44; refine (sameStays_any us _ _ _ _ _ (hSF.keep (by repeat (first | exact B_refl | exact Below.refl _ _ | assumption | with_reducible refine B_alloc ?_ _ | with_reducible refine B_ext ?_ _ | with_reducible refine B_drew ?_ | with_reducible refine B_drewN ?_ _ | with_reducible refine B_set ?_ (by simp; omega) _))) (hSF2.keep (by repeat (first | exact B_refl | exact Below.refl _ _ | assumption | with_reducible refine B_alloc ?_ _ | with_reducible refine B_ext ?_ _ | with_reducible refine B_drew ?_ | with_reducible refine B_drewN ?_ _ | with_reducible refine B_set ?_ (by simp; omega) _))) hul).mono ?_; rintro e wq ⟨rfl, zu, rfl⟩)
                  | (go_at_call 27; refine (rSite_any ss rs _ _ _ _ _ _ _ _ _ _ _ (hyi.keep (m := w.heap.size) (by repeat (first | exact B_refl | exact Below.refl _ _ | assumption | with_reducible refine B_alloc ?_ _ | with_reducible refine B_ext ?_ _ | with_reducible refine B_drew ?_ | with_reducible refine B_drewN ?_ _ | with_reducible refine B_set ?_ (by simp; omega) _)))).mono ?_; rintro e wq ⟨rfl, zt, rfl⟩; rw [hsi])
                  | (go_at_call 45; refine (HRL _ (hyi.keep (m := w.heap.size) (by repeat (first | exact B_refl | exact Below.refl _ _ | assumption | with_reducible refine B_alloc ?_ _ | with_reducible refine B_ext ?_ _ | with_reducible refine B_drew ?_ | with_reducible refine B_drewN ?_ _ | with_reducible refine B_set ?_ (by simp; omega) _))) (hei.keep (m := w.heap.size) (by repeat (first | exact B_refl | exact Below.refl _ _ | assumption | with_reducible refine B_alloc ?_ _ | with_reducible refine B_ext ?_ _ | with_reducible refine B_drew ?_ | with_reducible refine B_drewN ?_ _ | with_reducible refine B_set ?_ (by simp; omega) _)))).mono ?_; rintro e wq ⟨LG2, lvs2, rfl, hRL2, zl, rfl⟩))
    go_ret
    exact Ret.of rfl (by repeat (first | exact B_refl | exact Below.refl _ _ | assumption | with_reducible refine B_alloc ?_ _ | with_reducible refine B_ext ?_ _ | with_reducible refine B_drew ?_ | with_reducible refine B_drewN ?_ _ | with_reducible refine B_set ?_ (by simp; omega) _))
  obtain ⟨hei, hel1, hel2⟩ := few_events hev hfw
  have hen := hei.hn
  subst hen
  by_cases hnl : 30 < (nm.size : Int)
  · go_wp2_with (first
                  | (go_at_call 12; refine (awake_any _).mono ?_; rintro e wq ⟨rfl, za, rfl⟩)
                  | (go_at_call 13; refine (small_any ss rs _ _ _ _ _ _ _ _ _ _ (hy.keep (m := w.heap.size) (by repeat (first | exact B_refl | exact Below.refl _ _ | assumption | with_reducible refine B_alloc ?_ _ | with_reducible refine B_ext ?_ _ | with_reducible refine B_drew ?_ | with_reducible refine B_drewN ?_ _ | with_reducible refine B_set ?_ (by simp; omega) _)))).mono ?_; rintro e wq ⟨rfl, zs, rfl⟩; rw [hsm])
                  | (go_at_call 19; refine (few_any es _ _ _ _ (hev.keep (m := w.heap.size) (by repeat (first | exact B_refl | exact Below.refl _ _ | assumption | with_reducible refine B_alloc ?_ _ | with_reducible refine B_ext ?_ _ | with_reducible refine B_drew ?_ | with_reducible refine B_drewN ?_ _ | with_reducible refine B_set ?_ (by simp; omega) _)))).mono ?_; rintro e wq ⟨rfl, zf, rfl⟩; rw [hfw])
                  | (go_at_call 17; refine (copyYard_any ss rs _ _ _ _ _ _ _ _ _ _ (hyi.keep (m := w.heap.size) (by repeat (first | exact B_refl | exact Below.refl _ _ | assumption | with_reducible refine B_alloc ?_ _ | with_reducible refine B_ext ?_ _ | with_reducible refine B_drew ?_ | with_reducible refine B_drewN ?_ _ | with_reducible refine B_set ?_ (by simp; omega) _)))).mono ?_; intro e wq hq; obtain ⟨A2, k2, R2, r2, rfl, hy2, zc, rfl⟩ := hq.form hc63 hc43 hyi.sh; clear hq)
                  | (go_at_call 34; refine (copyEvents_any es E es.length ec _ (hei.keep (m := w.heap.size) (by repeat (first | exact B_refl | exact Below.refl _ _ | assumption | with_reducible refine B_alloc ?_ _ | with_reducible refine B_ext ?_ _ | with_reducible refine B_drew ?_ | with_reducible refine B_drewN ?_ _ | with_reducible refine B_set ?_ (by simp; omega) _)))).mono ?_; intro e wq hq; obtain ⟨E2, k3, ze, rfl, rfl, he2⟩ := hq.form hel3 hei.sh; clear hq)
                  | (go_at_call 22; refine (HST _ _ _ _ _ _ _ _ _ (hy2.keep (by repeat (first | exact B_refl | exact Below.refl _ _ | assumption | with_reducible refine B_alloc ?_ _ | with_reducible refine B_ext ?_ _ | with_reducible refine B_drew ?_ | with_reducible refine B_drewN ?_ _ | with_reducible refine B_set ?_ (by simp; omega) _))) (he2.keep (by repeat (first | exact B_refl | exact Below.refl _ _ | assumption | with_reducible refine B_alloc ?_ _ | with_reducible refine B_ext ?_ _ | with_reducible refine B_drew ?_ | with_reducible refine B_drewN ?_ _ | with_reducible refine B_set ?_ (by simp; omega) _)))).mono ?_; rintro e wq ⟨v, rfl, hown1, zd1, rfl⟩; dsimp only at hown1; obtain ⟨F, fc, rfl, hSF, _⟩ := own_sl stay_len hown1; clear hown1 hy2 he2)
                  | (go_at_call 42; refine (HLV _ _ _ _ _ _ _ _ _ (hy2.keep (by repeat (first | exact B_refl | exact Below.refl _ _ | assumption | with_reducible refine B_alloc ?_ _ | with_reducible refine B_ext ?_ _ | with_reducible refine B_drew ?_ | with_reducible refine B_drewN ?_ _ | with_reducible refine B_set ?_ (by simp; omega) _))) (he2.keep (by repeat (first | exact B_refl | exact Below.refl _ _ | assumption | with_reducible refine B_alloc ?_ _ | with_reducible refine B_ext ?_ _ | with_reducible refine B_drew ?_ | with_reducible refine B_drewN ?_ _ | with_reducible refine B_set ?_ (by simp; omega) _)))).mono ?_; rintro e wq ⟨rfl, zd2, rfl⟩; clear hy2 he2)
                  | (go_at_call 20; refine (rCheck_any ss rs _ _ _ _ _ _ _ _ _ es _ _ _ _ (hyi.keep (m := w.heap.size) (by repeat (first | exact B_refl | exact Below.refl _ _ | assumption | with_reducible refine B_alloc ?_ _ | with_reducible refine B_ext ?_ _ | with_reducible refine B_drew ?_ | with_reducible refine B_drewN ?_ _ | with_reducible refine B_set ?_ (by simp; omega) _))) (hei.keep (m := w.heap.size) (by repeat (first | exact B_refl | exact Below.refl _ _ | assumption | with_reducible refine B_alloc ?_ _ | with_reducible refine B_ext ?_ _ | with_reducible refine B_drew ?_ | with_reducible refine B_drewN ?_ _ | with_reducible refine B_set ?_ (by simp; omega) _)))).mono ?_; rintro e wq ⟨rfl, zk, rfl⟩; rw [HCK.out])
                  | (go_at_call 43; refine (HRS _ (hyi.keep (m := w.heap.size) (by repeat (first | exact B_refl | exact Below.refl _ _ | assumption | with_reducible refine B_alloc ?_ _ | with_reducible refine B_ext ?_ _ | with_reducible refine B_drew ?_ | with_reducible refine B_drewN ?_ _ | with_reducible refine B_set ?_ (by simp; omega) _))) (hei.keep (m := w.heap.size) (by repeat (first | exact B_refl | exact Below.refl _ _ | assumption | with_reducible refine B_alloc ?_ _ | with_reducible refine B_ext ?_ _ | with_reducible refine B_drew ?_ | with_reducible refine B_drewN ?_ _ | with_reducible refine B_set ?_ (by simp; omega) _)))).mono ?_; rintro e wq ⟨v3, rfl, hown3, zr, rfl⟩; obtain ⟨F2, fc2, rfl, hSF2, _⟩ := own_sl stay_len hown3; clear hown3)
                  | (go_at_call 44; refine (sameStays_any us _ _ _ _ _ (hSF.keep (by repeat (first | exact B_refl | exact Below.refl _ _ | assumption | with_reducible refine B_alloc ?_ _ | with_reducible refine B_ext ?_ _ | with_reducible refine B_drew ?_ | with_reducible refine B_drewN ?_ _ | with_reducible refine B_set ?_ (by simp; omega) _))) (hSF2.keep (by repeat (first | exact B_refl | exact Below.refl _ _ | assumption | with_reducible refine B_alloc ?_ _ | with_reducible refine B_ext ?_ _ | with_reducible refine B_drew ?_ | with_reducible refine B_drewN ?_ _ | with_reducible refine B_set ?_ (by simp; omega) _))) hul).mono ?_; rintro e wq ⟨rfl, zu, rfl⟩)
                  | (go_at_call 27; refine (rSite_any ss rs _ _ _ _ _ _ _ _ _ _ _ (hyi.keep (m := w.heap.size) (by repeat (first | exact B_refl | exact Below.refl _ _ | assumption | with_reducible refine B_alloc ?_ _ | with_reducible refine B_ext ?_ _ | with_reducible refine B_drew ?_ | with_reducible refine B_drewN ?_ _ | with_reducible refine B_set ?_ (by simp; omega) _)))).mono ?_; rintro e wq ⟨rfl, zt, rfl⟩; rw [hsi])
                  | (go_at_call 45; refine (HRL _ (hyi.keep (m := w.heap.size) (by repeat (first | exact B_refl | exact Below.refl _ _ | assumption | with_reducible refine B_alloc ?_ _ | with_reducible refine B_ext ?_ _ | with_reducible refine B_drew ?_ | with_reducible refine B_drewN ?_ _ | with_reducible refine B_set ?_ (by simp; omega) _))) (hei.keep (m := w.heap.size) (by repeat (first | exact B_refl | exact Below.refl _ _ | assumption | with_reducible refine B_alloc ?_ _ | with_reducible refine B_ext ?_ _ | with_reducible refine B_drew ?_ | with_reducible refine B_drewN ?_ _ | with_reducible refine B_set ?_ (by simp; omega) _)))).mono ?_; rintro e wq ⟨LG2, lvs2, rfl, hRL2, zl, rfl⟩))
    go_ret
    exact Ret.of rfl (by repeat (first | exact B_refl | exact Below.refl _ _ | assumption | with_reducible refine B_alloc ?_ _ | with_reducible refine B_ext ?_ _ | with_reducible refine B_drew ?_ | with_reducible refine B_drewN ?_ _ | with_reducible refine B_set ?_ (by simp; omega) _))
  have hc63 : ss.length ≤ 100000 := by omega
  have hc43 : rs.length ≤ 100000 := by omega
  have hel3 : es.length ≤ 100000 := by omega
  have HCAP := Lib.hid hcap
  clear hcap
  have HST0 := fun A n c R rn rc E ec W h1 h2 => gStays_any ss rs A R n c rn rc c0 c1 c2 es E es.length ec nm W h1 h2
  unfold StaysPost at HST0
  obtain ⟨X, hX⟩ : ∃ X, rCheckP c0 c1 c2 ss rs es = X := ⟨_, rfl⟩
  have HCK := Lib.hid hX
  cases hX0 : (X != 0)
  rotate_left
  · have hXX : (rCheckP c0 c1 c2 ss rs es != 0) = true := by rw [hX]; exact hX0
    have HLV : ∀ A n c R rn rc E ec W, YardIn W ss rs A n c R rn rc → EventsIn W es E es.length → Calls Try.prog 42 #[.agg #[.slice A n c, .slice R rn rc, .int .i64 c0, .int .i64 c1, .int .i64 c2], .slice E es.length ec, .string nm] W (Ret W (.tuple #[.slice none 0 0, .int .i64 X])) := fun A n c R rn rc E ec W h1 h2 => by
      obtain ⟨_, q2, q3⟩ := stays_bad (nm := nm) A R n c rn rc hXX
      have := gLevels_bad ss rs A R n c rn rc c0 c1 c2 es E es.length ec nm W h1 h2 q2
      rw [q3, hX] at this
      exact this
    have HST := HST0
    simp only [fun A R n c rn rc => (stays_bad (nm := nm) A R n c rn rc hXX).1, hX] at HST
    clear hX hXX HST0
    go_wp2_with (first
                  | (go_at_call 12; refine (awake_any _).mono ?_; rintro e wq ⟨rfl, za, rfl⟩)
                  | (go_at_call 13; refine (small_any ss rs _ _ _ _ _ _ _ _ _ _ (hy.keep (m := w.heap.size) (by repeat (first | exact B_refl | exact Below.refl _ _ | assumption | with_reducible refine B_alloc ?_ _ | with_reducible refine B_ext ?_ _ | with_reducible refine B_drew ?_ | with_reducible refine B_drewN ?_ _ | with_reducible refine B_set ?_ (by simp; omega) _)))).mono ?_; rintro e wq ⟨rfl, zs, rfl⟩; rw [hsm])
                  | (go_at_call 19; refine (few_any es _ _ _ _ (hev.keep (m := w.heap.size) (by repeat (first | exact B_refl | exact Below.refl _ _ | assumption | with_reducible refine B_alloc ?_ _ | with_reducible refine B_ext ?_ _ | with_reducible refine B_drew ?_ | with_reducible refine B_drewN ?_ _ | with_reducible refine B_set ?_ (by simp; omega) _)))).mono ?_; rintro e wq ⟨rfl, zf, rfl⟩; rw [hfw])
                  | (go_at_call 17; refine (copyYard_any ss rs _ _ _ _ _ _ _ _ _ _ (hyi.keep (m := w.heap.size) (by repeat (first | exact B_refl | exact Below.refl _ _ | assumption | with_reducible refine B_alloc ?_ _ | with_reducible refine B_ext ?_ _ | with_reducible refine B_drew ?_ | with_reducible refine B_drewN ?_ _ | with_reducible refine B_set ?_ (by simp; omega) _)))).mono ?_; intro e wq hq; obtain ⟨A2, k2, R2, r2, rfl, hy2, zc, rfl⟩ := hq.form hc63 hc43 hyi.sh; clear hq)
                  | (go_at_call 34; refine (copyEvents_any es E es.length ec _ (hei.keep (m := w.heap.size) (by repeat (first | exact B_refl | exact Below.refl _ _ | assumption | with_reducible refine B_alloc ?_ _ | with_reducible refine B_ext ?_ _ | with_reducible refine B_drew ?_ | with_reducible refine B_drewN ?_ _ | with_reducible refine B_set ?_ (by simp; omega) _)))).mono ?_; intro e wq hq; obtain ⟨E2, k3, ze, rfl, rfl, he2⟩ := hq.form hel3 hei.sh; clear hq)
                  | (go_at_call 22; refine (HST _ _ _ _ _ _ _ _ _ (hy2.keep (by repeat (first | exact B_refl | exact Below.refl _ _ | assumption | with_reducible refine B_alloc ?_ _ | with_reducible refine B_ext ?_ _ | with_reducible refine B_drew ?_ | with_reducible refine B_drewN ?_ _ | with_reducible refine B_set ?_ (by simp; omega) _))) (he2.keep (by repeat (first | exact B_refl | exact Below.refl _ _ | assumption | with_reducible refine B_alloc ?_ _ | with_reducible refine B_ext ?_ _ | with_reducible refine B_drew ?_ | with_reducible refine B_drewN ?_ _ | with_reducible refine B_set ?_ (by simp; omega) _)))).mono ?_; rintro e wq ⟨v, rfl, hown1, zd1, rfl⟩; dsimp only at hown1; obtain ⟨F, fc, rfl, hSF, _⟩ := own_sl stay_len hown1; clear hown1 hy2 he2)
                  | (go_at_call 42; refine (HLV _ _ _ _ _ _ _ _ _ (hy2.keep (by repeat (first | exact B_refl | exact Below.refl _ _ | assumption | with_reducible refine B_alloc ?_ _ | with_reducible refine B_ext ?_ _ | with_reducible refine B_drew ?_ | with_reducible refine B_drewN ?_ _ | with_reducible refine B_set ?_ (by simp; omega) _))) (he2.keep (by repeat (first | exact B_refl | exact Below.refl _ _ | assumption | with_reducible refine B_alloc ?_ _ | with_reducible refine B_ext ?_ _ | with_reducible refine B_drew ?_ | with_reducible refine B_drewN ?_ _ | with_reducible refine B_set ?_ (by simp; omega) _)))).mono ?_; rintro e wq ⟨rfl, zd2, rfl⟩; clear hy2 he2)
                  | (go_at_call 20; refine (rCheck_any ss rs _ _ _ _ _ _ _ _ _ es _ _ _ _ (hyi.keep (m := w.heap.size) (by repeat (first | exact B_refl | exact Below.refl _ _ | assumption | with_reducible refine B_alloc ?_ _ | with_reducible refine B_ext ?_ _ | with_reducible refine B_drew ?_ | with_reducible refine B_drewN ?_ _ | with_reducible refine B_set ?_ (by simp; omega) _))) (hei.keep (m := w.heap.size) (by repeat (first | exact B_refl | exact Below.refl _ _ | assumption | with_reducible refine B_alloc ?_ _ | with_reducible refine B_ext ?_ _ | with_reducible refine B_drew ?_ | with_reducible refine B_drewN ?_ _ | with_reducible refine B_set ?_ (by simp; omega) _)))).mono ?_; rintro e wq ⟨rfl, zk, rfl⟩; rw [HCK.out])
                  | (go_at_call 43; refine (HRS _ (hyi.keep (m := w.heap.size) (by repeat (first | exact B_refl | exact Below.refl _ _ | assumption | with_reducible refine B_alloc ?_ _ | with_reducible refine B_ext ?_ _ | with_reducible refine B_drew ?_ | with_reducible refine B_drewN ?_ _ | with_reducible refine B_set ?_ (by simp; omega) _))) (hei.keep (m := w.heap.size) (by repeat (first | exact B_refl | exact Below.refl _ _ | assumption | with_reducible refine B_alloc ?_ _ | with_reducible refine B_ext ?_ _ | with_reducible refine B_drew ?_ | with_reducible refine B_drewN ?_ _ | with_reducible refine B_set ?_ (by simp; omega) _)))).mono ?_; rintro e wq ⟨v3, rfl, hown3, zr, rfl⟩; obtain ⟨F2, fc2, rfl, hSF2, _⟩ := own_sl stay_len hown3; clear hown3)
                  | (go_at_call 44; refine (sameStays_any us _ _ _ _ _ (hSF.keep (by repeat (first | exact B_refl | exact Below.refl _ _ | assumption | with_reducible refine B_alloc ?_ _ | with_reducible refine B_ext ?_ _ | with_reducible refine B_drew ?_ | with_reducible refine B_drewN ?_ _ | with_reducible refine B_set ?_ (by simp; omega) _))) (hSF2.keep (by repeat (first | exact B_refl | exact Below.refl _ _ | assumption | with_reducible refine B_alloc ?_ _ | with_reducible refine B_ext ?_ _ | with_reducible refine B_drew ?_ | with_reducible refine B_drewN ?_ _ | with_reducible refine B_set ?_ (by simp; omega) _))) hul).mono ?_; rintro e wq ⟨rfl, zu, rfl⟩)
                  | (go_at_call 27; refine (rSite_any ss rs _ _ _ _ _ _ _ _ _ _ _ (hyi.keep (m := w.heap.size) (by repeat (first | exact B_refl | exact Below.refl _ _ | assumption | with_reducible refine B_alloc ?_ _ | with_reducible refine B_ext ?_ _ | with_reducible refine B_drew ?_ | with_reducible refine B_drewN ?_ _ | with_reducible refine B_set ?_ (by simp; omega) _)))).mono ?_; rintro e wq ⟨rfl, zt, rfl⟩; rw [hsi])
                  | (go_at_call 45; refine (HRL _ (hyi.keep (m := w.heap.size) (by repeat (first | exact B_refl | exact Below.refl _ _ | assumption | with_reducible refine B_alloc ?_ _ | with_reducible refine B_ext ?_ _ | with_reducible refine B_drew ?_ | with_reducible refine B_drewN ?_ _ | with_reducible refine B_set ?_ (by simp; omega) _))) (hei.keep (m := w.heap.size) (by repeat (first | exact B_refl | exact Below.refl _ _ | assumption | with_reducible refine B_alloc ?_ _ | with_reducible refine B_ext ?_ _ | with_reducible refine B_drew ?_ | with_reducible refine B_drewN ?_ _ | with_reducible refine B_set ?_ (by simp; omega) _)))).mono ?_; rintro e wq ⟨LG2, lvs2, rfl, hRL2, zl, rfl⟩))
    go_ret
    exact Ret.of rfl (by repeat (first | exact B_refl | exact Below.refl _ _ | assumption | with_reducible refine B_alloc ?_ _ | with_reducible refine B_ext ?_ _ | with_reducible refine B_drew ?_ | with_reducible refine B_drewN ?_ _ | with_reducible refine B_set ?_ (by simp; omega) _))
  have hX1 : X = 0 := by simpa using hX0
  subst hX1
  obtain ⟨_, _, _, _, h5, hes⟩ := (read_check ss rs A R ss.length c rs.length rc c0 c1 c2 es).2 hX
  have hm3 := (st_full hX none none 0 0 0 0).2.2
  have HRS := fun W h1 h2 => rStays_any ss rs A R ss.length c rs.length rc c0 c1 c2 es E es.length ec nm W h1 h2 HCAP.out hX
  simp only [hm3] at HRS
  have HST := HST0
  simp only [fun A R n c rn rc => (stays_good (nm := nm) A R n c rn rc hX).1] at HST
  clear HST0 hm3
  have hul : (staysP nm (addsP ss rs (bk0 none 0 0 none 0 0 c0 c1 c2) es).1.st).length ≤ 100000 := by
    have h6 := congrArg List.length (st_full hX none none 0 0 0 0).1
    simp only [List.length_map] at h6
    have h7 := staysP_le nm (addsP ss rs (bk0 none 0 0 none 0 0 c0 c1 c2) es).1.st
    omega
  have HST5 := Lib.hid HST
  have HSTL : Hid ((addsP ss rs (bk0 none 0 0 none 0 0 c0 c1 c2) es).1.st.length ≤ 100000) := by
    have h6 := congrArg List.length (st_full hX none none 0 0 0 0).1
    simp only [List.length_map] at h6
    show _ ≤ _
    omega
  have hws := fun A R n c rn rc => (stays_good (nm := nm) (es := es) A R n c rn rc hX).2.1
  have hrd := fun A R n c rn rc => (stays_good (nm := nm) (es := es) A R n c rn rc hX).2.2
  have hrl := fun a kd so d st N hs hN hnm => fun W h1 h2 => rLevels_any ss rs A R ss.length c rs.length rc c0 c1 c2 es E es.length ec nm a kd so d st N W h1 h2 HCAP.out hX hs hN hnm
  simp only [st_any (c0 := c0) (c1 := c1) (c2 := c2) (ss := ss) (rs := rs) (es := es) A ss.length c R rs.length rc] at hrl
  clear hX hX0
  generalize hSTd : (addsP ss rs (bk0 none 0 0 none 0 0 c0 c1 c2) es).1.st = ST at *
  clear hSTd
  cases hf : findSite nm ss with
  | none =>
    have hsi : rSiteR nm ss = -1 := by rw [rSiteR, siteIdx_none hf]
    have HLV : ∀ A n c R rn rc E ec W, YardIn W ss rs A n c R rn rc → EventsIn W es E es.length → Calls Try.prog 42 #[.agg #[.slice A n c, .slice R rn rc, .int .i64 c0, .int .i64 c1, .int .i64 c2], .slice E es.length ec, .string nm] W (Ret W (.tuple #[.slice none 0 0, .int .i64 6])) := fun A n c R rn rc E ec W h1 h2 => by
      have q3 := hws A R n c rn rc
      rw [hf, if_neg (by simp)] at q3
      have := gLevels_bad ss rs A R n c rn rc c0 c1 c2 es E es.length ec nm W h1 h2 (by rw [q3]; rfl)
      rw [q3] at this
      exact this
    clear hws hrd hrl hf h5
    generalize staysP nm ST = us at *
    by_cases hu : us.length = 0
    · have hus : us = [] := List.eq_nil_of_length_eq_zero hu
      subst hus
      simp only [List.length_nil, decide_true, if_true] at HST
      go_wp2_with (first
                    | (go_at_call 12; refine (awake_any _).mono ?_; rintro e wq ⟨rfl, za, rfl⟩)
                    | (go_at_call 13; refine (small_any ss rs _ _ _ _ _ _ _ _ _ _ (hy.keep (m := w.heap.size) (by repeat (first | exact B_refl | exact Below.refl _ _ | assumption | with_reducible refine B_alloc ?_ _ | with_reducible refine B_ext ?_ _ | with_reducible refine B_drew ?_ | with_reducible refine B_drewN ?_ _ | with_reducible refine B_set ?_ (by simp; omega) _)))).mono ?_; rintro e wq ⟨rfl, zs, rfl⟩; rw [hsm])
                    | (go_at_call 19; refine (few_any es _ _ _ _ (hev.keep (m := w.heap.size) (by repeat (first | exact B_refl | exact Below.refl _ _ | assumption | with_reducible refine B_alloc ?_ _ | with_reducible refine B_ext ?_ _ | with_reducible refine B_drew ?_ | with_reducible refine B_drewN ?_ _ | with_reducible refine B_set ?_ (by simp; omega) _)))).mono ?_; rintro e wq ⟨rfl, zf, rfl⟩; rw [hfw])
                    | (go_at_call 17; refine (copyYard_any ss rs _ _ _ _ _ _ _ _ _ _ (hyi.keep (m := w.heap.size) (by repeat (first | exact B_refl | exact Below.refl _ _ | assumption | with_reducible refine B_alloc ?_ _ | with_reducible refine B_ext ?_ _ | with_reducible refine B_drew ?_ | with_reducible refine B_drewN ?_ _ | with_reducible refine B_set ?_ (by simp; omega) _)))).mono ?_; intro e wq hq; obtain ⟨A2, k2, R2, r2, rfl, hy2, zc, rfl⟩ := hq.form hc63 hc43 hyi.sh; clear hq)
                    | (go_at_call 34; refine (copyEvents_any es E es.length ec _ (hei.keep (m := w.heap.size) (by repeat (first | exact B_refl | exact Below.refl _ _ | assumption | with_reducible refine B_alloc ?_ _ | with_reducible refine B_ext ?_ _ | with_reducible refine B_drew ?_ | with_reducible refine B_drewN ?_ _ | with_reducible refine B_set ?_ (by simp; omega) _)))).mono ?_; intro e wq hq; obtain ⟨E2, k3, ze, rfl, rfl, he2⟩ := hq.form hel3 hei.sh; clear hq)
                    | (go_at_call 22; refine (HST _ _ _ _ _ _ _ _ _ (hy2.keep (by repeat (first | exact B_refl | exact Below.refl _ _ | assumption | with_reducible refine B_alloc ?_ _ | with_reducible refine B_ext ?_ _ | with_reducible refine B_drew ?_ | with_reducible refine B_drewN ?_ _ | with_reducible refine B_set ?_ (by simp; omega) _))) (he2.keep (by repeat (first | exact B_refl | exact Below.refl _ _ | assumption | with_reducible refine B_alloc ?_ _ | with_reducible refine B_ext ?_ _ | with_reducible refine B_drew ?_ | with_reducible refine B_drewN ?_ _ | with_reducible refine B_set ?_ (by simp; omega) _)))).mono ?_; rintro e wq ⟨v, rfl, hown1, zd1, rfl⟩; dsimp only at hown1; obtain ⟨F, fc, rfl, hSF, _⟩ := own_sl stay_len hown1; clear hown1 hy2 he2)
                    | (go_at_call 42; refine (HLV _ _ _ _ _ _ _ _ _ (hy2.keep (by repeat (first | exact B_refl | exact Below.refl _ _ | assumption | with_reducible refine B_alloc ?_ _ | with_reducible refine B_ext ?_ _ | with_reducible refine B_drew ?_ | with_reducible refine B_drewN ?_ _ | with_reducible refine B_set ?_ (by simp; omega) _))) (he2.keep (by repeat (first | exact B_refl | exact Below.refl _ _ | assumption | with_reducible refine B_alloc ?_ _ | with_reducible refine B_ext ?_ _ | with_reducible refine B_drew ?_ | with_reducible refine B_drewN ?_ _ | with_reducible refine B_set ?_ (by simp; omega) _)))).mono ?_; rintro e wq ⟨rfl, zd2, rfl⟩; clear hy2 he2)
                    | (go_at_call 20; refine (rCheck_any ss rs _ _ _ _ _ _ _ _ _ es _ _ _ _ (hyi.keep (m := w.heap.size) (by repeat (first | exact B_refl | exact Below.refl _ _ | assumption | with_reducible refine B_alloc ?_ _ | with_reducible refine B_ext ?_ _ | with_reducible refine B_drew ?_ | with_reducible refine B_drewN ?_ _ | with_reducible refine B_set ?_ (by simp; omega) _))) (hei.keep (m := w.heap.size) (by repeat (first | exact B_refl | exact Below.refl _ _ | assumption | with_reducible refine B_alloc ?_ _ | with_reducible refine B_ext ?_ _ | with_reducible refine B_drew ?_ | with_reducible refine B_drewN ?_ _ | with_reducible refine B_set ?_ (by simp; omega) _)))).mono ?_; rintro e wq ⟨rfl, zk, rfl⟩; rw [HCK.out])
                    | (go_at_call 43; refine (HRS _ (hyi.keep (m := w.heap.size) (by repeat (first | exact B_refl | exact Below.refl _ _ | assumption | with_reducible refine B_alloc ?_ _ | with_reducible refine B_ext ?_ _ | with_reducible refine B_drew ?_ | with_reducible refine B_drewN ?_ _ | with_reducible refine B_set ?_ (by simp; omega) _))) (hei.keep (m := w.heap.size) (by repeat (first | exact B_refl | exact Below.refl _ _ | assumption | with_reducible refine B_alloc ?_ _ | with_reducible refine B_ext ?_ _ | with_reducible refine B_drew ?_ | with_reducible refine B_drewN ?_ _ | with_reducible refine B_set ?_ (by simp; omega) _)))).mono ?_; rintro e wq ⟨v3, rfl, hown3, zr, rfl⟩; obtain ⟨F2, fc2, rfl, hSF2, _⟩ := own_sl stay_len hown3; clear hown3)
                    | (go_at_call 44; refine (sameStays_any us _ _ _ _ _ (hSF.keep (by repeat (first | exact B_refl | exact Below.refl _ _ | assumption | with_reducible refine B_alloc ?_ _ | with_reducible refine B_ext ?_ _ | with_reducible refine B_drew ?_ | with_reducible refine B_drewN ?_ _ | with_reducible refine B_set ?_ (by simp; omega) _))) (hSF2.keep (by repeat (first | exact B_refl | exact Below.refl _ _ | assumption | with_reducible refine B_alloc ?_ _ | with_reducible refine B_ext ?_ _ | with_reducible refine B_drew ?_ | with_reducible refine B_drewN ?_ _ | with_reducible refine B_set ?_ (by simp; omega) _))) hul).mono ?_; rintro e wq ⟨rfl, zu, rfl⟩)
                    | (go_at_call 27; refine (rSite_any ss rs _ _ _ _ _ _ _ _ _ _ _ (hyi.keep (m := w.heap.size) (by repeat (first | exact B_refl | exact Below.refl _ _ | assumption | with_reducible refine B_alloc ?_ _ | with_reducible refine B_ext ?_ _ | with_reducible refine B_drew ?_ | with_reducible refine B_drewN ?_ _ | with_reducible refine B_set ?_ (by simp; omega) _)))).mono ?_; rintro e wq ⟨rfl, zt, rfl⟩; rw [hsi])
                    | (go_at_call 45; refine (HRL _ (hyi.keep (m := w.heap.size) (by repeat (first | exact B_refl | exact Below.refl _ _ | assumption | with_reducible refine B_alloc ?_ _ | with_reducible refine B_ext ?_ _ | with_reducible refine B_drew ?_ | with_reducible refine B_drewN ?_ _ | with_reducible refine B_set ?_ (by simp; omega) _))) (hei.keep (m := w.heap.size) (by repeat (first | exact B_refl | exact Below.refl _ _ | assumption | with_reducible refine B_alloc ?_ _ | with_reducible refine B_ext ?_ _ | with_reducible refine B_drew ?_ | with_reducible refine B_drewN ?_ _ | with_reducible refine B_set ?_ (by simp; omega) _)))).mono ?_; rintro e wq ⟨LG2, lvs2, rfl, hRL2, zl, rfl⟩))
      go_ret
      exact Ret.of rfl (by repeat (first | exact B_refl | exact Below.refl _ _ | assumption | with_reducible refine B_alloc ?_ _ | with_reducible refine B_ext ?_ _ | with_reducible refine B_drew ?_ | with_reducible refine B_drewN ?_ _ | with_reducible refine B_set ?_ (by simp; omega) _))
    · simp only [hu, decide_false, Bool.false_eq_true, if_false] at HST
      have hu2 : (us.length == 0) = false := by simpa using hu
      have hu3 : decide (0 < us.length) = true := by simp; omega
      go_wp2_with (first
                    | (go_at_call 12; refine (awake_any _).mono ?_; rintro e wq ⟨rfl, za, rfl⟩)
                    | (go_at_call 13; refine (small_any ss rs _ _ _ _ _ _ _ _ _ _ (hy.keep (m := w.heap.size) (by repeat (first | exact B_refl | exact Below.refl _ _ | assumption | with_reducible refine B_alloc ?_ _ | with_reducible refine B_ext ?_ _ | with_reducible refine B_drew ?_ | with_reducible refine B_drewN ?_ _ | with_reducible refine B_set ?_ (by simp; omega) _)))).mono ?_; rintro e wq ⟨rfl, zs, rfl⟩; rw [hsm])
                    | (go_at_call 19; refine (few_any es _ _ _ _ (hev.keep (m := w.heap.size) (by repeat (first | exact B_refl | exact Below.refl _ _ | assumption | with_reducible refine B_alloc ?_ _ | with_reducible refine B_ext ?_ _ | with_reducible refine B_drew ?_ | with_reducible refine B_drewN ?_ _ | with_reducible refine B_set ?_ (by simp; omega) _)))).mono ?_; rintro e wq ⟨rfl, zf, rfl⟩; rw [hfw])
                    | (go_at_call 17; refine (copyYard_any ss rs _ _ _ _ _ _ _ _ _ _ (hyi.keep (m := w.heap.size) (by repeat (first | exact B_refl | exact Below.refl _ _ | assumption | with_reducible refine B_alloc ?_ _ | with_reducible refine B_ext ?_ _ | with_reducible refine B_drew ?_ | with_reducible refine B_drewN ?_ _ | with_reducible refine B_set ?_ (by simp; omega) _)))).mono ?_; intro e wq hq; obtain ⟨A2, k2, R2, r2, rfl, hy2, zc, rfl⟩ := hq.form hc63 hc43 hyi.sh; clear hq)
                    | (go_at_call 34; refine (copyEvents_any es E es.length ec _ (hei.keep (m := w.heap.size) (by repeat (first | exact B_refl | exact Below.refl _ _ | assumption | with_reducible refine B_alloc ?_ _ | with_reducible refine B_ext ?_ _ | with_reducible refine B_drew ?_ | with_reducible refine B_drewN ?_ _ | with_reducible refine B_set ?_ (by simp; omega) _)))).mono ?_; intro e wq hq; obtain ⟨E2, k3, ze, rfl, rfl, he2⟩ := hq.form hel3 hei.sh; clear hq)
                    | (go_at_call 22; refine (HST _ _ _ _ _ _ _ _ _ (hy2.keep (by repeat (first | exact B_refl | exact Below.refl _ _ | assumption | with_reducible refine B_alloc ?_ _ | with_reducible refine B_ext ?_ _ | with_reducible refine B_drew ?_ | with_reducible refine B_drewN ?_ _ | with_reducible refine B_set ?_ (by simp; omega) _))) (he2.keep (by repeat (first | exact B_refl | exact Below.refl _ _ | assumption | with_reducible refine B_alloc ?_ _ | with_reducible refine B_ext ?_ _ | with_reducible refine B_drew ?_ | with_reducible refine B_drewN ?_ _ | with_reducible refine B_set ?_ (by simp; omega) _)))).mono ?_; rintro e wq ⟨v, rfl, hown1, zd1, rfl⟩; dsimp only at hown1; obtain ⟨F, fc, rfl, hSF, _⟩ := own_sl stay_len hown1; clear hown1 hy2 he2)
                    | (go_at_call 42; refine (HLV _ _ _ _ _ _ _ _ _ (hy2.keep (by repeat (first | exact B_refl | exact Below.refl _ _ | assumption | with_reducible refine B_alloc ?_ _ | with_reducible refine B_ext ?_ _ | with_reducible refine B_drew ?_ | with_reducible refine B_drewN ?_ _ | with_reducible refine B_set ?_ (by simp; omega) _))) (he2.keep (by repeat (first | exact B_refl | exact Below.refl _ _ | assumption | with_reducible refine B_alloc ?_ _ | with_reducible refine B_ext ?_ _ | with_reducible refine B_drew ?_ | with_reducible refine B_drewN ?_ _ | with_reducible refine B_set ?_ (by simp; omega) _)))).mono ?_; rintro e wq ⟨rfl, zd2, rfl⟩; clear hy2 he2)
                    | (go_at_call 20; refine (rCheck_any ss rs _ _ _ _ _ _ _ _ _ es _ _ _ _ (hyi.keep (m := w.heap.size) (by repeat (first | exact B_refl | exact Below.refl _ _ | assumption | with_reducible refine B_alloc ?_ _ | with_reducible refine B_ext ?_ _ | with_reducible refine B_drew ?_ | with_reducible refine B_drewN ?_ _ | with_reducible refine B_set ?_ (by simp; omega) _))) (hei.keep (m := w.heap.size) (by repeat (first | exact B_refl | exact Below.refl _ _ | assumption | with_reducible refine B_alloc ?_ _ | with_reducible refine B_ext ?_ _ | with_reducible refine B_drew ?_ | with_reducible refine B_drewN ?_ _ | with_reducible refine B_set ?_ (by simp; omega) _)))).mono ?_; rintro e wq ⟨rfl, zk, rfl⟩; rw [HCK.out])
                    | (go_at_call 43; refine (HRS _ (hyi.keep (m := w.heap.size) (by repeat (first | exact B_refl | exact Below.refl _ _ | assumption | with_reducible refine B_alloc ?_ _ | with_reducible refine B_ext ?_ _ | with_reducible refine B_drew ?_ | with_reducible refine B_drewN ?_ _ | with_reducible refine B_set ?_ (by simp; omega) _))) (hei.keep (m := w.heap.size) (by repeat (first | exact B_refl | exact Below.refl _ _ | assumption | with_reducible refine B_alloc ?_ _ | with_reducible refine B_ext ?_ _ | with_reducible refine B_drew ?_ | with_reducible refine B_drewN ?_ _ | with_reducible refine B_set ?_ (by simp; omega) _)))).mono ?_; rintro e wq ⟨v3, rfl, hown3, zr, rfl⟩; obtain ⟨F2, fc2, rfl, hSF2, _⟩ := own_sl stay_len hown3; clear hown3)
                    | (go_at_call 44; refine (sameStays_any us _ _ _ _ _ (hSF.keep (by repeat (first | exact B_refl | exact Below.refl _ _ | assumption | with_reducible refine B_alloc ?_ _ | with_reducible refine B_ext ?_ _ | with_reducible refine B_drew ?_ | with_reducible refine B_drewN ?_ _ | with_reducible refine B_set ?_ (by simp; omega) _))) (hSF2.keep (by repeat (first | exact B_refl | exact Below.refl _ _ | assumption | with_reducible refine B_alloc ?_ _ | with_reducible refine B_ext ?_ _ | with_reducible refine B_drew ?_ | with_reducible refine B_drewN ?_ _ | with_reducible refine B_set ?_ (by simp; omega) _))) hul).mono ?_; rintro e wq ⟨rfl, zu, rfl⟩)
                    | (go_at_call 27; refine (rSite_any ss rs _ _ _ _ _ _ _ _ _ _ _ (hyi.keep (m := w.heap.size) (by repeat (first | exact B_refl | exact Below.refl _ _ | assumption | with_reducible refine B_alloc ?_ _ | with_reducible refine B_ext ?_ _ | with_reducible refine B_drew ?_ | with_reducible refine B_drewN ?_ _ | with_reducible refine B_set ?_ (by simp; omega) _)))).mono ?_; rintro e wq ⟨rfl, zt, rfl⟩; rw [hsi])
                    | (go_at_call 45; refine (HRL _ (hyi.keep (m := w.heap.size) (by repeat (first | exact B_refl | exact Below.refl _ _ | assumption | with_reducible refine B_alloc ?_ _ | with_reducible refine B_ext ?_ _ | with_reducible refine B_drew ?_ | with_reducible refine B_drewN ?_ _ | with_reducible refine B_set ?_ (by simp; omega) _))) (hei.keep (m := w.heap.size) (by repeat (first | exact B_refl | exact Below.refl _ _ | assumption | with_reducible refine B_alloc ?_ _ | with_reducible refine B_ext ?_ _ | with_reducible refine B_drew ?_ | with_reducible refine B_drewN ?_ _ | with_reducible refine B_set ?_ (by simp; omega) _)))).mono ?_; rintro e wq ⟨LG2, lvs2, rfl, hRL2, zl, rfl⟩))
      go_ret
      exact Ret.of rfl (by repeat (first | exact B_refl | exact Below.refl _ _ | assumption | with_reducible refine B_alloc ?_ _ | with_reducible refine B_ext ?_ _ | with_reducible refine B_drew ?_ | with_reducible refine B_drewN ?_ _ | with_reducible refine B_set ?_ (by simp; omega) _))
  | some s =>
    obtain ⟨si, hik, _⟩ := siteIdx_some hf
    have hsi : rSiteR nm ss = (si : Int) := by rw [rSiteR, hik]
    have hsi0 : ¬ ((si : Int) < 0) := by omega
    have hgood := yard_room h5 s (findSite_mem hf)
    obtain ⟨hr1, hr2, _⟩ := checkSite_room hgood
    have hnm : nm ≠ ⟨#[]⟩ := by
      apply name_ne
      rw [findSite_name hf] at hgood
      unfold checkSiteP at hgood
      cases hq : isNameP nm
      · rw [hq] at hgood; simp at hgood
      · rfl
    obtain ⟨a, kd, so, d, st, r⟩ := s
    dsimp only at hr1 hr2
    obtain ⟨N, rfl⟩ : ∃ N : Nat, r = (N : Int) := ⟨r.toNat, by omega⟩
    have hN : N ≤ 12 := by omega
    have HLV : ∀ A n c R rn rc E ec W, YardIn W ss rs A n c R rn rc → EventsIn W es E es.length → Calls Try.prog 42 #[.agg #[.slice A n c, .slice R rn rc, .int .i64 c0, .int .i64 c1, .int .i64 c2], .slice E es.length ec, .string nm] W (LevOk W (levelsP nm N ST) N) := fun A n c R rn rc E ec W h1 h2 => by
      have q3 := hws A R n c rn rc
      rw [hf, if_pos (by simp)] at q3
      obtain ⟨q4, q5⟩ := hrd A R n c rn rc
      have := gLevels_ok ss rs A R n c rn rc c0 c1 c2 es E es.length ec nm a kd so d st N W h1 h2 (by rw [q3]; rfl) hf hN hnm q5
      rw [q4] at this
      exact this
    have HRL := hrl a kd so d st N hf hN hnm
    have hxl : ∀ (i : Nat) xs, (levelsP nm N ST)[i]? = some xs → xs.length ≤ ST.length := fun i xs hx => by
      have hi := (List.getElem?_eq_some_iff.1 hx).1
      rw [levels_len] at hi
      rw [levels_at hi] at hx
      simp only [Option.some.injEq] at hx
      rw [← hx]
      exact List.length_filter_le _ _
    have HXL := Lib.hid hxl
    have hxn : (levelsP nm N ST).length = N := levels_len _ _ _
    have HXN := Lib.hid hxn
    clear hws hrd hrl hf h5 hxl hxn hik hgood HST
    have hXLL : ∀ (i : Nat) (hi : i < (levelsP nm N ST).length), ((levelsP nm N ST)[i]).length ≤ ST.length := fun i hi => HXL.out i _ (List.getElem?_eq_getElem hi)
    have hSTL : ST.length ≤ 100000 := HSTL.out
    generalize levelsP nm N ST = LV at *
    generalize staysP nm ST = us at *
    have HLEN := Lib.hid hXLL
    clear HXL hXLL
    by_cases hu : us.length = 0
    · have hus : us = [] := List.eq_nil_of_length_eq_zero hu
      subst hus
      have HST := HST5.out
      simp only [List.length_nil, decide_true, if_true] at HST
      go_wp2_with (first
                    | (go_at_call 12; refine (awake_any _).mono ?_; rintro e wq ⟨rfl, za, rfl⟩)
                    | (go_at_call 13; refine (small_any ss rs _ _ _ _ _ _ _ _ _ _ (hy.keep (m := w.heap.size) (by repeat (first | exact B_refl | exact Below.refl _ _ | assumption | with_reducible refine B_alloc ?_ _ | with_reducible refine B_ext ?_ _ | with_reducible refine B_drew ?_ | with_reducible refine B_drewN ?_ _ | with_reducible refine B_set ?_ (by simp; omega) _)))).mono ?_; rintro e wq ⟨rfl, zs, rfl⟩; rw [hsm])
                    | (go_at_call 19; refine (few_any es _ _ _ _ (hev.keep (m := w.heap.size) (by repeat (first | exact B_refl | exact Below.refl _ _ | assumption | with_reducible refine B_alloc ?_ _ | with_reducible refine B_ext ?_ _ | with_reducible refine B_drew ?_ | with_reducible refine B_drewN ?_ _ | with_reducible refine B_set ?_ (by simp; omega) _)))).mono ?_; rintro e wq ⟨rfl, zf, rfl⟩; rw [hfw])
                    | (go_at_call 17; refine (copyYard_any ss rs _ _ _ _ _ _ _ _ _ _ (hyi.keep (m := w.heap.size) (by repeat (first | exact B_refl | exact Below.refl _ _ | assumption | with_reducible refine B_alloc ?_ _ | with_reducible refine B_ext ?_ _ | with_reducible refine B_drew ?_ | with_reducible refine B_drewN ?_ _ | with_reducible refine B_set ?_ (by simp; omega) _)))).mono ?_; intro e wq hq; obtain ⟨A2, k2, R2, r2, rfl, hy2, zc, rfl⟩ := hq.form hc63 hc43 hyi.sh; clear hq)
                    | (go_at_call 34; refine (copyEvents_any es E es.length ec _ (hei.keep (m := w.heap.size) (by repeat (first | exact B_refl | exact Below.refl _ _ | assumption | with_reducible refine B_alloc ?_ _ | with_reducible refine B_ext ?_ _ | with_reducible refine B_drew ?_ | with_reducible refine B_drewN ?_ _ | with_reducible refine B_set ?_ (by simp; omega) _)))).mono ?_; intro e wq hq; obtain ⟨E2, k3, ze, rfl, rfl, he2⟩ := hq.form hel3 hei.sh; clear hq)
                    | (go_at_call 22; refine (HST _ _ _ _ _ _ _ _ _ (hy2.keep (by repeat (first | exact B_refl | exact Below.refl _ _ | assumption | with_reducible refine B_alloc ?_ _ | with_reducible refine B_ext ?_ _ | with_reducible refine B_drew ?_ | with_reducible refine B_drewN ?_ _ | with_reducible refine B_set ?_ (by simp; omega) _))) (he2.keep (by repeat (first | exact B_refl | exact Below.refl _ _ | assumption | with_reducible refine B_alloc ?_ _ | with_reducible refine B_ext ?_ _ | with_reducible refine B_drew ?_ | with_reducible refine B_drewN ?_ _ | with_reducible refine B_set ?_ (by simp; omega) _)))).mono ?_; rintro e wq ⟨v, rfl, hown1, zd1, rfl⟩; dsimp only at hown1; obtain ⟨F, fc, rfl, hSF, _⟩ := own_sl stay_len hown1; clear hown1 hy2 he2)
                    | (go_at_call 42; refine (HLV _ _ _ _ _ _ _ _ _ (hy2.keep (by repeat (first | exact B_refl | exact Below.refl _ _ | assumption | with_reducible refine B_alloc ?_ _ | with_reducible refine B_ext ?_ _ | with_reducible refine B_drew ?_ | with_reducible refine B_drewN ?_ _ | with_reducible refine B_set ?_ (by simp; omega) _))) (he2.keep (by repeat (first | exact B_refl | exact Below.refl _ _ | assumption | with_reducible refine B_alloc ?_ _ | with_reducible refine B_ext ?_ _ | with_reducible refine B_drew ?_ | with_reducible refine B_drewN ?_ _ | with_reducible refine B_set ?_ (by simp; omega) _)))).mono ?_; rintro e wq ⟨LG, lvs, rfl, hRL, zd2, rfl⟩; clear hy2 he2)
                    | (go_at_call 20; refine (rCheck_any ss rs _ _ _ _ _ _ _ _ _ es _ _ _ _ (hyi.keep (m := w.heap.size) (by repeat (first | exact B_refl | exact Below.refl _ _ | assumption | with_reducible refine B_alloc ?_ _ | with_reducible refine B_ext ?_ _ | with_reducible refine B_drew ?_ | with_reducible refine B_drewN ?_ _ | with_reducible refine B_set ?_ (by simp; omega) _))) (hei.keep (m := w.heap.size) (by repeat (first | exact B_refl | exact Below.refl _ _ | assumption | with_reducible refine B_alloc ?_ _ | with_reducible refine B_ext ?_ _ | with_reducible refine B_drew ?_ | with_reducible refine B_drewN ?_ _ | with_reducible refine B_set ?_ (by simp; omega) _)))).mono ?_; rintro e wq ⟨rfl, zk, rfl⟩; rw [HCK.out])
                    | (go_at_call 43; refine (HRS _ (hyi.keep (m := w.heap.size) (by repeat (first | exact B_refl | exact Below.refl _ _ | assumption | with_reducible refine B_alloc ?_ _ | with_reducible refine B_ext ?_ _ | with_reducible refine B_drew ?_ | with_reducible refine B_drewN ?_ _ | with_reducible refine B_set ?_ (by simp; omega) _))) (hei.keep (m := w.heap.size) (by repeat (first | exact B_refl | exact Below.refl _ _ | assumption | with_reducible refine B_alloc ?_ _ | with_reducible refine B_ext ?_ _ | with_reducible refine B_drew ?_ | with_reducible refine B_drewN ?_ _ | with_reducible refine B_set ?_ (by simp; omega) _)))).mono ?_; rintro e wq ⟨v3, rfl, hown3, zr, rfl⟩; obtain ⟨F2, fc2, rfl, hSF2, _⟩ := own_sl stay_len hown3; clear hown3)
                    | (go_at_call 44; refine (sameStays_any us _ _ _ _ _ (hSF.keep (by repeat (first | exact B_refl | exact Below.refl _ _ | assumption | with_reducible refine B_alloc ?_ _ | with_reducible refine B_ext ?_ _ | with_reducible refine B_drew ?_ | with_reducible refine B_drewN ?_ _ | with_reducible refine B_set ?_ (by simp; omega) _))) (hSF2.keep (by repeat (first | exact B_refl | exact Below.refl _ _ | assumption | with_reducible refine B_alloc ?_ _ | with_reducible refine B_ext ?_ _ | with_reducible refine B_drew ?_ | with_reducible refine B_drewN ?_ _ | with_reducible refine B_set ?_ (by simp; omega) _))) hul).mono ?_; rintro e wq ⟨rfl, zu, rfl⟩)
                    | (go_at_call 27; refine (rSite_any ss rs _ _ _ _ _ _ _ _ _ _ _ (hyi.keep (m := w.heap.size) (by repeat (first | exact B_refl | exact Below.refl _ _ | assumption | with_reducible refine B_alloc ?_ _ | with_reducible refine B_ext ?_ _ | with_reducible refine B_drew ?_ | with_reducible refine B_drewN ?_ _ | with_reducible refine B_set ?_ (by simp; omega) _)))).mono ?_; rintro e wq ⟨rfl, zt, rfl⟩; rw [hsi])
                    | (go_at_call 45; refine (HRL _ (hyi.keep (m := w.heap.size) (by repeat (first | exact B_refl | exact Below.refl _ _ | assumption | with_reducible refine B_alloc ?_ _ | with_reducible refine B_ext ?_ _ | with_reducible refine B_drew ?_ | with_reducible refine B_drewN ?_ _ | with_reducible refine B_set ?_ (by simp; omega) _))) (hei.keep (m := w.heap.size) (by repeat (first | exact B_refl | exact Below.refl _ _ | assumption | with_reducible refine B_alloc ?_ _ | with_reducible refine B_ext ?_ _ | with_reducible refine B_drew ?_ | with_reducible refine B_drewN ?_ _ | with_reducible refine B_set ?_ (by simp; omega) _)))).mono ?_; rintro e wq ⟨LG2, lvs2, rfl, hRL2, zl, rfl⟩))
      go_loopw [14] (fun i wr => ∃ j : Nat, j ≤ N ∧ i = .int .i64 j ∧ RowsAt wr 0 LG lvs LV ∧ RowsAt wr 0 LG2 lvs2 LV ∧ Below w.heap.size w wr) (fun i _ => N - (intOf i).toNat)
      case atStart => exact ⟨0, Nat.zero_le _, rfl, rows_low (hRL.keep (by repeat (first | exact B_refl | exact Below.refl _ _ | assumption | with_reducible refine B_alloc ?_ _ | with_reducible refine B_ext ?_ _ | with_reducible refine B_drew ?_ | with_reducible refine B_drewN ?_ _ | with_reducible refine B_set ?_ (by simp; omega) _))), rows_low (hRL2.keep (by repeat (first | exact B_refl | exact Below.refl _ _ | assumption | with_reducible refine B_alloc ?_ _ | with_reducible refine B_ext ?_ _ | with_reducible refine B_drew ?_ | with_reducible refine B_drewN ?_ _ | with_reducible refine B_set ?_ (by simp; omega) _))), by repeat (first | exact B_refl | exact Below.refl _ _ | assumption | with_reducible refine B_alloc ?_ _ | with_reducible refine B_ext ?_ _ | with_reducible refine B_drew ?_ | with_reducible refine B_drewN ?_ _ | with_reducible refine B_set ?_ (by simp; omega) _)⟩
      case round =>
        obtain ⟨j, hj, rfl, hA, hC, hBr⟩ := hrel
        by_cases hlt : j < N
        · have hjl : j < LV.length := by have := HXN.out; omega
          obtain ⟨F5, fc5, _, f5, hS5⟩ := hA.at hjl
          obtain ⟨F6, fc6, _, f6, hS6⟩ := hC.at hjl
          have hlen5 : LV[j].length ≤ 100000 := Nat.le_trans (HLEN.out j hjl) hSTL
          have hlt2 : (j : Int) < (N : Int) := by omega
          have hj0 : (0 : Int) ≤ (j : Int) := by omega
          have hz5 := blk_lt hA.blk
          have hz6 := blk_lt hC.blk
          generalize LV[j] = xs at *
          go_wp2_with fail
          (refine wp_region_ext_lit (by kernel_rfl) (by kernel_rfl) ?_
           repeat (first | go_big_quiet_skip | (go_big_quiet_want; go_big_quiet_op; first | go_big_quiet_on | (apply Exists.intro; refine ⟨fun _ => ?_, ?_⟩; (go_at_call 44; exact quietx (sameStays_any xs _ _ _ _ _ (hS5.keep (n := wr.heap.size) (by repeat (first | exact B_refl | exact Below.refl _ _ | assumption | with_reducible refine B_alloc ?_ _ | with_reducible refine B_ext ?_ _ | with_reducible refine B_drew ?_ | with_reducible refine B_drewN ?_ _ | with_reducible refine B_set ?_ (by simp; omega) _))) (hS6.keep (n := wr.heap.size) (by repeat (first | exact B_refl | exact Below.refl _ _ | assumption | with_reducible refine B_alloc ?_ _ | with_reducible refine B_ext ?_ _ | with_reducible refine B_drew ?_ | with_reducible refine B_drewN ?_ _ | with_reducible refine B_set ?_ (by simp; omega) _))) hlen5)); go_big_quiet_on)))
           refine wpQuiet_nil ?_
           rintro _ ⟨zq, rfl⟩)
          go_wp2_with fail
          go_roundw
          case rel => exact ⟨j + 1, by omega, by go_num, hA.keep (n := wr.heap.size) (by repeat (first | exact B_refl | exact Below.refl _ _ | assumption | with_reducible refine B_alloc ?_ _ | with_reducible refine B_ext ?_ _ | with_reducible refine B_drew ?_ | with_reducible refine B_drewN ?_ _ | with_reducible refine B_set ?_ (by simp; omega) _)), hC.keep (n := wr.heap.size) (by repeat (first | exact B_refl | exact Below.refl _ _ | assumption | with_reducible refine B_alloc ?_ _ | with_reducible refine B_ext ?_ _ | with_reducible refine B_drew ?_ | with_reducible refine B_drewN ?_ _ | with_reducible refine B_set ?_ (by simp; omega) _)), B_ext hBr _ (Nat.le_refl _)⟩
          case measure => simp [intOf]; omega
        · go_wp2_with fail
          go_ret
          exact Ret.of rfl hBr
    · have HST := HST5.out
      simp only [hu, decide_false, Bool.false_eq_true, if_false] at HST
      have hu2 : (us.length == 0) = false := by simpa using hu
      have hu3 : decide (0 < us.length) = true := by simp; omega
      go_wp2_with (first
                    | (go_at_call 12; refine (awake_any _).mono ?_; rintro e wq ⟨rfl, za, rfl⟩)
                    | (go_at_call 13; refine (small_any ss rs _ _ _ _ _ _ _ _ _ _ (hy.keep (m := w.heap.size) (by repeat (first | exact B_refl | exact Below.refl _ _ | assumption | with_reducible refine B_alloc ?_ _ | with_reducible refine B_ext ?_ _ | with_reducible refine B_drew ?_ | with_reducible refine B_drewN ?_ _ | with_reducible refine B_set ?_ (by simp; omega) _)))).mono ?_; rintro e wq ⟨rfl, zs, rfl⟩; rw [hsm])
                    | (go_at_call 19; refine (few_any es _ _ _ _ (hev.keep (m := w.heap.size) (by repeat (first | exact B_refl | exact Below.refl _ _ | assumption | with_reducible refine B_alloc ?_ _ | with_reducible refine B_ext ?_ _ | with_reducible refine B_drew ?_ | with_reducible refine B_drewN ?_ _ | with_reducible refine B_set ?_ (by simp; omega) _)))).mono ?_; rintro e wq ⟨rfl, zf, rfl⟩; rw [hfw])
                    | (go_at_call 17; refine (copyYard_any ss rs _ _ _ _ _ _ _ _ _ _ (hyi.keep (m := w.heap.size) (by repeat (first | exact B_refl | exact Below.refl _ _ | assumption | with_reducible refine B_alloc ?_ _ | with_reducible refine B_ext ?_ _ | with_reducible refine B_drew ?_ | with_reducible refine B_drewN ?_ _ | with_reducible refine B_set ?_ (by simp; omega) _)))).mono ?_; intro e wq hq; obtain ⟨A2, k2, R2, r2, rfl, hy2, zc, rfl⟩ := hq.form hc63 hc43 hyi.sh; clear hq)
                    | (go_at_call 34; refine (copyEvents_any es E es.length ec _ (hei.keep (m := w.heap.size) (by repeat (first | exact B_refl | exact Below.refl _ _ | assumption | with_reducible refine B_alloc ?_ _ | with_reducible refine B_ext ?_ _ | with_reducible refine B_drew ?_ | with_reducible refine B_drewN ?_ _ | with_reducible refine B_set ?_ (by simp; omega) _)))).mono ?_; intro e wq hq; obtain ⟨E2, k3, ze, rfl, rfl, he2⟩ := hq.form hel3 hei.sh; clear hq)
                    | (go_at_call 22; refine (HST _ _ _ _ _ _ _ _ _ (hy2.keep (by repeat (first | exact B_refl | exact Below.refl _ _ | assumption | with_reducible refine B_alloc ?_ _ | with_reducible refine B_ext ?_ _ | with_reducible refine B_drew ?_ | with_reducible refine B_drewN ?_ _ | with_reducible refine B_set ?_ (by simp; omega) _))) (he2.keep (by repeat (first | exact B_refl | exact Below.refl _ _ | assumption | with_reducible refine B_alloc ?_ _ | with_reducible refine B_ext ?_ _ | with_reducible refine B_drew ?_ | with_reducible refine B_drewN ?_ _ | with_reducible refine B_set ?_ (by simp; omega) _)))).mono ?_; rintro e wq ⟨v, rfl, hown1, zd1, rfl⟩; dsimp only at hown1; obtain ⟨F, fc, rfl, hSF, _⟩ := own_sl stay_len hown1; clear hown1 hy2 he2)
                    | (go_at_call 42; refine (HLV _ _ _ _ _ _ _ _ _ (hy2.keep (by repeat (first | exact B_refl | exact Below.refl _ _ | assumption | with_reducible refine B_alloc ?_ _ | with_reducible refine B_ext ?_ _ | with_reducible refine B_drew ?_ | with_reducible refine B_drewN ?_ _ | with_reducible refine B_set ?_ (by simp; omega) _))) (he2.keep (by repeat (first | exact B_refl | exact Below.refl _ _ | assumption | with_reducible refine B_alloc ?_ _ | with_reducible refine B_ext ?_ _ | with_reducible refine B_drew ?_ | with_reducible refine B_drewN ?_ _ | with_reducible refine B_set ?_ (by simp; omega) _)))).mono ?_; rintro e wq ⟨LG, lvs, rfl, hRL, zd2, rfl⟩; clear hy2 he2)
                    | (go_at_call 20; refine (rCheck_any ss rs _ _ _ _ _ _ _ _ _ es _ _ _ _ (hyi.keep (m := w.heap.size) (by repeat (first | exact B_refl | exact Below.refl _ _ | assumption | with_reducible refine B_alloc ?_ _ | with_reducible refine B_ext ?_ _ | with_reducible refine B_drew ?_ | with_reducible refine B_drewN ?_ _ | with_reducible refine B_set ?_ (by simp; omega) _))) (hei.keep (m := w.heap.size) (by repeat (first | exact B_refl | exact Below.refl _ _ | assumption | with_reducible refine B_alloc ?_ _ | with_reducible refine B_ext ?_ _ | with_reducible refine B_drew ?_ | with_reducible refine B_drewN ?_ _ | with_reducible refine B_set ?_ (by simp; omega) _)))).mono ?_; rintro e wq ⟨rfl, zk, rfl⟩; rw [HCK.out])
                    | (go_at_call 43; refine (HRS _ (hyi.keep (m := w.heap.size) (by repeat (first | exact B_refl | exact Below.refl _ _ | assumption | with_reducible refine B_alloc ?_ _ | with_reducible refine B_ext ?_ _ | with_reducible refine B_drew ?_ | with_reducible refine B_drewN ?_ _ | with_reducible refine B_set ?_ (by simp; omega) _))) (hei.keep (m := w.heap.size) (by repeat (first | exact B_refl | exact Below.refl _ _ | assumption | with_reducible refine B_alloc ?_ _ | with_reducible refine B_ext ?_ _ | with_reducible refine B_drew ?_ | with_reducible refine B_drewN ?_ _ | with_reducible refine B_set ?_ (by simp; omega) _)))).mono ?_; rintro e wq ⟨v3, rfl, hown3, zr, rfl⟩; obtain ⟨F2, fc2, rfl, hSF2, _⟩ := own_sl stay_len hown3; clear hown3)
                    | (go_at_call 44; refine (sameStays_any us _ _ _ _ _ (hSF.keep (by repeat (first | exact B_refl | exact Below.refl _ _ | assumption | with_reducible refine B_alloc ?_ _ | with_reducible refine B_ext ?_ _ | with_reducible refine B_drew ?_ | with_reducible refine B_drewN ?_ _ | with_reducible refine B_set ?_ (by simp; omega) _))) (hSF2.keep (by repeat (first | exact B_refl | exact Below.refl _ _ | assumption | with_reducible refine B_alloc ?_ _ | with_reducible refine B_ext ?_ _ | with_reducible refine B_drew ?_ | with_reducible refine B_drewN ?_ _ | with_reducible refine B_set ?_ (by simp; omega) _))) hul).mono ?_; rintro e wq ⟨rfl, zu, rfl⟩)
                    | (go_at_call 27; refine (rSite_any ss rs _ _ _ _ _ _ _ _ _ _ _ (hyi.keep (m := w.heap.size) (by repeat (first | exact B_refl | exact Below.refl _ _ | assumption | with_reducible refine B_alloc ?_ _ | with_reducible refine B_ext ?_ _ | with_reducible refine B_drew ?_ | with_reducible refine B_drewN ?_ _ | with_reducible refine B_set ?_ (by simp; omega) _)))).mono ?_; rintro e wq ⟨rfl, zt, rfl⟩; rw [hsi])
                    | (go_at_call 45; refine (HRL _ (hyi.keep (m := w.heap.size) (by repeat (first | exact B_refl | exact Below.refl _ _ | assumption | with_reducible refine B_alloc ?_ _ | with_reducible refine B_ext ?_ _ | with_reducible refine B_drew ?_ | with_reducible refine B_drewN ?_ _ | with_reducible refine B_set ?_ (by simp; omega) _))) (hei.keep (m := w.heap.size) (by repeat (first | exact B_refl | exact Below.refl _ _ | assumption | with_reducible refine B_alloc ?_ _ | with_reducible refine B_ext ?_ _ | with_reducible refine B_drew ?_ | with_reducible refine B_drewN ?_ _ | with_reducible refine B_set ?_ (by simp; omega) _)))).mono ?_; rintro e wq ⟨LG2, lvs2, rfl, hRL2, zl, rfl⟩))
      go_loopw [14] (fun i wr => ∃ j : Nat, j ≤ N ∧ i = .int .i64 j ∧ RowsAt wr 0 LG lvs LV ∧ RowsAt wr 0 LG2 lvs2 LV ∧ Below w.heap.size w wr) (fun i _ => N - (intOf i).toNat)
      case atStart => exact ⟨0, Nat.zero_le _, rfl, rows_low (hRL.keep (by repeat (first | exact B_refl | exact Below.refl _ _ | assumption | with_reducible refine B_alloc ?_ _ | with_reducible refine B_ext ?_ _ | with_reducible refine B_drew ?_ | with_reducible refine B_drewN ?_ _ | with_reducible refine B_set ?_ (by simp; omega) _))), rows_low (hRL2.keep (by repeat (first | exact B_refl | exact Below.refl _ _ | assumption | with_reducible refine B_alloc ?_ _ | with_reducible refine B_ext ?_ _ | with_reducible refine B_drew ?_ | with_reducible refine B_drewN ?_ _ | with_reducible refine B_set ?_ (by simp; omega) _))), by repeat (first | exact B_refl | exact Below.refl _ _ | assumption | with_reducible refine B_alloc ?_ _ | with_reducible refine B_ext ?_ _ | with_reducible refine B_drew ?_ | with_reducible refine B_drewN ?_ _ | with_reducible refine B_set ?_ (by simp; omega) _)⟩
      case round =>
        obtain ⟨j, hj, rfl, hA, hC, hBr⟩ := hrel
        by_cases hlt : j < N
        · have hjl : j < LV.length := by have := HXN.out; omega
          obtain ⟨F5, fc5, _, f5, hS5⟩ := hA.at hjl
          obtain ⟨F6, fc6, _, f6, hS6⟩ := hC.at hjl
          have hlen5 : LV[j].length ≤ 100000 := Nat.le_trans (HLEN.out j hjl) hSTL
          have hlt2 : (j : Int) < (N : Int) := by omega
          have hj0 : (0 : Int) ≤ (j : Int) := by omega
          have hz5 := blk_lt hA.blk
          have hz6 := blk_lt hC.blk
          generalize LV[j] = xs at *
          go_wp2_with fail
          (refine wp_region_ext_lit (by kernel_rfl) (by kernel_rfl) ?_
           repeat (first | go_big_quiet_skip | (go_big_quiet_want; go_big_quiet_op; first | go_big_quiet_on | (apply Exists.intro; refine ⟨fun _ => ?_, ?_⟩; (go_at_call 44; exact quietx (sameStays_any xs _ _ _ _ _ (hS5.keep (n := wr.heap.size) (by repeat (first | exact B_refl | exact Below.refl _ _ | assumption | with_reducible refine B_alloc ?_ _ | with_reducible refine B_ext ?_ _ | with_reducible refine B_drew ?_ | with_reducible refine B_drewN ?_ _ | with_reducible refine B_set ?_ (by simp; omega) _))) (hS6.keep (n := wr.heap.size) (by repeat (first | exact B_refl | exact Below.refl _ _ | assumption | with_reducible refine B_alloc ?_ _ | with_reducible refine B_ext ?_ _ | with_reducible refine B_drew ?_ | with_reducible refine B_drewN ?_ _ | with_reducible refine B_set ?_ (by simp; omega) _))) hlen5)); go_big_quiet_on)))
           refine wpQuiet_nil ?_
           rintro _ ⟨zq, rfl⟩)
          go_wp2_with fail
          go_roundw
          case rel => exact ⟨j + 1, by omega, by go_num, hA.keep (n := wr.heap.size) (by repeat (first | exact B_refl | exact Below.refl _ _ | assumption | with_reducible refine B_alloc ?_ _ | with_reducible refine B_ext ?_ _ | with_reducible refine B_drew ?_ | with_reducible refine B_drewN ?_ _ | with_reducible refine B_set ?_ (by simp; omega) _)), hC.keep (n := wr.heap.size) (by repeat (first | exact B_refl | exact Below.refl _ _ | assumption | with_reducible refine B_alloc ?_ _ | with_reducible refine B_ext ?_ _ | with_reducible refine B_drew ?_ | with_reducible refine B_drewN ?_ _ | with_reducible refine B_set ?_ (by simp; omega) _)), B_ext hBr _ (Nat.le_refl _)⟩
          case measure => simp [intOf]; omega
        · go_wp2_with fail
          go_ret
          exact Ret.of rfl hBr
end Go.Proofs.Ytmiobhlgpjjbgaa
namespace Go.Proofs.Ytmiobhlgpjjbgaa
open Go.ChangeShapes Go.WideShapes Go.ChangeAt Go.RowKit

set_option maxRecDepth 100000 in
theorem graveStays_lifted (os : Os) (started : os.Started) (H : Type) (enc : TypeId × Value → H) :
    ReturnsInHanded {} Try.checked os 8 .any (Rows.graveStaysSpec.pre6 enc Try.prog Try.f8 Rows.graveStaysRow.domain false) (Rows.graveStaysSpec.post enc Try.prog Try.f8 false true false false) := by
  refine returnsInHanded_of_change (C := Try.checked) own_knob started (by kernel_rfl) Try.func8
    (ChangeSpec.witness6 (enc := enc) (C := Try.checked) false ⟨#[], #[.agg #[.slice none 0 0, .slice none 0 0, .int .i64 0, .int .i64 0, .int .i64 0], .slice none 0 0, .string ⟨#[]⟩], []⟩ 8 (by kernel_rfl) (by kernel_rfl) (by kernel_rfl) (by kernel_rfl)) ?_
  intro W base args ds gs before hval0 hW hcnd _
  have hval : ∀ (j : Nat) t v, Try.f8.params[j]? = some t → args[j]? = some v → Value.okWide Try.prog W .any base t v := hval0
  have hW' := hW
  obtain ⟨p, q, hA0, hV, rfl, hfz, hnd⟩ := hW
  have hA : DataW.TrodAll enc Try.prog W 0 (fun _ => true) true Try.f8.params.toList args.toList ds p := hA0
  rw [Try.params8] at hA hval
  obtain ⟨v0, vs0, d0, ds0, p0, q0, hargs, rfl, rfl, h0, r0⟩ := trodAll_cons hA
  obtain ⟨v1, vs1, d1, ds1, p1, q1, rfl, rfl, rfl, h1, r1⟩ := trodAll_cons r0
  obtain ⟨v2, vs2, d2, ds2, p2, q2, rfl, rfl, rfl, h2, r2⟩ := trodAll_cons r1
  obtain ⟨rfl, rfl, rfl⟩ := trodAll_nil r2
  obtain rfl : args = #[v0, v1, v2] := by cases args; simp_all
  obtain ⟨rfl, rfl⟩ := trodVars_none hV
  have k0 := h0
  have k1 := h1
  have k2 := h2
  have lt0 : ∀ x ∈ p0, x.block < W.heap.size := by obtain ⟨m, hm⟩ := k0; exact DataW.trod_lt m _ _ _ hm
  have lt1 : ∀ x ∈ p1, x.block < W.heap.size := by obtain ⟨m, hm⟩ := k1; exact DataW.trod_lt m _ _ _ hm
  have lt2 : ∀ x ∈ p2, x.block < W.heap.size := by obtain ⟨m, hm⟩ := k2; exact DataW.trod_lt m _ _ _ hm
  obtain ⟨ss, rs, A, n, c, R, rn, rc, c0, c1, c2, rfl, hy⟩ := open_yard (hval 0 26 v0 rfl rfl) h0
  obtain ⟨es, E, en, ec, rfl, hev, hcap⟩ := open_events (hval 1 37 v1 rfl rfl) h1
  obtain ⟨nm, rfl⟩ := okWide_string Try.underlying9 (hval 2 9 v2 rfl rfl)
  clear hA0 hval0
  refine (graveStays_any ss rs A R n c rn rc c0 c1 c2 es E en ec nm W hy hev hcap).mono fun e W' ⟨he, z, hz⟩ => ?_
  subst he
  have bel : Below W.heap.size W W' := by rw [hz]; exact below_ext W z
  exact ⟨_, rfl, _, _, _, [], _, [], hW', trodAll_mk1 (shut_bool Try.underlying4 _), (trodAll_cons_mk (Below.trod laid_out (by kernel_rfl) (of_decide_eq_true (by kernel_rfl)) k0 bel lt0) (trodAll_cons_mk (Below.trod laid_out (by kernel_rfl) (of_decide_eq_true (by kernel_rfl)) k1 bel lt1) (trodAll_cons_mk (Below.trod laid_out (by kernel_rfl) (of_decide_eq_true (by kernel_rfl)) k2 bel lt2) trodAll_mk0))), rfl, bel.frame _, fun h => by cases h⟩

theorem graveStays_holds : Rows.GraveStaysSaid :=
  OpenClaim.holds_of_wide 8 Try.f8 rfl rfl rfl rfl rfl rfl rfl ⟨rfl, rfl, rfl, rfl, rfl⟩ rfl rfl rfl rfl rfl (by kernel_rfl) Try.func8 (by kernel_rfl)
    (of_decide_eq_true (by kernel_rfl)) (by unfold Func.isWrapper; first | (rw [if_pos (by decide +kernel)]; kernel_rfl) | (rw [if_neg (by decide +kernel)]; exact ⟨rfl, rfl⟩))
    (fun os started H enc _ => graveStays_lifted os started H enc)
#print axioms graveStays_holds
end Go.Proofs.Ytmiobhlgpjjbgaa
