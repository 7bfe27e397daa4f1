/- Walk: the law GraveStaysOn. -/
import Derived.Test.YtmiobhlgpjjbgaaQ3
namespace Go.Proofs.Ytmiobhlgpjjbgaa
open Go.RowKit
attribute [local go_sem] World.cell?_alloc_mark ext_size ext_cell ext_frozen lt_add_r lt_add_r2 lt_add_r3 lt_add_r4 lt_add_r5 lt_add_r6 lt_add_r7 lt_add_r8

theorem chain_at : ∀ {l : List Stay} {j : Nat} {a b : Stay}, chainP l → l[j]? = some a → l[j + 1]? = some b → a.till = b.lot.since
  | [], _, _, _, _, h, _ => by simp at h
  | [_], j, _, _, _, h1, h2 => by simp at h2
  | x :: y :: r, 0, a, b, h, h1, h2 => by
    simp at h1 h2
    subst h1 h2
    exact h.1
  | x :: y :: r, j + 1, a, b, h, h1, h2 => chain_at (l := y :: r) (j := j) h.2 (by simpa using h1) (by simpa using h2)
theorem chain_last : ∀ {l : List Stay} {j : Nat} {a : Stay}, chainP l → l[j]? = some a → j + 1 = l.length → a.till = -1
  | [], _, _, _, h, _ => by simp at h
  | [x], 0, a, h, h1, _ => by
    simp at h1
    subst h1
    exact h
  | [_], j + 1, _, _, h1, _ => by simp at h1
  | x :: y :: r, 0, a, h, h1, h2 => by simp at h2
  | x :: y :: r, j + 1, a, h, h1, h2 => chain_last (l := y :: r) (j := j) h.2 (by simpa using h1) (by simpa using h2)

theorem adds_len {ss : List Site} {rs : List Rest} : ∀ (es : List Event) (k : Bk), (addsP ss rs k es).1.st.length ≤ k.st.length + es.length
  | [], _ => Nat.le_refl _
  | e :: l, k => by
    unfold addsP
    split
    · dsimp only; omega
    · have := adds_len (ss := ss) (rs := rs) l (addK k e (errorP k ss rs e).1)
      rw [addK_len] at this
      simp only [List.length_cons]
      omega
set_option maxRecDepth 100000 in
set_option maxHeartbeats 2000000 in
theorem graveStaysOn_any (ss : List Site) (rs : List Rest) (A R : Option Addr) (n c rn rc : Nat) (c0 c1 c2 : Int) (es : List Event) (E : Option Addr) (en ec : Nat) (day : Int) (nm : ByteArray) (w : World) (hy : YardRaw w ss rs A n c R rn rc) (hev : EventsRaw w es E en) :
    Calls Try.prog 4 #[.agg #[.slice A n c, .slice R rn rc, .int .i64 c0, .int .i64 c1, .int .i64 c2], .agg #[.slice E en ec, .int .i64 day, .string nm]] w (Ret w (.bool true)) := by
  go_enter Try.func4, Try.ntmps4
  cases hsm : smallP ss rs
  · go_wp2_with (first
                  | (go_at_call 12; refine (awake_any _).mono ?_; rintro e wq ⟨rfl, za, rfl⟩)
                  | (go_at_call 13; refine (small_any ss rs _ _ _ _ _ _ _ _ _ _ (hy.keep (m := w.heap.size) (by repeat (first | exact B_refl | exact Below.refl _ _ | assumption | with_reducible refine B_alloc ?_ _ | with_reducible refine B_ext ?_ _ | with_reducible refine B_drew ?_ | with_reducible refine B_drewN ?_ _ | with_reducible refine B_set ?_ (by simp; omega) _)))).mono ?_; rintro e wq ⟨rfl, zs, rfl⟩; rw [hsm])
                  | (go_at_call 19; refine (few_any es _ _ _ _ (hev.keep (m := w.heap.size) (by repeat (first | exact B_refl | exact Below.refl _ _ | assumption | with_reducible refine B_alloc ?_ _ | with_reducible refine B_ext ?_ _ | with_reducible refine B_drew ?_ | with_reducible refine B_drewN ?_ _ | with_reducible refine B_set ?_ (by simp; omega) _)))).mono ?_; rintro e wq ⟨rfl, zf, rfl⟩; rw [hfw])
                  | (go_at_call 20; refine (rCheck_any ss rs _ _ _ _ _ _ _ _ _ es _ _ _ _ (hyi.keep (m := w.heap.size) (by repeat (first | exact B_refl | exact Below.refl _ _ | assumption | with_reducible refine B_alloc ?_ _ | with_reducible refine B_ext ?_ _ | with_reducible refine B_drew ?_ | with_reducible refine B_drewN ?_ _ | with_reducible refine B_set ?_ (by simp; omega) _))) (hei.keep (m := w.heap.size) (by repeat (first | exact B_refl | exact Below.refl _ _ | assumption | with_reducible refine B_alloc ?_ _ | with_reducible refine B_ext ?_ _ | with_reducible refine B_drew ?_ | with_reducible refine B_drewN ?_ _ | with_reducible refine B_set ?_ (by simp; omega) _)))).mono ?_; rintro e wq ⟨rfl, zk, rfl⟩; rw [HCK.out])
                  | (go_at_call 21; refine (rIsDay_any _ _).mono ?_; rintro e wq ⟨rfl, rfl⟩; rw [hdy]))
    go_ret
    exact Ret.of rfl (by repeat (first | exact B_refl | exact Below.refl _ _ | assumption | with_reducible refine B_alloc ?_ _ | with_reducible refine B_ext ?_ _ | with_reducible refine B_drew ?_ | with_reducible refine B_drewN ?_ _ | with_reducible refine B_set ?_ (by simp; omega) _))
  obtain ⟨hyi, hyl1, hyl2⟩ := small_yard hy hsm
  cases hfw : fewP es
  · go_wp2_with (first
                  | (go_at_call 12; refine (awake_any _).mono ?_; rintro e wq ⟨rfl, za, rfl⟩)
                  | (go_at_call 13; refine (small_any ss rs _ _ _ _ _ _ _ _ _ _ (hy.keep (m := w.heap.size) (by repeat (first | exact B_refl | exact Below.refl _ _ | assumption | with_reducible refine B_alloc ?_ _ | with_reducible refine B_ext ?_ _ | with_reducible refine B_drew ?_ | with_reducible refine B_drewN ?_ _ | with_reducible refine B_set ?_ (by simp; omega) _)))).mono ?_; rintro e wq ⟨rfl, zs, rfl⟩; rw [hsm])
                  | (go_at_call 19; refine (few_any es _ _ _ _ (hev.keep (m := w.heap.size) (by repeat (first | exact B_refl | exact Below.refl _ _ | assumption | with_reducible refine B_alloc ?_ _ | with_reducible refine B_ext ?_ _ | with_reducible refine B_drew ?_ | with_reducible refine B_drewN ?_ _ | with_reducible refine B_set ?_ (by simp; omega) _)))).mono ?_; rintro e wq ⟨rfl, zf, rfl⟩; rw [hfw])
                  | (go_at_call 20; refine (rCheck_any ss rs _ _ _ _ _ _ _ _ _ es _ _ _ _ (hyi.keep (m := w.heap.size) (by repeat (first | exact B_refl | exact Below.refl _ _ | assumption | with_reducible refine B_alloc ?_ _ | with_reducible refine B_ext ?_ _ | with_reducible refine B_drew ?_ | with_reducible refine B_drewN ?_ _ | with_reducible refine B_set ?_ (by simp; omega) _))) (hei.keep (m := w.heap.size) (by repeat (first | exact B_refl | exact Below.refl _ _ | assumption | with_reducible refine B_alloc ?_ _ | with_reducible refine B_ext ?_ _ | with_reducible refine B_drew ?_ | with_reducible refine B_drewN ?_ _ | with_reducible refine B_set ?_ (by simp; omega) _)))).mono ?_; rintro e wq ⟨rfl, zk, rfl⟩; rw [HCK.out])
                  | (go_at_call 21; refine (rIsDay_any _ _).mono ?_; rintro e wq ⟨rfl, rfl⟩; rw [hdy]))
    go_ret
    exact Ret.of rfl (by repeat (first | exact B_refl | exact Below.refl _ _ | assumption | with_reducible refine B_alloc ?_ _ | with_reducible refine B_ext ?_ _ | with_reducible refine B_drew ?_ | with_reducible refine B_drewN ?_ _ | with_reducible refine B_set ?_ (by simp; omega) _))
  obtain ⟨hei, hel1, hel2⟩ := few_events hev hfw
  by_cases hnl : 30 < (nm.size : Int)
  · go_wp2_with (first
                  | (go_at_call 12; refine (awake_any _).mono ?_; rintro e wq ⟨rfl, za, rfl⟩)
                  | (go_at_call 13; refine (small_any ss rs _ _ _ _ _ _ _ _ _ _ (hy.keep (m := w.heap.size) (by repeat (first | exact B_refl | exact Below.refl _ _ | assumption | with_reducible refine B_alloc ?_ _ | with_reducible refine B_ext ?_ _ | with_reducible refine B_drew ?_ | with_reducible refine B_drewN ?_ _ | with_reducible refine B_set ?_ (by simp; omega) _)))).mono ?_; rintro e wq ⟨rfl, zs, rfl⟩; rw [hsm])
                  | (go_at_call 19; refine (few_any es _ _ _ _ (hev.keep (m := w.heap.size) (by repeat (first | exact B_refl | exact Below.refl _ _ | assumption | with_reducible refine B_alloc ?_ _ | with_reducible refine B_ext ?_ _ | with_reducible refine B_drew ?_ | with_reducible refine B_drewN ?_ _ | with_reducible refine B_set ?_ (by simp; omega) _)))).mono ?_; rintro e wq ⟨rfl, zf, rfl⟩; rw [hfw])
                  | (go_at_call 20; refine (rCheck_any ss rs _ _ _ _ _ _ _ _ _ es _ _ _ _ (hyi.keep (m := w.heap.size) (by repeat (first | exact B_refl | exact Below.refl _ _ | assumption | with_reducible refine B_alloc ?_ _ | with_reducible refine B_ext ?_ _ | with_reducible refine B_drew ?_ | with_reducible refine B_drewN ?_ _ | with_reducible refine B_set ?_ (by simp; omega) _))) (hei.keep (m := w.heap.size) (by repeat (first | exact B_refl | exact Below.refl _ _ | assumption | with_reducible refine B_alloc ?_ _ | with_reducible refine B_ext ?_ _ | with_reducible refine B_drew ?_ | with_reducible refine B_drewN ?_ _ | with_reducible refine B_set ?_ (by simp; omega) _)))).mono ?_; rintro e wq ⟨rfl, zk, rfl⟩; rw [HCK.out])
                  | (go_at_call 21; refine (rIsDay_any _ _).mono ?_; rintro e wq ⟨rfl, rfl⟩; rw [hdy]))
    go_ret
    exact Ret.of rfl (by repeat (first | exact B_refl | exact Below.refl _ _ | assumption | with_reducible refine B_alloc ?_ _ | with_reducible refine B_ext ?_ _ | with_reducible refine B_drew ?_ | with_reducible refine B_drewN ?_ _ | with_reducible refine B_set ?_ (by simp; omega) _))
  obtain ⟨X, hX⟩ : ∃ X, rCheckP c0 c1 c2 ss rs es = X := ⟨_, rfl⟩
  have HCK := Lib.hid hX
  cases hX0 : (X != 0)
  rotate_left
  · clear hX
    go_wp2_with (first
                  | (go_at_call 12; refine (awake_any _).mono ?_; rintro e wq ⟨rfl, za, rfl⟩)
                  | (go_at_call 13; refine (small_any ss rs _ _ _ _ _ _ _ _ _ _ (hy.keep (m := w.heap.size) (by repeat (first | exact B_refl | exact Below.refl _ _ | assumption | with_reducible refine B_alloc ?_ _ | with_reducible refine B_ext ?_ _ | with_reducible refine B_drew ?_ | with_reducible refine B_drewN ?_ _ | with_reducible refine B_set ?_ (by simp; omega) _)))).mono ?_; rintro e wq ⟨rfl, zs, rfl⟩; rw [hsm])
                  | (go_at_call 19; refine (few_any es _ _ _ _ (hev.keep (m := w.heap.size) (by repeat (first | exact B_refl | exact Below.refl _ _ | assumption | with_reducible refine B_alloc ?_ _ | with_reducible refine B_ext ?_ _ | with_reducible refine B_drew ?_ | with_reducible refine B_drewN ?_ _ | with_reducible refine B_set ?_ (by simp; omega) _)))).mono ?_; rintro e wq ⟨rfl, zf, rfl⟩; rw [hfw])
                  | (go_at_call 20; refine (rCheck_any ss rs _ _ _ _ _ _ _ _ _ es _ _ _ _ (hyi.keep (m := w.heap.size) (by repeat (first | exact B_refl | exact Below.refl _ _ | assumption | with_reducible refine B_alloc ?_ _ | with_reducible refine B_ext ?_ _ | with_reducible refine B_drew ?_ | with_reducible refine B_drewN ?_ _ | with_reducible refine B_set ?_ (by simp; omega) _))) (hei.keep (m := w.heap.size) (by repeat (first | exact B_refl | exact Below.refl _ _ | assumption | with_reducible refine B_alloc ?_ _ | with_reducible refine B_ext ?_ _ | with_reducible refine B_drew ?_ | with_reducible refine B_drewN ?_ _ | with_reducible refine B_set ?_ (by simp; omega) _)))).mono ?_; rintro e wq ⟨rfl, zk, rfl⟩; rw [HCK.out])
                  | (go_at_call 21; refine (rIsDay_any _ _).mono ?_; rintro e wq ⟨rfl, rfl⟩; rw [hdy]))
    go_ret
    exact Ret.of rfl (by repeat (first | exact B_refl | exact Below.refl _ _ | assumption | with_reducible refine B_alloc ?_ _ | with_reducible refine B_ext ?_ _ | with_reducible refine B_drew ?_ | with_reducible refine B_drewN ?_ _ | with_reducible refine B_set ?_ (by simp; omega) _))
  have hX1 : X = 0 := by simpa using hX0
  subst hX1
  cases hdy : inR day 0 200000
  · clear hX
    go_wp2_with (first
                  | (go_at_call 12; refine (awake_any _).mono ?_; rintro e wq ⟨rfl, za, rfl⟩)
                  | (go_at_call 13; refine (small_any ss rs _ _ _ _ _ _ _ _ _ _ (hy.keep (m := w.heap.size) (by repeat (first | exact B_refl | exact Below.refl _ _ | assumption | with_reducible refine B_alloc ?_ _ | with_reducible refine B_ext ?_ _ | with_reducible refine B_drew ?_ | with_reducible refine B_drewN ?_ _ | with_reducible refine B_set ?_ (by simp; omega) _)))).mono ?_; rintro e wq ⟨rfl, zs, rfl⟩; rw [hsm])
                  | (go_at_call 19; refine (few_any es _ _ _ _ (hev.keep (m := w.heap.size) (by repeat (first | exact B_refl | exact Below.refl _ _ | assumption | with_reducible refine B_alloc ?_ _ | with_reducible refine B_ext ?_ _ | with_reducible refine B_drew ?_ | with_reducible refine B_drewN ?_ _ | with_reducible refine B_set ?_ (by simp; omega) _)))).mono ?_; rintro e wq ⟨rfl, zf, rfl⟩; rw [hfw])
                  | (go_at_call 20; refine (rCheck_any ss rs _ _ _ _ _ _ _ _ _ es _ _ _ _ (hyi.keep (m := w.heap.size) (by repeat (first | exact B_refl | exact Below.refl _ _ | assumption | with_reducible refine B_alloc ?_ _ | with_reducible refine B_ext ?_ _ | with_reducible refine B_drew ?_ | with_reducible refine B_drewN ?_ _ | with_reducible refine B_set ?_ (by simp; omega) _))) (hei.keep (m := w.heap.size) (by repeat (first | exact B_refl | exact Below.refl _ _ | assumption | with_reducible refine B_alloc ?_ _ | with_reducible refine B_ext ?_ _ | with_reducible refine B_drew ?_ | with_reducible refine B_drewN ?_ _ | with_reducible refine B_set ?_ (by simp; omega) _)))).mono ?_; rintro e wq ⟨rfl, zk, rfl⟩; rw [HCK.out])
                  | (go_at_call 21; refine (rIsDay_any _ _).mono ?_; rintro e wq ⟨rfl, rfl⟩; rw [hdy]))
    go_ret
    exact Ret.of rfl (by repeat (first | exact B_refl | exact Below.refl _ _ | assumption | with_reducible refine B_alloc ?_ _ | with_reducible refine B_ext ?_ _ | with_reducible refine B_drew ?_ | with_reducible refine B_drewN ?_ _ | with_reducible refine B_set ?_ (by simp; omega) _))
  have hrc := (read_check ss rs A R n c rn rc c0 c1 c2 es).1
  obtain ⟨hch, hlk⟩ := stays_on (A := A) (R := R) (n := n) (c := c) (rn := rn) (rc := rc) hX nm day
  rw [hX] at hrc
  have HCH := Lib.hid hch
  have HOD : Hid (whereR (onDayR ss rs (bk0 A n c R rn rc c0 c1 c2) es day) nm = match (lotsOn nm day (readP ss rs (bk0 A n c R rn rc c0 c1 c2) es).1.st).getLast? with | none => (zeroLot, 6) | some l => (l, 0)) := by
    show _ = _
    unfold onDayR
    rw [hrc, hdy]
    simp only [bne_self_eq_false, Bool.false_eq_true, if_false, Bool.not_true]
    unfold whereR
    simp only [bne_self_eq_false, Bool.false_eq_true, if_false]
    rw [hlk]
    rfl
  have HST : Hid (staysR (readP ss rs (bk0 A n c R rn rc c0 c1 c2) es) nm = if decide ((staysP nm (readP ss rs (bk0 A n c R rn rc c0 c1 c2) es).1.st).length = 0) then ([], 6) else (staysP nm (readP ss rs (bk0 A n c R rn rc c0 c1 c2) es).1.st, 0)) := by
    show _ = _
    unfold staysR
    rw [hrc]
    simp
  have HLO : Hid (lotsOn nm day (readP ss rs (bk0 A n c R rn rc c0 c1 c2) es).1.st = ((staysP nm (readP ss rs (bk0 A n c R rn rc c0 c1 c2) es).1.st).map (·.lot)).filter fun l => decide (l.since ≤ day)) := rfl
  have HGS := fun W h1 h2 => gStays_any ss rs A R n c rn rc c0 c1 c2 es E en ec nm W h1 h2
  have HGW := fun W h1 h2 => gWhere_any ss rs A R n c rn rc c0 c1 c2 es E en ec nm day W h1 h2
  have HSM : Hid (∀ a ∈ staysP nm (readP ss rs (bk0 A n c R rn rc c0 c1 c2) es).1.st, a.lot.remain = nm) := fun a ha => by
    unfold staysP at ha
    exact bytes_ext (eq_of_beq (List.mem_filter.1 ha).2)
  have HUL : Hid ((staysP nm (readP ss rs (bk0 A n c R rn rc c0 c1 c2) es).1.st).length ≤ 100000) := by
    show _ ≤ _
    obtain ⟨_, _, q3, _, _, q6⟩ := (read_check ss rs A R n c rn rc c0 c1 c2 es).2 hX
    have h1 := staysP_le nm (readP ss rs (bk0 A n c R rn rc c0 c1 c2) es).1.st
    have h2 := adds_len (ss := ss) (rs := rs) es (bk0 A n c R rn rc c0 c1 c2)
    rw [q3] at h1 ⊢
    have h3 : (bk0 A n c R rn rc c0 c1 c2).st.length = 0 := rfl
    omega
  clear hrc hch hlk hX hX0
  generalize staysR (readP ss rs (bk0 A n c R rn rc c0 c1 c2) es) nm = Y at *
  generalize whereR (onDayR ss rs (bk0 A n c R rn rc c0 c1 c2) es day) nm = Z at *
  generalize lotsOn nm day (readP ss rs (bk0 A n c R rn rc c0 c1 c2) es).1.st = on at *
  generalize staysP nm (readP ss rs (bk0 A n c R rn rc c0 c1 c2) es).1.st = us at *
  by_cases hu0 : us.length = 0
  · have hu : us = [] := List.eq_nil_of_length_eq_zero hu0
    subst hu
    have hY := HST.out
    have hL := HLO.out
    simp at hY hL
    subst hY hL
    have hZ := HOD.out
    simp at hZ
    subst hZ
    clear HST HLO HOD HCH HSM hu0
    go_wp2_with (first
      | (first
          | (go_at_call 12; refine (awake_any _).mono ?_; rintro e wq ⟨rfl, za, rfl⟩)
          | (go_at_call 13; refine (small_any ss rs _ _ _ _ _ _ _ _ _ _ (hy.keep (m := w.heap.size) (by repeat (first | exact B_refl | exact Below.refl _ _ | assumption | with_reducible refine B_alloc ?_ _ | with_reducible refine B_ext ?_ _ | with_reducible refine B_drew ?_ | with_reducible refine B_drewN ?_ _ | with_reducible refine B_set ?_ (by simp; omega) _)))).mono ?_; rintro e wq ⟨rfl, zs, rfl⟩; rw [hsm])
          | (go_at_call 19; refine (few_any es _ _ _ _ (hev.keep (m := w.heap.size) (by repeat (first | exact B_refl | exact Below.refl _ _ | assumption | with_reducible refine B_alloc ?_ _ | with_reducible refine B_ext ?_ _ | with_reducible refine B_drew ?_ | with_reducible refine B_drewN ?_ _ | with_reducible refine B_set ?_ (by simp; omega) _)))).mono ?_; rintro e wq ⟨rfl, zf, rfl⟩; rw [hfw])
          | (go_at_call 20; refine (rCheck_any ss rs _ _ _ _ _ _ _ _ _ es _ _ _ _ (hyi.keep (m := w.heap.size) (by repeat (first | exact B_refl | exact Below.refl _ _ | assumption | with_reducible refine B_alloc ?_ _ | with_reducible refine B_ext ?_ _ | with_reducible refine B_drew ?_ | with_reducible refine B_drewN ?_ _ | with_reducible refine B_set ?_ (by simp; omega) _))) (hei.keep (m := w.heap.size) (by repeat (first | exact B_refl | exact Below.refl _ _ | assumption | with_reducible refine B_alloc ?_ _ | with_reducible refine B_ext ?_ _ | with_reducible refine B_drew ?_ | with_reducible refine B_drewN ?_ _ | with_reducible refine B_set ?_ (by simp; omega) _)))).mono ?_; rintro e wq ⟨rfl, zk, rfl⟩; rw [HCK.out])
          | (go_at_call 21; refine (rIsDay_any _ _).mono ?_; rintro e wq ⟨rfl, rfl⟩; rw [hdy]))
      | (go_at_call 22; refine (HGS _ (hyi.keep (m := w.heap.size) (by repeat (first | exact B_refl | exact Below.refl _ _ | assumption | with_reducible refine B_alloc ?_ _ | with_reducible refine B_ext ?_ _ | with_reducible refine B_drew ?_ | with_reducible refine B_drewN ?_ _ | with_reducible refine B_set ?_ (by simp; omega) _))) (hei.keep (m := w.heap.size) (by repeat (first | exact B_refl | exact Below.refl _ _ | assumption | with_reducible refine B_alloc ?_ _ | with_reducible refine B_ext ?_ _ | with_reducible refine B_drew ?_ | with_reducible refine B_drewN ?_ _ | with_reducible refine B_set ?_ (by simp; omega) _)))).mono ?_; rintro e wq ⟨v, rfl, _, zy, rfl⟩)
      | (go_at_call 23; refine (HGW _ (hyi.keep (m := w.heap.size) (by repeat (first | exact B_refl | exact Below.refl _ _ | assumption | with_reducible refine B_alloc ?_ _ | with_reducible refine B_ext ?_ _ | with_reducible refine B_drew ?_ | with_reducible refine B_drewN ?_ _ | with_reducible refine B_set ?_ (by simp; omega) _))) (hei.keep (m := w.heap.size) (by repeat (first | exact B_refl | exact Below.refl _ _ | assumption | with_reducible refine B_alloc ?_ _ | with_reducible refine B_ext ?_ _ | with_reducible refine B_drew ?_ | with_reducible refine B_drewN ?_ _ | with_reducible refine B_set ?_ (by simp; omega) _)))).mono ?_; rintro e wq ⟨rfl, zw, rfl⟩; unfold retErr zeroLot Lot.v))
    go_ret
    exact Ret.of rfl (by repeat (first | exact B_refl | exact Below.refl _ _ | assumption | with_reducible refine B_alloc ?_ _ | with_reducible refine B_ext ?_ _ | with_reducible refine B_drew ?_ | with_reducible refine B_drewN ?_ _ | with_reducible refine B_set ?_ (by simp; omega) _))
  · have hY : Y = (us, 0) := by rw [HST.out]; simp [hu0]
    obtain ⟨⟨⟨z0, z1, z2, z3, z4, z5⟩, ze⟩, hZe⟩ : ∃ p, Z = p := ⟨_, rfl⟩
    have HZE := Lib.hid hZe
    subst hY
    clear HST hZe
    go_wp2_with (first
      | (first
          | (go_at_call 12; refine (awake_any _).mono ?_; rintro e wq ⟨rfl, za, rfl⟩)
          | (go_at_call 13; refine (small_any ss rs _ _ _ _ _ _ _ _ _ _ (hy.keep (m := w.heap.size) (by repeat (first | exact B_refl | exact Below.refl _ _ | assumption | with_reducible refine B_alloc ?_ _ | with_reducible refine B_ext ?_ _ | with_reducible refine B_drew ?_ | with_reducible refine B_drewN ?_ _ | with_reducible refine B_set ?_ (by simp; omega) _)))).mono ?_; rintro e wq ⟨rfl, zs, rfl⟩; rw [hsm])
          | (go_at_call 19; refine (few_any es _ _ _ _ (hev.keep (m := w.heap.size) (by repeat (first | exact B_refl | exact Below.refl _ _ | assumption | with_reducible refine B_alloc ?_ _ | with_reducible refine B_ext ?_ _ | with_reducible refine B_drew ?_ | with_reducible refine B_drewN ?_ _ | with_reducible refine B_set ?_ (by simp; omega) _)))).mono ?_; rintro e wq ⟨rfl, zf, rfl⟩; rw [hfw])
          | (go_at_call 20; refine (rCheck_any ss rs _ _ _ _ _ _ _ _ _ es _ _ _ _ (hyi.keep (m := w.heap.size) (by repeat (first | exact B_refl | exact Below.refl _ _ | assumption | with_reducible refine B_alloc ?_ _ | with_reducible refine B_ext ?_ _ | with_reducible refine B_drew ?_ | with_reducible refine B_drewN ?_ _ | with_reducible refine B_set ?_ (by simp; omega) _))) (hei.keep (m := w.heap.size) (by repeat (first | exact B_refl | exact Below.refl _ _ | assumption | with_reducible refine B_alloc ?_ _ | with_reducible refine B_ext ?_ _ | with_reducible refine B_drew ?_ | with_reducible refine B_drewN ?_ _ | with_reducible refine B_set ?_ (by simp; omega) _)))).mono ?_; rintro e wq ⟨rfl, zk, rfl⟩; rw [HCK.out])
          | (go_at_call 21; refine (rIsDay_any _ _).mono ?_; rintro e wq ⟨rfl, rfl⟩; rw [hdy]))
      | (go_at_call 22; refine (HGS _ (hyi.keep (m := w.heap.size) (by repeat (first | exact B_refl | exact Below.refl _ _ | assumption | with_reducible refine B_alloc ?_ _ | with_reducible refine B_ext ?_ _ | with_reducible refine B_drew ?_ | with_reducible refine B_drewN ?_ _ | with_reducible refine B_set ?_ (by simp; omega) _))) (hei.keep (m := w.heap.size) (by repeat (first | exact B_refl | exact Below.refl _ _ | assumption | with_reducible refine B_alloc ?_ _ | with_reducible refine B_ext ?_ _ | with_reducible refine B_drew ?_ | with_reducible refine B_drewN ?_ _ | with_reducible refine B_set ?_ (by simp; omega) _)))).mono ?_; rintro e wq ⟨v, rfl, hown, zy, rfl⟩; obtain ⟨U, uc, rfl, hS, _⟩ := own_sl stay_len hown; clear hown)
      | (go_at_call 23; refine (HGW _ (hyi.keep (m := w.heap.size) (by repeat (first | exact B_refl | exact Below.refl _ _ | assumption | with_reducible refine B_alloc ?_ _ | with_reducible refine B_ext ?_ _ | with_reducible refine B_drew ?_ | with_reducible refine B_drewN ?_ _ | with_reducible refine B_set ?_ (by simp; omega) _))) (hei.keep (m := w.heap.size) (by repeat (first | exact B_refl | exact Below.refl _ _ | assumption | with_reducible refine B_alloc ?_ _ | with_reducible refine B_ext ?_ _ | with_reducible refine B_drew ?_ | with_reducible refine B_drewN ?_ _ | with_reducible refine B_set ?_ (by simp; omega) _)))).mono ?_; rintro e wq ⟨rfl, zw, rfl⟩; rw [HZE.out]; unfold retErr Lot.v))
    generalize hW1 : World.ext (World.ext (World.ext (World.ext (World.ext ((w.alloc (.cells #[.slice A n c, .slice R rn rc, .int .i64 c0, .int .i64 c1, .int .i64 c2] 26)).alloc (.cells #[.slice E en ec, .int .i64 day, .string nm] 39)) za) zs) zf) zk) zy = W1 at *
    have hB1 : Below w.heap.size w W1 := by rw [← hW1]; repeat (first | exact B_refl | exact Below.refl _ _ | assumption | with_reducible refine B_alloc ?_ _ | with_reducible refine B_ext ?_ _ | with_reducible refine B_drew ?_ | with_reducible refine B_drewN ?_ _ | with_reducible refine B_set ?_ (by simp; omega) _)
    have hblk : W1.heap[w.heap.size + 1]? = some (.cells #[.slice E en ec, .int .i64 day, .string nm] 39) := by rw [← hW1]; (repeat (first | with_reducible exact G_new _ _ _ (by simp) | with_reducible exact G_new _ _ _ (by simp [ext_size]) | with_reducible refine G_drew ?_ | with_reducible refine G_ext ?_ | with_reducible refine G_alloc ?_))
    have hW1s : W1.heap.size = w.heap.size + 1 + 1 + za.os.size + zs.os.size + zf.os.size + zk.os.size + zy.os.size := by rw [← hW1]; simp [ext_size]
    generalize hBq : w.heap.size + 1 + 1 + za.os.size + zs.os.size + zf.os.size + zk.os.size + zy.os.size + zw.os.size = B
    generalize hW0 : World.alloc (W1.ext zw) (.cells #[.string z0, .int .i64 z1, .string z2, .int .i64 z3, .int .i64 z4, .int .i64 z5] 47) = W0
    have hB10 : Below W1.heap.size W1 W0 := by rw [← hW0]; repeat (first | exact B_refl | exact Below.refl _ _ | assumption | with_reducible refine B_alloc ?_ _ | with_reducible refine B_ext ?_ _ | with_reducible refine B_drew ?_ | with_reducible refine B_drewN ?_ _ | with_reducible refine B_set ?_ (by simp; omega) _)
    have hblkL : W0.heap[B]? = some (.cells #[.string z0, .int .i64 z1, .string z2, .int .i64 z3, .int .i64 z4, .int .i64 z5] 47) := by rw [← hW0, ← hBq]; exact G_new _ _ _ (by rw [ext_size, hW1s])
    have hblk0 := (hB10.block _ (blk_lt hblk)).trans hblk
    have hS0 := hS.keep hB10
    have hzB := blk_lt hblkL
    have hzM := blk_lt hblk0
    have hB0 : Below w.heap.size w W0 := hB1.trans (hB10.mono hB1.size)
    have m1 : W0.cell? ⟨w.heap.size + 1, 1, none⟩ = some (.int .i64 day) := by simp [World.cell?, hblk0]
    have m2 : W0.cell? ⟨w.heap.size + 1, 2, none⟩ = some (.string nm) := by simp [World.cell?, hblk0]
    have l0 : W0.cell? ⟨B, 0, none⟩ = some (.string z0) := by simp [World.cell?, hblkL]
    have l1 : W0.cell? ⟨B, 1, none⟩ = some (.int .i64 z1) := by simp [World.cell?, hblkL]
    have l2 : W0.cell? ⟨B, 2, none⟩ = some (.string z2) := by simp [World.cell?, hblkL]
    have l3 : W0.cell? ⟨B, 3, none⟩ = some (.int .i64 z3) := by simp [World.cell?, hblkL]
    have l4 : W0.cell? ⟨B, 4, none⟩ = some (.int .i64 z4) := by simp [World.cell?, hblkL]
    have l5 : W0.cell? ⟨B, 5, none⟩ = some (.int .i64 z5) := by simp [World.cell?, hblkL]
    have hul : us.length ≤ 100000 := HUL.out
    clear hW0 hBq hW1s hB10 hblkL hblk hblk0 hS hW1 hB1 HGS HGW hy hev hyi hei hsm hfw HCK
    go_loopw [9, 10] (fun la i wr => ∃ (j : Nat) (d : Int), j ≤ us.length ∧ i = .int .i64 j ∧ la = .int .i64 d ∧ Hid (LastOk us day j d) ∧ ∃ z, wr = W0.ext z) (fun _ i _ => us.length - (intOf i).toNat)
    case atStart => exact ⟨0, -1, Nat.zero_le _, rfl, rfl, .inl ⟨rfl, rfl⟩, ext_below (Below.refl _ _)⟩
    case round =>
      obtain ⟨j, d, hj, rfl, rfl, HL, z, rfl⟩ := hrel
      by_cases hlt : j < us.length
      · obtain ⟨b, off, rfl, hb, hc⟩ := hS0.at hlt
        have hrm := HSM.out us[j] (List.getElem_mem hlt)
        have hg : us[j]? = some us[j] := List.getElem?_eq_getElem hlt
        have HG := Lib.hid hg
        have hlt2 : (j : Int) < (us.length : Int) := by omega
        have hj0 : (0 : Int) ≤ (j : Int) := by omega
        have x0 : W0.cell? ⟨b, off + j * 7, none⟩ = some (.string us[j].lot.remain) := hc 0 _ rfl
        have x5 : W0.cell? ⟨b, off + j * 7 + 5, none⟩ = some (.int .i64 us[j].lot.since) := hc 5 _ rfl
        have x6 : W0.cell? ⟨b, off + j * 7 + 6, none⟩ = some (.int .i64 us[j].till) := hc 6 _ rfl
        rw [hrm] at x0
        clear hc hrm
        by_cases hl : j + 1 < us.length
        · have hl2 : decide ((j : Int) + 1 < (us.length : Int)) = true := by simp; omega
          have hl3 : ((j : Int) + 1 == (us.length : Int)) = false := by simp; omega
          have hl4 : (j : Int) + 1 < (us.length : Int) := by omega
          obtain ⟨b', off', hbb, _, hc'⟩ := hS0.at hl
          simp only [Option.some.injEq, Addr.mk.injEq, and_true] at hbb
          obtain ⟨rfl, rfl⟩ := hbb
          have y5 : W0.cell? ⟨b, off + (j + 1) * 7 + 5, none⟩ = some (.int .i64 us[j + 1].lot.since) := hc' 5 _ rfl
          have hte := chain_at HCH.out hg (List.getElem?_eq_getElem hl)
          rw [hte] at x6
          clear hc' hte hg
          generalize us[j + 1].lot.since = q at *
          generalize us[j] = s at *
          by_cases hd : s.lot.since ≤ day
          · go_wp2_with fail
            (refine wp_region_ext_lit (by kernel_rfl) (by kernel_rfl) ?_
             repeat (first | go_big_quiet_skip | (go_big_quiet_want; go_big_quiet_op; first | go_big_quiet_on | (apply Exists.intro; refine ⟨fun _ => ?_, ?_⟩; (fail); go_big_quiet_on)))
             refine wpQuiet_nil ?_
             rintro _ ⟨zq, rfl⟩)
            go_wp2_with fail
            (refine wp_region_ext_lit (by kernel_rfl) (by kernel_rfl) ?_
             repeat (first | go_big_quiet_skip | (go_big_quiet_want; go_big_quiet_op; first | go_big_quiet_on | (apply Exists.intro; refine ⟨fun _ => ?_, ?_⟩; (fail); go_big_quiet_on)))
             refine wpQuiet_nil ?_
             rintro _ ⟨zq, rfl⟩)
            go_wp2_with fail
            go_roundw
            case rel => exact ⟨j + 1, (j : Int), by omega, by go_num, rfl, by have := lastOk_step HG.out HL.out; rw [if_pos (by simpa using hd)] at this; exact this, ext_below (by repeat (first | exact B_refl | exact Below.refl _ _ | assumption | with_reducible refine B_alloc ?_ _ | with_reducible refine B_ext ?_ _ | with_reducible refine B_drew ?_ | with_reducible refine B_drewN ?_ _ | with_reducible refine B_set ?_ (by simp; omega) _))⟩
            case measure => simp [intOf]; omega
          · go_wp2_with fail
            (refine wp_region_ext_lit (by kernel_rfl) (by kernel_rfl) ?_
             repeat (first | go_big_quiet_skip | (go_big_quiet_want; go_big_quiet_op; first | go_big_quiet_on | (apply Exists.intro; refine ⟨fun _ => ?_, ?_⟩; (fail); go_big_quiet_on)))
             refine wpQuiet_nil ?_
             rintro _ ⟨zq, rfl⟩)
            go_wp2_with fail
            (refine wp_region_ext_lit (by kernel_rfl) (by kernel_rfl) ?_
             repeat (first | go_big_quiet_skip | (go_big_quiet_want; go_big_quiet_op; first | go_big_quiet_on | (apply Exists.intro; refine ⟨fun _ => ?_, ?_⟩; (fail); go_big_quiet_on)))
             refine wpQuiet_nil ?_
             rintro _ ⟨zq, rfl⟩)
            go_wp2_with fail
            go_roundw
            case rel => exact ⟨j + 1, d, by omega, by go_num, rfl, by have := lastOk_step HG.out HL.out; rw [if_neg (by simpa using hd)] at this; exact this, ext_below (by repeat (first | exact B_refl | exact Below.refl _ _ | assumption | with_reducible refine B_alloc ?_ _ | with_reducible refine B_ext ?_ _ | with_reducible refine B_drew ?_ | with_reducible refine B_drewN ?_ _ | with_reducible refine B_set ?_ (by simp; omega) _))⟩
            case measure => simp [intOf]; omega
        · have hl2 : decide ((j : Int) + 1 < (us.length : Int)) = false := by simp; omega
          have hl3 : ((j : Int) + 1 == (us.length : Int)) = true := by simp; omega
          have hte := chain_last HCH.out hg (by omega)
          rw [hte] at x6
          clear hte hg
          generalize us[j] = s at *
          by_cases hd : s.lot.since ≤ day
          · go_wp2_with fail
            (refine wp_region_ext_lit (by kernel_rfl) (by kernel_rfl) ?_
             repeat (first | go_big_quiet_skip | (go_big_quiet_want; go_big_quiet_op; first | go_big_quiet_on | (apply Exists.intro; refine ⟨fun _ => ?_, ?_⟩; (fail); go_big_quiet_on)))
             refine wpQuiet_nil ?_
             rintro _ ⟨zq, rfl⟩)
            go_wp2_with fail
            (refine wp_region_ext_lit (by kernel_rfl) (by kernel_rfl) ?_
             repeat (first | go_big_quiet_skip | (go_big_quiet_want; go_big_quiet_op; first | go_big_quiet_on | (apply Exists.intro; refine ⟨fun _ => ?_, ?_⟩; (fail); go_big_quiet_on)))
             refine wpQuiet_nil ?_
             rintro _ ⟨zq, rfl⟩)
            go_wp2_with fail
            go_roundw
            case rel => exact ⟨j + 1, (j : Int), by omega, by go_num, rfl, by have := lastOk_step HG.out HL.out; rw [if_pos (by simpa using hd)] at this; exact this, ext_below (by repeat (first | exact B_refl | exact Below.refl _ _ | assumption | with_reducible refine B_alloc ?_ _ | with_reducible refine B_ext ?_ _ | with_reducible refine B_drew ?_ | with_reducible refine B_drewN ?_ _ | with_reducible refine B_set ?_ (by simp; omega) _))⟩
            case measure => simp [intOf]; omega
          · go_wp2_with fail
            (refine wp_region_ext_lit (by kernel_rfl) (by kernel_rfl) ?_
             repeat (first | go_big_quiet_skip | (go_big_quiet_want; go_big_quiet_op; first | go_big_quiet_on | (apply Exists.intro; refine ⟨fun _ => ?_, ?_⟩; (fail); go_big_quiet_on)))
             refine wpQuiet_nil ?_
             rintro _ ⟨zq, rfl⟩)
            go_wp2_with fail
            (refine wp_region_ext_lit (by kernel_rfl) (by kernel_rfl) ?_
             repeat (first | go_big_quiet_skip | (go_big_quiet_want; go_big_quiet_op; first | go_big_quiet_on | (apply Exists.intro; refine ⟨fun _ => ?_, ?_⟩; (fail); go_big_quiet_on)))
             refine wpQuiet_nil ?_
             rintro _ ⟨zq, rfl⟩)
            go_wp2_with fail
            go_roundw
            case rel => exact ⟨j + 1, d, by omega, by go_num, rfl, by have := lastOk_step HG.out HL.out; rw [if_neg (by simpa using hd)] at this; exact this, ext_below (by repeat (first | exact B_refl | exact Below.refl _ _ | assumption | with_reducible refine B_alloc ?_ _ | with_reducible refine B_ext ?_ _ | with_reducible refine B_drew ?_ | with_reducible refine B_drewN ?_ _ | with_reducible refine B_set ?_ (by simp; omega) _))⟩
            case measure => simp [intOf]; omega
      · have hje : j = us.length := by omega
        subst hje
        have hL := HL.out
        have hZ := HZE.out
        rw [HOD.out] at hZ
        unfold LastOk at hL
        rw [List.take_length, ← HLO.out] at hL
        rcases hL with ⟨rfl, hn⟩ | ⟨m, s, rfl, hm, hg, hlast⟩
        · rw [hn] at hZ
          simp only [List.getLast?_nil, Prod.mk.injEq, zeroLot, Lot.mk.injEq] at hZ
          obtain ⟨⟨rfl, rfl, rfl, rfl, rfl, rfl⟩, rfl⟩ := hZ
          clear HL HZE HOD HLO hn
          go_wp2_with fail
          go_ret
          exact Ret.of rfl (by repeat (first | exact B_refl | exact Below.refl _ _ | assumption | with_reducible refine B_alloc ?_ _ | with_reducible refine B_ext ?_ _ | with_reducible refine B_drew ?_ | with_reducible refine B_drewN ?_ _ | with_reducible refine B_set ?_ (by simp; omega) _))
        · rw [hlast] at hZ
          simp only [Prod.mk.injEq] at hZ
          obtain ⟨hZ, rfl⟩ := hZ
          obtain ⟨b, off, rfl, hb, hc⟩ := hS0.at hm
          have hge : us[m] = s := (List.getElem?_eq_some_iff.1 hg).2
          rw [hge] at hc
          obtain ⟨sl, st⟩ := s
          dsimp only at hZ
          subst hZ
          have x0 : W0.cell? ⟨b, off + m * 7, none⟩ = some (.string z0) := hc 0 _ rfl
          have x1 : W0.cell? ⟨b, off + m * 7 + 1, none⟩ = some (.int .i64 z1) := hc 1 _ rfl
          have x2 : W0.cell? ⟨b, off + m * 7 + 2, none⟩ = some (.string z2) := hc 2 _ rfl
          have x3 : W0.cell? ⟨b, off + m * 7 + 3, none⟩ = some (.int .i64 z3) := hc 3 _ rfl
          have x4 : W0.cell? ⟨b, off + m * 7 + 4, none⟩ = some (.int .i64 z4) := hc 4 _ rfl
          have x5 : W0.cell? ⟨b, off + m * 7 + 5, none⟩ = some (.int .i64 z5) := hc 5 _ rfl
          have hm2 : (m : Int) < (us.length : Int) := by omega
          have hm0 : (0 : Int) ≤ (m : Int) := by omega
          clear HL HZE HOD HLO hc hge hg hlast
          go_wp2_with fail
          (refine wp_region_ext_lit (by kernel_rfl) (by kernel_rfl) ?_
           repeat (first | go_big_quiet_skip | (go_big_quiet_want; go_big_quiet_op; first | go_big_quiet_on | (apply Exists.intro; refine ⟨fun _ => ?_, ?_⟩; (fail); go_big_quiet_on)))
           refine wpQuiet_nil ?_
           rintro _ ⟨zq, rfl⟩)
          go_wp2_with fail
          go_ret
          exact Ret.of rfl (by repeat (first | exact B_refl | exact Below.refl _ _ | assumption | with_reducible refine B_alloc ?_ _ | with_reducible refine B_ext ?_ _ | with_reducible refine B_drew ?_ | with_reducible refine B_drewN ?_ _ | with_reducible refine B_set ?_ (by simp; omega) _))
end Go.Proofs.Ytmiobhlgpjjbgaa
