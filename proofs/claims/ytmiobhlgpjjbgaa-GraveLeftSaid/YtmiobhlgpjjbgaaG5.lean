/- Walk: the law GraveLeft. -/
/- GraveLeft: for every yard, events and question the law returns true, and the input reads as it did. No conditions. -/
import Derived.Test.YtmiobhlgpjjbgaaQA
import Derived.Test.YtmiobhlgpjjbgaaL3
import Derived.Test.YtmiobhlgpjjbgaaRows
import Derived.Test.YtmiobhlgpjjbgaaD1
namespace Go.Proofs.Ytmiobhlgpjjbgaa
open Go.RowKit
attribute [local go_sem] World.cell?_alloc_mark ext_size ext_cell ext_frozen lt_add_r lt_add_r2 lt_add_r3 lt_add_r4 lt_add_r5 lt_add_r6 lt_add_r7 lt_add_r8

theorem gFirst_w4 (ss : List Site) (rs : List Rest) (A R : Option Addr) (n c rn rc : Nat) (c0 c1 c2 : Int) (es : List Event) (L : Option Addr) (ln lc : Nat) (nm : ByteArray) (lv co day : Int) (w : World) (hy : YardIn w ss rs A n c R rn rc) (hev : EventsIn w es L ln) :
    Calls Try.prog 35 #[.agg #[.slice A n c, .slice R rn rc, .int .i64 c0, .int .i64 c1, .int .i64 c2], .slice L ln lc, .agg #[.string nm, .int .i64 lv], .int .i64 co, .int .i64 day] w (Ret w (ret2 (firstW c0 c1 c2 ss rs es nm lv co day))) := by
  rw [← firstR_w ss rs A R n c rn rc c0 c1 c2 es nm lv co day]
  exact gFirst_any ss rs A R n c rn rc c0 c1 c2 es L ln lc nm lv co day w hy hev
theorem gLeft_w4 (ss : List Site) (rs : List Rest) (A R : Option Addr) (n c rn rc : Nat) (c0 c1 c2 : Int) (es : List Event) (L : Option Addr) (ln lc : Nat) (nm : ByteArray) (co : Int) (w : World) (hy : YardIn w ss rs A n c R rn rc) (hev : EventsIn w es L ln) :
    Calls Try.prog 36 #[.agg #[.slice A n c, .slice R rn rc, .int .i64 c0, .int .i64 c1, .int .i64 c2], .slice L ln lc, .string nm, .int .i64 co] w (Ret w (ret2 (leftW c0 c1 c2 ss rs es nm co))) := by
  rw [← leftR_w ss rs A R n c rn rc c0 c1 c2 es nm co]
  exact gLeft_any ss rs A R n c rn rc c0 c1 c2 es L ln lc nm co w hy hev
/-- The names of the burials that the law makes. -/
def nameZ (k : Nat) : ByteArray := ⟨#[122, 122, 45, UInt8.ofNat (97 + k)]⟩
theorem nameZ_is : ∀ k : Nat, k < 13 → isNameP (nameZ k) = true := by decide +kernel
theorem nameZ_ne : ∀ i : Nat, i < 13 → ∀ k : Nat, k < 13 → i ≠ k → nameZ i ≠ nameZ k := by
  intro i hi k hk h e
  have := congrArg ByteArray.toList e
  revert i k
  decide
def zzP (s : ByteArray) : Bool := decide (2 < (s.size : Int)) && ((s.extract 0 2).toList == [122, 122])
theorem nameZ_cell (k : Nat) (hk : k < 13) : (#[.string ⟨#[122, 122, 45, 97]⟩, .string ⟨#[122, 122, 45, 98]⟩, .string ⟨#[122, 122, 45, 99]⟩, .string ⟨#[122, 122, 45, 100]⟩, .string ⟨#[122, 122, 45, 101]⟩, .string ⟨#[122, 122, 45, 102]⟩, .string ⟨#[122, 122, 45, 103]⟩, .string ⟨#[122, 122, 45, 104]⟩, .string ⟨#[122, 122, 45, 105]⟩, .string ⟨#[122, 122, 45, 106]⟩, .string ⟨#[122, 122, 45, 107]⟩, .string ⟨#[122, 122, 45, 108]⟩, .string ⟨#[122, 122, 45, 109]⟩] : Array Value)[k]? = some (.string (nameZ k)) := by
  rcases (by omega : k = 0 ∨ k = 1 ∨ k = 2 ∨ k = 3 ∨ k = 4 ∨ k = 5 ∨ k = 6 ∨ k = 7 ∨ k = 8 ∨ k = 9 ∨ k = 10 ∨ k = 11 ∨ k = 12) with rfl | rfl | rfl | rfl | rfl | rfl | rfl | rfl | rfl | rfl | rfl | rfl | rfl <;> rfl
theorem nameZ_zz : ∀ k : Nat, k < 13 → zzP (nameZ k) = true := by decide +kernel
theorem nameZ_size (k : Nat) : (nameZ k).size ≤ 100000 := by
  show 4 ≤ 100000
  decide
/-- Behind the first j burials of the law. -/
structure LeftSt (c0 c1 c2 : Int) (ss : List Site) (rs : List Rest) (es more : List Event) (si : ByteArray) (co room : Int) (N j : Nat) : Prop where
  check : rCheckP c0 c1 c2 ss rs more = 0
  len : more.length = es.length + j
  free : (freeN c0 c1 c2 ss (rReplayP c0 c1 c2 ss rs more).1 si co room).length + j = N
  of : ∀ e ∈ more, e ∈ es ∨ ∃ i, i < j ∧ e.remain = nameZ i
section
variable {c0 c1 c2 : Int} {ss : List Site} {rs : List Rest} {es more : List Event} {si : ByteArray} {s : Site} {co : Int} {N j : Nat}
theorem left_none (h : LeftSt c0 c1 c2 ss rs es more si co s.room N j) (hs : findSite si ss = some s) (hc : inR co 0 2 = true) (hf : freeN c0 c1 c2 ss (rReplayP c0 c1 c2 ss rs more).1 si co s.room = []) :
    firstW c0 c1 c2 ss rs more si 0 co 200000 = (0, 16) ∧ j = N := by
  refine ⟨?_, ?_⟩
  · rw [first_head h.check hs hc, hf]
  · have := h.free
    rw [hf] at this
    simpa using this
theorem left_next {x : Int} {r : List Int} (h : LeftSt c0 c1 c2 ss rs es more si co s.room N j) (hs : findSite si ss = some s) (hc : inR co 0 2 = true) (hk : s.kind ≠ 3) (hj : j < 13) (hl : es.length ≤ 16) (hz : ∀ e ∈ es, zzP e.remain = false)
    (hf : freeN c0 c1 c2 ss (rReplayP c0 c1 c2 ss rs more).1 si co s.room = x :: r) :
    firstW c0 c1 c2 ss rs more si 0 co 200000 = (x, 0) ∧ addW c0 c1 c2 ss rs more ⟨200000, 0, si, x, nameZ j, co, false⟩ = (more ++ [⟨200000, 0, si, x, nameZ j, co, false⟩], 0) ∧
      LeftSt c0 c1 c2 ss rs es (more ++ [⟨200000, 0, si, x, nameZ j, co, false⟩]) si co s.room N (j + 1) := by
  have hlen := h.len
  obtain ⟨h1, h2, h3⟩ := left_step h.check hs hc hk (by omega) (nameZ_is j hj) (fun e he heq => by
    rcases h.of e he with he | ⟨i, hi, hie⟩
    · have h4 := hz e he
      rw [heq, nameZ_zz j hj] at h4
      cases h4
    · rw [heq] at hie
      exact nameZ_ne j hj i (by omega) (by omega) hie) hf
  refine ⟨by rw [first_head h.check hs hc, hf], h1, h2, by simp; omega, ?_, fun e he => ?_⟩
  · have := h.free
    rw [hf] at this
    rw [h3]
    simp only [List.length_cons] at this
    omega
  · rcases List.mem_append.1 he with he | he
    · rcases h.of e he with h4 | ⟨i, hi, h5⟩
      · exact .inl h4
      · exact .inr ⟨i, by omega, h5⟩
    · have : e = ⟨200000, 0, si, x, nameZ j, co, false⟩ := by simpa using he
      subst this
      exact .inr ⟨j, by omega, rfl⟩
end

set_option maxRecDepth 100000 in
set_option maxHeartbeats 2000000 in
theorem graveLeft_any (ss : List Site) (rs : List Rest) (A R : Option Addr) (n c rn rc : Nat) (c0 c1 c2 : Int) (es : List Event) (E : Option Addr) (en ec : Nat) (si : ByteArray) (lv co day : Int) (w : World) (hy : YardRaw w ss rs A n c R rn rc) (hev : EventsRaw w es E en) (hcap : es.length ≤ ec) :
    Calls Try.prog 7 #[.agg #[.slice A n c, .slice R rn rc, .int .i64 c0, .int .i64 c1, .int .i64 c2], .slice E en ec, .agg #[.string si, .int .i64 lv, .int .i64 co, .int .i64 day]] w (Ret w (.bool true)) := by
  go_enter Try.func7, Try.ntmps7
  cases hsm : smallP ss rs
  · go_wp2_with (first
                  | (go_at_call 12; refine (awake_any _).mono ?_; rintro e wq ⟨rfl, za, rfl⟩)
                  | (go_at_call 13; refine (small_any ss rs _ _ _ _ _ _ _ _ _ _ (hy.keep (m := w.heap.size) (by repeat (first | exact B_refl | exact Below.refl _ _ | assumption | with_reducible refine B_alloc ?_ _ | with_reducible refine B_ext ?_ _ | with_reducible refine B_drew ?_ | with_reducible refine B_drewN ?_ _ | with_reducible refine B_set ?_ (by simp; omega) _)))).mono ?_; rintro e wq ⟨rfl, zs, rfl⟩; rw [hsm])
                  | (go_at_call 19; refine (few_any es _ _ _ _ (hev.keep (m := w.heap.size) (by repeat (first | exact B_refl | exact Below.refl _ _ | assumption | with_reducible refine B_alloc ?_ _ | with_reducible refine B_ext ?_ _ | with_reducible refine B_drew ?_ | with_reducible refine B_drewN ?_ _ | with_reducible refine B_set ?_ (by simp; omega) _)))).mono ?_; rintro e wq ⟨rfl, zf, rfl⟩; rw [hfw])
                  | (go_at_call 20; refine (rCheck_any ss rs _ _ _ _ _ _ _ _ _ es _ _ _ _ (hyi.keep (m := w.heap.size) (by repeat (first | exact B_refl | exact Below.refl _ _ | assumption | with_reducible refine B_alloc ?_ _ | with_reducible refine B_ext ?_ _ | with_reducible refine B_drew ?_ | with_reducible refine B_drewN ?_ _ | with_reducible refine B_set ?_ (by simp; omega) _))) (hei.keep (m := w.heap.size) (by repeat (first | exact B_refl | exact Below.refl _ _ | assumption | with_reducible refine B_alloc ?_ _ | with_reducible refine B_ext ?_ _ | with_reducible refine B_drew ?_ | with_reducible refine B_drewN ?_ _ | with_reducible refine B_set ?_ (by simp; omega) _)))).mono ?_; rintro e wq ⟨rfl, zk, rfl⟩; rw [HCK.out])
                  | (go_at_call 28; refine (rIsContainer_any _ _).mono ?_; rintro e wq ⟨rfl, rfl⟩; rw [hgc])
                  | (go_at_call 27; refine (rSite_any ss rs _ _ _ _ _ _ _ _ _ _ _ (hyi.keep (m := w.heap.size) (by repeat (first | exact B_refl | exact Below.refl _ _ | assumption | with_reducible refine B_alloc ?_ _ | with_reducible refine B_ext ?_ _ | with_reducible refine B_drew ?_ | with_reducible refine B_drewN ?_ _ | with_reducible refine B_set ?_ (by simp; omega) _)))).mono ?_; rintro e wq ⟨rfl, zt, rfl⟩; rw [hsi])
                  | (go_at_call 36; refine (HLF _ (hyi.keep (m := w.heap.size) (by repeat (first | exact B_refl | exact Below.refl _ _ | assumption | with_reducible refine B_alloc ?_ _ | with_reducible refine B_ext ?_ _ | with_reducible refine B_drew ?_ | with_reducible refine B_drewN ?_ _ | with_reducible refine B_set ?_ (by simp; omega) _))) (hei.keep (m := w.heap.size) (by repeat (first | exact B_refl | exact Below.refl _ _ | assumption | with_reducible refine B_alloc ?_ _ | with_reducible refine B_ext ?_ _ | with_reducible refine B_drew ?_ | with_reducible refine B_drewN ?_ _ | with_reducible refine B_set ?_ (by simp; omega) _)))).mono ?_; rintro e wq ⟨rfl, zq, rfl⟩; unfold ret2))
    go_ret
    exact Ret.of rfl (by repeat (first | exact B_refl | exact Below.refl _ _ | assumption | with_reducible refine B_alloc ?_ _ | with_reducible refine B_ext ?_ _ | with_reducible refine B_drew ?_ | with_reducible refine B_drewN ?_ _ | with_reducible refine B_set ?_ (by simp; omega) _))
  obtain ⟨hyi, hyl1, hyl2⟩ := small_yard hy hsm
  cases hfw : fewP es
  · go_wp2_with (first
                  | (go_at_call 12; refine (awake_any _).mono ?_; rintro e wq ⟨rfl, za, rfl⟩)
                  | (go_at_call 13; refine (small_any ss rs _ _ _ _ _ _ _ _ _ _ (hy.keep (m := w.heap.size) (by repeat (first | exact B_refl | exact Below.refl _ _ | assumption | with_reducible refine B_alloc ?_ _ | with_reducible refine B_ext ?_ _ | with_reducible refine B_drew ?_ | with_reducible refine B_drewN ?_ _ | with_reducible refine B_set ?_ (by simp; omega) _)))).mono ?_; rintro e wq ⟨rfl, zs, rfl⟩; rw [hsm])
                  | (go_at_call 19; refine (few_any es _ _ _ _ (hev.keep (m := w.heap.size) (by repeat (first | exact B_refl | exact Below.refl _ _ | assumption | with_reducible refine B_alloc ?_ _ | with_reducible refine B_ext ?_ _ | with_reducible refine B_drew ?_ | with_reducible refine B_drewN ?_ _ | with_reducible refine B_set ?_ (by simp; omega) _)))).mono ?_; rintro e wq ⟨rfl, zf, rfl⟩; rw [hfw])
                  | (go_at_call 20; refine (rCheck_any ss rs _ _ _ _ _ _ _ _ _ es _ _ _ _ (hyi.keep (m := w.heap.size) (by repeat (first | exact B_refl | exact Below.refl _ _ | assumption | with_reducible refine B_alloc ?_ _ | with_reducible refine B_ext ?_ _ | with_reducible refine B_drew ?_ | with_reducible refine B_drewN ?_ _ | with_reducible refine B_set ?_ (by simp; omega) _))) (hei.keep (m := w.heap.size) (by repeat (first | exact B_refl | exact Below.refl _ _ | assumption | with_reducible refine B_alloc ?_ _ | with_reducible refine B_ext ?_ _ | with_reducible refine B_drew ?_ | with_reducible refine B_drewN ?_ _ | with_reducible refine B_set ?_ (by simp; omega) _)))).mono ?_; rintro e wq ⟨rfl, zk, rfl⟩; rw [HCK.out])
                  | (go_at_call 28; refine (rIsContainer_any _ _).mono ?_; rintro e wq ⟨rfl, rfl⟩; rw [hgc])
                  | (go_at_call 27; refine (rSite_any ss rs _ _ _ _ _ _ _ _ _ _ _ (hyi.keep (m := w.heap.size) (by repeat (first | exact B_refl | exact Below.refl _ _ | assumption | with_reducible refine B_alloc ?_ _ | with_reducible refine B_ext ?_ _ | with_reducible refine B_drew ?_ | with_reducible refine B_drewN ?_ _ | with_reducible refine B_set ?_ (by simp; omega) _)))).mono ?_; rintro e wq ⟨rfl, zt, rfl⟩; rw [hsi])
                  | (go_at_call 36; refine (HLF _ (hyi.keep (m := w.heap.size) (by repeat (first | exact B_refl | exact Below.refl _ _ | assumption | with_reducible refine B_alloc ?_ _ | with_reducible refine B_ext ?_ _ | with_reducible refine B_drew ?_ | with_reducible refine B_drewN ?_ _ | with_reducible refine B_set ?_ (by simp; omega) _))) (hei.keep (m := w.heap.size) (by repeat (first | exact B_refl | exact Below.refl _ _ | assumption | with_reducible refine B_alloc ?_ _ | with_reducible refine B_ext ?_ _ | with_reducible refine B_drew ?_ | with_reducible refine B_drewN ?_ _ | with_reducible refine B_set ?_ (by simp; omega) _)))).mono ?_; rintro e wq ⟨rfl, zq, rfl⟩; unfold ret2))
    go_ret
    exact Ret.of rfl (by repeat (first | exact B_refl | exact Below.refl _ _ | assumption | with_reducible refine B_alloc ?_ _ | with_reducible refine B_ext ?_ _ | with_reducible refine B_drew ?_ | with_reducible refine B_drewN ?_ _ | with_reducible refine B_set ?_ (by simp; omega) _))
  obtain ⟨hei, hel1, hel2⟩ := few_events hev hfw
  have hen := hei.hn
  subst hen
  obtain ⟨X, hX⟩ : ∃ X, rCheckP c0 c1 c2 ss rs es = X := ⟨_, rfl⟩
  have HCK := Lib.hid hX
  cases hX0 : (X != 0)
  rotate_left
  · clear hX
    go_wp2_with (first
                  | (go_at_call 12; refine (awake_any _).mono ?_; rintro e wq ⟨rfl, za, rfl⟩)
                  | (go_at_call 13; refine (small_any ss rs _ _ _ _ _ _ _ _ _ _ (hy.keep (m := w.heap.size) (by repeat (first | exact B_refl | exact Below.refl _ _ | assumption | with_reducible refine B_alloc ?_ _ | with_reducible refine B_ext ?_ _ | with_reducible refine B_drew ?_ | with_reducible refine B_drewN ?_ _ | with_reducible refine B_set ?_ (by simp; omega) _)))).mono ?_; rintro e wq ⟨rfl, zs, rfl⟩; rw [hsm])
                  | (go_at_call 19; refine (few_any es _ _ _ _ (hev.keep (m := w.heap.size) (by repeat (first | exact B_refl | exact Below.refl _ _ | assumption | with_reducible refine B_alloc ?_ _ | with_reducible refine B_ext ?_ _ | with_reducible refine B_drew ?_ | with_reducible refine B_drewN ?_ _ | with_reducible refine B_set ?_ (by simp; omega) _)))).mono ?_; rintro e wq ⟨rfl, zf, rfl⟩; rw [hfw])
                  | (go_at_call 20; refine (rCheck_any ss rs _ _ _ _ _ _ _ _ _ es _ _ _ _ (hyi.keep (m := w.heap.size) (by repeat (first | exact B_refl | exact Below.refl _ _ | assumption | with_reducible refine B_alloc ?_ _ | with_reducible refine B_ext ?_ _ | with_reducible refine B_drew ?_ | with_reducible refine B_drewN ?_ _ | with_reducible refine B_set ?_ (by simp; omega) _))) (hei.keep (m := w.heap.size) (by repeat (first | exact B_refl | exact Below.refl _ _ | assumption | with_reducible refine B_alloc ?_ _ | with_reducible refine B_ext ?_ _ | with_reducible refine B_drew ?_ | with_reducible refine B_drewN ?_ _ | with_reducible refine B_set ?_ (by simp; omega) _)))).mono ?_; rintro e wq ⟨rfl, zk, rfl⟩; rw [HCK.out])
                  | (go_at_call 28; refine (rIsContainer_any _ _).mono ?_; rintro e wq ⟨rfl, rfl⟩; rw [hgc])
                  | (go_at_call 27; refine (rSite_any ss rs _ _ _ _ _ _ _ _ _ _ _ (hyi.keep (m := w.heap.size) (by repeat (first | exact B_refl | exact Below.refl _ _ | assumption | with_reducible refine B_alloc ?_ _ | with_reducible refine B_ext ?_ _ | with_reducible refine B_drew ?_ | with_reducible refine B_drewN ?_ _ | with_reducible refine B_set ?_ (by simp; omega) _)))).mono ?_; rintro e wq ⟨rfl, zt, rfl⟩; rw [hsi])
                  | (go_at_call 36; refine (HLF _ (hyi.keep (m := w.heap.size) (by repeat (first | exact B_refl | exact Below.refl _ _ | assumption | with_reducible refine B_alloc ?_ _ | with_reducible refine B_ext ?_ _ | with_reducible refine B_drew ?_ | with_reducible refine B_drewN ?_ _ | with_reducible refine B_set ?_ (by simp; omega) _))) (hei.keep (m := w.heap.size) (by repeat (first | exact B_refl | exact Below.refl _ _ | assumption | with_reducible refine B_alloc ?_ _ | with_reducible refine B_ext ?_ _ | with_reducible refine B_drew ?_ | with_reducible refine B_drewN ?_ _ | with_reducible refine B_set ?_ (by simp; omega) _)))).mono ?_; rintro e wq ⟨rfl, zq, rfl⟩; unfold ret2))
    go_ret
    exact Ret.of rfl (by repeat (first | exact B_refl | exact Below.refl _ _ | assumption | with_reducible refine B_alloc ?_ _ | with_reducible refine B_ext ?_ _ | with_reducible refine B_drew ?_ | with_reducible refine B_drewN ?_ _ | with_reducible refine B_set ?_ (by simp; omega) _))
  have hX1 : X = 0 := by simpa using hX0
  subst hX1
  cases hgc : inR co 0 2
  · clear hX
    go_wp2_with (first
                  | (go_at_call 12; refine (awake_any _).mono ?_; rintro e wq ⟨rfl, za, rfl⟩)
                  | (go_at_call 13; refine (small_any ss rs _ _ _ _ _ _ _ _ _ _ (hy.keep (m := w.heap.size) (by repeat (first | exact B_refl | exact Below.refl _ _ | assumption | with_reducible refine B_alloc ?_ _ | with_reducible refine B_ext ?_ _ | with_reducible refine B_drew ?_ | with_reducible refine B_drewN ?_ _ | with_reducible refine B_set ?_ (by simp; omega) _)))).mono ?_; rintro e wq ⟨rfl, zs, rfl⟩; rw [hsm])
                  | (go_at_call 19; refine (few_any es _ _ _ _ (hev.keep (m := w.heap.size) (by repeat (first | exact B_refl | exact Below.refl _ _ | assumption | with_reducible refine B_alloc ?_ _ | with_reducible refine B_ext ?_ _ | with_reducible refine B_drew ?_ | with_reducible refine B_drewN ?_ _ | with_reducible refine B_set ?_ (by simp; omega) _)))).mono ?_; rintro e wq ⟨rfl, zf, rfl⟩; rw [hfw])
                  | (go_at_call 20; refine (rCheck_any ss rs _ _ _ _ _ _ _ _ _ es _ _ _ _ (hyi.keep (m := w.heap.size) (by repeat (first | exact B_refl | exact Below.refl _ _ | assumption | with_reducible refine B_alloc ?_ _ | with_reducible refine B_ext ?_ _ | with_reducible refine B_drew ?_ | with_reducible refine B_drewN ?_ _ | with_reducible refine B_set ?_ (by simp; omega) _))) (hei.keep (m := w.heap.size) (by repeat (first | exact B_refl | exact Below.refl _ _ | assumption | with_reducible refine B_alloc ?_ _ | with_reducible refine B_ext ?_ _ | with_reducible refine B_drew ?_ | with_reducible refine B_drewN ?_ _ | with_reducible refine B_set ?_ (by simp; omega) _)))).mono ?_; rintro e wq ⟨rfl, zk, rfl⟩; rw [HCK.out])
                  | (go_at_call 28; refine (rIsContainer_any _ _).mono ?_; rintro e wq ⟨rfl, rfl⟩; rw [hgc])
                  | (go_at_call 27; refine (rSite_any ss rs _ _ _ _ _ _ _ _ _ _ _ (hyi.keep (m := w.heap.size) (by repeat (first | exact B_refl | exact Below.refl _ _ | assumption | with_reducible refine B_alloc ?_ _ | with_reducible refine B_ext ?_ _ | with_reducible refine B_drew ?_ | with_reducible refine B_drewN ?_ _ | with_reducible refine B_set ?_ (by simp; omega) _)))).mono ?_; rintro e wq ⟨rfl, zt, rfl⟩; rw [hsi])
                  | (go_at_call 36; refine (HLF _ (hyi.keep (m := w.heap.size) (by repeat (first | exact B_refl | exact Below.refl _ _ | assumption | with_reducible refine B_alloc ?_ _ | with_reducible refine B_ext ?_ _ | with_reducible refine B_drew ?_ | with_reducible refine B_drewN ?_ _ | with_reducible refine B_set ?_ (by simp; omega) _))) (hei.keep (m := w.heap.size) (by repeat (first | exact B_refl | exact Below.refl _ _ | assumption | with_reducible refine B_alloc ?_ _ | with_reducible refine B_ext ?_ _ | with_reducible refine B_drew ?_ | with_reducible refine B_drewN ?_ _ | with_reducible refine B_set ?_ (by simp; omega) _)))).mono ?_; rintro e wq ⟨rfl, zq, rfl⟩; unfold ret2))
    go_ret
    exact Ret.of rfl (by repeat (first | exact B_refl | exact Below.refl _ _ | assumption | with_reducible refine B_alloc ?_ _ | with_reducible refine B_ext ?_ _ | with_reducible refine B_drew ?_ | with_reducible refine B_drewN ?_ _ | with_reducible refine B_set ?_ (by simp; omega) _))
  cases hf : findSite si ss with
  | none =>
    have hsi : rSiteR si ss = -1 := by rw [rSiteR, siteIdx_none hf]
    clear hX hf
    go_wp2_with (first
                  | (go_at_call 12; refine (awake_any _).mono ?_; rintro e wq ⟨rfl, za, rfl⟩)
                  | (go_at_call 13; refine (small_any ss rs _ _ _ _ _ _ _ _ _ _ (hy.keep (m := w.heap.size) (by repeat (first | exact B_refl | exact Below.refl _ _ | assumption | with_reducible refine B_alloc ?_ _ | with_reducible refine B_ext ?_ _ | with_reducible refine B_drew ?_ | with_reducible refine B_drewN ?_ _ | with_reducible refine B_set ?_ (by simp; omega) _)))).mono ?_; rintro e wq ⟨rfl, zs, rfl⟩; rw [hsm])
                  | (go_at_call 19; refine (few_any es _ _ _ _ (hev.keep (m := w.heap.size) (by repeat (first | exact B_refl | exact Below.refl _ _ | assumption | with_reducible refine B_alloc ?_ _ | with_reducible refine B_ext ?_ _ | with_reducible refine B_drew ?_ | with_reducible refine B_drewN ?_ _ | with_reducible refine B_set ?_ (by simp; omega) _)))).mono ?_; rintro e wq ⟨rfl, zf, rfl⟩; rw [hfw])
                  | (go_at_call 20; refine (rCheck_any ss rs _ _ _ _ _ _ _ _ _ es _ _ _ _ (hyi.keep (m := w.heap.size) (by repeat (first | exact B_refl | exact Below.refl _ _ | assumption | with_reducible refine B_alloc ?_ _ | with_reducible refine B_ext ?_ _ | with_reducible refine B_drew ?_ | with_reducible refine B_drewN ?_ _ | with_reducible refine B_set ?_ (by simp; omega) _))) (hei.keep (m := w.heap.size) (by repeat (first | exact B_refl | exact Below.refl _ _ | assumption | with_reducible refine B_alloc ?_ _ | with_reducible refine B_ext ?_ _ | with_reducible refine B_drew ?_ | with_reducible refine B_drewN ?_ _ | with_reducible refine B_set ?_ (by simp; omega) _)))).mono ?_; rintro e wq ⟨rfl, zk, rfl⟩; rw [HCK.out])
                  | (go_at_call 28; refine (rIsContainer_any _ _).mono ?_; rintro e wq ⟨rfl, rfl⟩; rw [hgc])
                  | (go_at_call 27; refine (rSite_any ss rs _ _ _ _ _ _ _ _ _ _ _ (hyi.keep (m := w.heap.size) (by repeat (first | exact B_refl | exact Below.refl _ _ | assumption | with_reducible refine B_alloc ?_ _ | with_reducible refine B_ext ?_ _ | with_reducible refine B_drew ?_ | with_reducible refine B_drewN ?_ _ | with_reducible refine B_set ?_ (by simp; omega) _)))).mono ?_; rintro e wq ⟨rfl, zt, rfl⟩; rw [hsi])
                  | (go_at_call 36; refine (HLF _ (hyi.keep (m := w.heap.size) (by repeat (first | exact B_refl | exact Below.refl _ _ | assumption | with_reducible refine B_alloc ?_ _ | with_reducible refine B_ext ?_ _ | with_reducible refine B_drew ?_ | with_reducible refine B_drewN ?_ _ | with_reducible refine B_set ?_ (by simp; omega) _))) (hei.keep (m := w.heap.size) (by repeat (first | exact B_refl | exact Below.refl _ _ | assumption | with_reducible refine B_alloc ?_ _ | with_reducible refine B_ext ?_ _ | with_reducible refine B_drew ?_ | with_reducible refine B_drewN ?_ _ | with_reducible refine B_set ?_ (by simp; omega) _)))).mono ?_; rintro e wq ⟨rfl, zq, rfl⟩; unfold ret2))
    go_ret
    exact Ret.of rfl (by repeat (first | exact B_refl | exact Below.refl _ _ | assumption | with_reducible refine B_alloc ?_ _ | with_reducible refine B_ext ?_ _ | with_reducible refine B_drew ?_ | with_reducible refine B_drewN ?_ _ | with_reducible refine B_set ?_ (by simp; omega) _))
  | some s =>
  obtain ⟨i0, hik, _⟩ := siteIdx_some hf
  have hsi : rSiteR si ss = (i0 : Int) := by rw [rSiteR, hik]
  have hi0 : ¬ ((i0 : Int) < 0) := by omega
  have HLF := fun W h1 h2 => gLeft_w4 ss rs A R n c rn rc c0 c1 c2 es E es.length ec si co W h1 h2
  have hLF : leftW c0 c1 c2 ss rs es si co = if s.kind == 3 then (0, 15) else (((freeN c0 c1 c2 ss (rReplayP c0 c1 c2 ss rs es).1 si co s.room).length : Int), 0) := by
    unfold leftW
    rw [if_neg (by simp [hX]), hf]
    dsimp only
    rw [hgc, if_neg (by simp), left_free hf]
  rw [hLF] at HLF
  clear hLF hik
  have HF := Lib.hid hf
  have HX := Lib.hid hX
  have HSI : Hid (si.size ≤ 100000) := by
    have h1 := findSite_name hf
    have h2 := hyi.sh s (findSite_mem hf)
    rw [h1] at h2
    exact h2
  clear hf hX hX0
  by_cases hk : s.kind = 3
  · rw [if_pos (by simpa using hk)] at HLF
    go_wp2_with (first
                  | (go_at_call 12; refine (awake_any _).mono ?_; rintro e wq ⟨rfl, za, rfl⟩)
                  | (go_at_call 13; refine (small_any ss rs _ _ _ _ _ _ _ _ _ _ (hy.keep (m := w.heap.size) (by repeat (first | exact B_refl | exact Below.refl _ _ | assumption | with_reducible refine B_alloc ?_ _ | with_reducible refine B_ext ?_ _ | with_reducible refine B_drew ?_ | with_reducible refine B_drewN ?_ _ | with_reducible refine B_set ?_ (by simp; omega) _)))).mono ?_; rintro e wq ⟨rfl, zs, rfl⟩; rw [hsm])
                  | (go_at_call 19; refine (few_any es _ _ _ _ (hev.keep (m := w.heap.size) (by repeat (first | exact B_refl | exact Below.refl _ _ | assumption | with_reducible refine B_alloc ?_ _ | with_reducible refine B_ext ?_ _ | with_reducible refine B_drew ?_ | with_reducible refine B_drewN ?_ _ | with_reducible refine B_set ?_ (by simp; omega) _)))).mono ?_; rintro e wq ⟨rfl, zf, rfl⟩; rw [hfw])
                  | (go_at_call 20; refine (rCheck_any ss rs _ _ _ _ _ _ _ _ _ es _ _ _ _ (hyi.keep (m := w.heap.size) (by repeat (first | exact B_refl | exact Below.refl _ _ | assumption | with_reducible refine B_alloc ?_ _ | with_reducible refine B_ext ?_ _ | with_reducible refine B_drew ?_ | with_reducible refine B_drewN ?_ _ | with_reducible refine B_set ?_ (by simp; omega) _))) (hei.keep (m := w.heap.size) (by repeat (first | exact B_refl | exact Below.refl _ _ | assumption | with_reducible refine B_alloc ?_ _ | with_reducible refine B_ext ?_ _ | with_reducible refine B_drew ?_ | with_reducible refine B_drewN ?_ _ | with_reducible refine B_set ?_ (by simp; omega) _)))).mono ?_; rintro e wq ⟨rfl, zk, rfl⟩; rw [HCK.out])
                  | (go_at_call 28; refine (rIsContainer_any _ _).mono ?_; rintro e wq ⟨rfl, rfl⟩; rw [hgc])
                  | (go_at_call 27; refine (rSite_any ss rs _ _ _ _ _ _ _ _ _ _ _ (hyi.keep (m := w.heap.size) (by repeat (first | exact B_refl | exact Below.refl _ _ | assumption | with_reducible refine B_alloc ?_ _ | with_reducible refine B_ext ?_ _ | with_reducible refine B_drew ?_ | with_reducible refine B_drewN ?_ _ | with_reducible refine B_set ?_ (by simp; omega) _)))).mono ?_; rintro e wq ⟨rfl, zt, rfl⟩; rw [hsi])
                  | (go_at_call 36; refine (HLF _ (hyi.keep (m := w.heap.size) (by repeat (first | exact B_refl | exact Below.refl _ _ | assumption | with_reducible refine B_alloc ?_ _ | with_reducible refine B_ext ?_ _ | with_reducible refine B_drew ?_ | with_reducible refine B_drewN ?_ _ | with_reducible refine B_set ?_ (by simp; omega) _))) (hei.keep (m := w.heap.size) (by repeat (first | exact B_refl | exact Below.refl _ _ | assumption | with_reducible refine B_alloc ?_ _ | with_reducible refine B_ext ?_ _ | with_reducible refine B_drew ?_ | with_reducible refine B_drewN ?_ _ | with_reducible refine B_set ?_ (by simp; omega) _)))).mono ?_; rintro e wq ⟨rfl, zq, rfl⟩; unfold ret2))
    go_ret
    exact Ret.of rfl (by repeat (first | exact B_refl | exact Below.refl _ _ | assumption | with_reducible refine B_alloc ?_ _ | with_reducible refine B_ext ?_ _ | with_reducible refine B_drew ?_ | with_reducible refine B_drewN ?_ _ | with_reducible refine B_set ?_ (by simp; omega) _))
  rw [if_neg (by simpa using hk)] at HLF
  have hN : (freeN c0 c1 c2 ss (rReplayP c0 c1 c2 ss rs es).1 si co s.room).length ≤ 12 := by
    obtain ⟨_, _, _, _, h5, _⟩ := (read_check ss rs A R n c rn rc c0 c1 c2 es).2 HX.out
    have := freeBy_len (fun l => rPlaceP c0 c1 c2 ss (rReplayP c0 c1 c2 ss rs es).1 si l co) s.room.toNat
    have h6 := yard_rooms h5 s (findSite_mem HF.out)
    unfold freeN
    omega
  have HN0 : Hid ((freeN c0 c1 c2 ss (rReplayP c0 c1 c2 ss rs es).1 si co s.room).length + 0 = (freeN c0 c1 c2 ss (rReplayP c0 c1 c2 ss rs es).1 si co s.room).length) := rfl
  generalize hN1 : (freeN c0 c1 c2 ss (rReplayP c0 c1 c2 ss rs es).1 si co s.room).length = N at HLF hN
  rw [hN1] at HN0
  have HN1 := Lib.hid hN1
  clear hN1
  go_wp2_with (first
                | (go_at_call 12; refine (awake_any _).mono ?_; rintro e wq ⟨rfl, za, rfl⟩)
                | (go_at_call 13; refine (small_any ss rs _ _ _ _ _ _ _ _ _ _ (hy.keep (m := w.heap.size) (by repeat (first | exact B_refl | exact Below.refl _ _ | assumption | with_reducible refine B_alloc ?_ _ | with_reducible refine B_ext ?_ _ | with_reducible refine B_drew ?_ | with_reducible refine B_drewN ?_ _ | with_reducible refine B_set ?_ (by simp; omega) _)))).mono ?_; rintro e wq ⟨rfl, zs, rfl⟩; rw [hsm])
                | (go_at_call 19; refine (few_any es _ _ _ _ (hev.keep (m := w.heap.size) (by repeat (first | exact B_refl | exact Below.refl _ _ | assumption | with_reducible refine B_alloc ?_ _ | with_reducible refine B_ext ?_ _ | with_reducible refine B_drew ?_ | with_reducible refine B_drewN ?_ _ | with_reducible refine B_set ?_ (by simp; omega) _)))).mono ?_; rintro e wq ⟨rfl, zf, rfl⟩; rw [hfw])
                | (go_at_call 20; refine (rCheck_any ss rs _ _ _ _ _ _ _ _ _ es _ _ _ _ (hyi.keep (m := w.heap.size) (by repeat (first | exact B_refl | exact Below.refl _ _ | assumption | with_reducible refine B_alloc ?_ _ | with_reducible refine B_ext ?_ _ | with_reducible refine B_drew ?_ | with_reducible refine B_drewN ?_ _ | with_reducible refine B_set ?_ (by simp; omega) _))) (hei.keep (m := w.heap.size) (by repeat (first | exact B_refl | exact Below.refl _ _ | assumption | with_reducible refine B_alloc ?_ _ | with_reducible refine B_ext ?_ _ | with_reducible refine B_drew ?_ | with_reducible refine B_drewN ?_ _ | with_reducible refine B_set ?_ (by simp; omega) _)))).mono ?_; rintro e wq ⟨rfl, zk, rfl⟩; rw [HCK.out])
                | (go_at_call 28; refine (rIsContainer_any _ _).mono ?_; rintro e wq ⟨rfl, rfl⟩; rw [hgc])
                | (go_at_call 27; refine (rSite_any ss rs _ _ _ _ _ _ _ _ _ _ _ (hyi.keep (m := w.heap.size) (by repeat (first | exact B_refl | exact Below.refl _ _ | assumption | with_reducible refine B_alloc ?_ _ | with_reducible refine B_ext ?_ _ | with_reducible refine B_drew ?_ | with_reducible refine B_drewN ?_ _ | with_reducible refine B_set ?_ (by simp; omega) _)))).mono ?_; rintro e wq ⟨rfl, zt, rfl⟩; rw [hsi])
                | (go_at_call 36; refine (HLF _ (hyi.keep (m := w.heap.size) (by repeat (first | exact B_refl | exact Below.refl _ _ | assumption | with_reducible refine B_alloc ?_ _ | with_reducible refine B_ext ?_ _ | with_reducible refine B_drew ?_ | with_reducible refine B_drewN ?_ _ | with_reducible refine B_set ?_ (by simp; omega) _))) (hei.keep (m := w.heap.size) (by repeat (first | exact B_refl | exact Below.refl _ _ | assumption | with_reducible refine B_alloc ?_ _ | with_reducible refine B_ext ?_ _ | with_reducible refine B_drew ?_ | with_reducible refine B_drewN ?_ _ | with_reducible refine B_set ?_ (by simp; omega) _)))).mono ?_; rintro e wq ⟨rfl, zq, rfl⟩; unfold ret2))
  generalize hW0 : World.alloc (World.ext (World.ext (World.ext (World.ext (World.ext (World.ext ((w.alloc (.cells #[.slice A n c, .slice R rn rc, .int .i64 c0, .int .i64 c1, .int .i64 c2] 26)).alloc (.cells #[.string si, .int .i64 lv, .int .i64 co, .int .i64 day] 66)) za) zs) zf) zk) zt) zq) (.cells #[.string ⟨#[122, 122, 45, 97]⟩, .string ⟨#[122, 122, 45, 98]⟩, .string ⟨#[122, 122, 45, 99]⟩, .string ⟨#[122, 122, 45, 100]⟩, .string ⟨#[122, 122, 45, 101]⟩, .string ⟨#[122, 122, 45, 102]⟩, .string ⟨#[122, 122, 45, 103]⟩, .string ⟨#[122, 122, 45, 104]⟩, .string ⟨#[122, 122, 45, 105]⟩, .string ⟨#[122, 122, 45, 106]⟩, .string ⟨#[122, 122, 45, 107]⟩, .string ⟨#[122, 122, 45, 108]⟩, .string ⟨#[122, 122, 45, 109]⟩] 78) = W0
  generalize hNB : w.heap.size + 1 + 1 + za.os.size + zs.os.size + zf.os.size + zk.os.size + zt.os.size + zq.os.size = NB
  have hB : Below w.heap.size w W0 := by rw [← hW0]; repeat (first | exact B_refl | exact Below.refl _ _ | assumption | with_reducible refine B_alloc ?_ _ | with_reducible refine B_ext ?_ _ | with_reducible refine B_drew ?_ | with_reducible refine B_drewN ?_ _ | with_reducible refine B_set ?_ (by simp; omega) _)
  have hblk : W0.heap[w.heap.size]? = some (.cells #[.slice A n c, .slice R rn rc, .int .i64 c0, .int .i64 c1, .int .i64 c2] 26) := by rw [← hW0]; (repeat (first | with_reducible exact G_new _ _ _ (by simp) | with_reducible exact G_new _ _ _ (by simp [ext_size]) | with_reducible refine G_drew ?_ | with_reducible refine G_ext ?_ | with_reducible refine G_alloc ?_))
  have hblk1 : W0.heap[w.heap.size + 1]? = some (.cells #[.string si, .int .i64 lv, .int .i64 co, .int .i64 day] 66) := by rw [← hW0]; (repeat (first | with_reducible exact G_new _ _ _ (by simp) | with_reducible exact G_new _ _ _ (by simp [ext_size]) | with_reducible refine G_drew ?_ | with_reducible refine G_ext ?_ | with_reducible refine G_alloc ?_))
  have hblk2 : W0.heap[NB]? = some (.cells #[.string ⟨#[122, 122, 45, 97]⟩, .string ⟨#[122, 122, 45, 98]⟩, .string ⟨#[122, 122, 45, 99]⟩, .string ⟨#[122, 122, 45, 100]⟩, .string ⟨#[122, 122, 45, 101]⟩, .string ⟨#[122, 122, 45, 102]⟩, .string ⟨#[122, 122, 45, 103]⟩, .string ⟨#[122, 122, 45, 104]⟩, .string ⟨#[122, 122, 45, 105]⟩, .string ⟨#[122, 122, 45, 106]⟩, .string ⟨#[122, 122, 45, 107]⟩, .string ⟨#[122, 122, 45, 108]⟩, .string ⟨#[122, 122, 45, 109]⟩] 78) := by rw [← hW0]; exact G_new _ _ _ (by simp [ext_size, ← hNB])
  have hz := blk_lt hblk
  have hz1 := blk_lt hblk1
  have hz2 := blk_lt hblk2
  have g0 : W0.cell? ⟨w.heap.size, 0, none⟩ = some (.slice A n c) := by simp [World.cell?, hblk]
  have g1 : W0.cell? ⟨w.heap.size, 1, none⟩ = some (.slice R rn rc) := by simp [World.cell?, hblk]
  have g2 : W0.cell? ⟨w.heap.size, 2, none⟩ = some (.int .i64 c0) := by simp [World.cell?, hblk]
  have g3 : W0.cell? ⟨w.heap.size, 3, none⟩ = some (.int .i64 c1) := by simp [World.cell?, hblk]
  have g4 : W0.cell? ⟨w.heap.size, 4, none⟩ = some (.int .i64 c2) := by simp [World.cell?, hblk]
  have g5 : W0.cell? ⟨w.heap.size + 1, 0, none⟩ = some (.string si) := by simp [World.cell?, hblk1]
  have g7 : W0.cell? ⟨w.heap.size + 1, 2, none⟩ = some (.int .i64 co) := by simp [World.cell?, hblk1]
  have HNM := Lib.hid (fun (k : Nat) (hk : k < 13) => (show W0.cell? ⟨NB, k, none⟩ = some (.string (nameZ k)) by
    simp only [World.cell?, hblk2]
    exact nameZ_cell k hk))
  clear hW0 hNB hblk hblk1 hblk2 hsm hfw hy hev HCK HLF
  have hSE := hei.sl.keep hB
  go_loopw [10] (fun i wr => ∃ j : Nat, j ≤ es.length ∧ i = .int .i64 j ∧ Hid (∀ e ∈ es.take j, zzP e.remain = false) ∧ ∃ z, wr = W0.ext z) (fun i _ => es.length - (intOf i).toNat)
  case atStart => exact ⟨0, Nat.zero_le _, rfl, fun e he => (by cases he), ext_below (Below.refl _ _)⟩
  case round =>
    obtain ⟨j, hj, rfl, HZ, z, rfl⟩ := hrel
    by_cases hlt : j < es.length
    · obtain ⟨b, off, rfl, hb, hc⟩ := hSE.at hlt
      have hlt2 : (j : Int) < (es.length : Int) := by omega
      have hj0 : (0 : Int) ≤ (j : Int) := by omega
      have x4 : W0.cell? ⟨b, off + j * 7 + 4, none⟩ = some (.string es[j].remain) := hc 4 _ rfl
      have ht1 : es.take (j + 1) = es.take j ++ [es[j]] := List.take_succ_eq_append_getElem hlt
      have HT1 := Lib.hid ht1
      clear hc ht1
      generalize es[j] = x at *
      by_cases h2 : 2 < (x.remain.size : Int)
      · cases hzz : ((x.remain.extract 0 2).toList == [122, 122])
        · have HZZ := Lib.hid hzz
          go_wp2_with fail
          go_roundw
          case rel => exact ⟨j + 1, by omega, by go_num, (fun e he => by
            rw [HT1.out] at he
            rcases List.mem_append.1 he with he | he
            · exact HZ.out e he
            · have : e = x := by simpa using he
              subst this
              unfold zzP
              rw [HZZ.out, Bool.and_false]), ext_below (by repeat (first | exact B_refl | exact Below.refl _ _ | assumption | with_reducible refine B_alloc ?_ _ | with_reducible refine B_ext ?_ _ | with_reducible refine B_drew ?_ | with_reducible refine B_drewN ?_ _ | with_reducible refine B_set ?_ (by simp; omega) _))⟩
          case measure => simp [intOf]; omega
        · go_wp2_with fail
          go_ret
          exact Ret.of rfl (by repeat (first | exact B_refl | exact Below.refl _ _ | assumption | with_reducible refine B_alloc ?_ _ | with_reducible refine B_ext ?_ _ | with_reducible refine B_drew ?_ | with_reducible refine B_drewN ?_ _ | with_reducible refine B_set ?_ (by simp; omega) _))
      · go_wp2_with fail
        go_roundw
        case rel => exact ⟨j + 1, by omega, by go_num, (fun e he => by
          rw [HT1.out] at he
          rcases List.mem_append.1 he with he | he
          · exact HZ.out e he
          · have : e = x := by simpa using he
            subst this
            unfold zzP
            rw [decide_eq_false h2]
            rfl), ext_below (by repeat (first | exact B_refl | exact Below.refl _ _ | assumption | with_reducible refine B_alloc ?_ _ | with_reducible refine B_ext ?_ _ | with_reducible refine B_drew ?_ | with_reducible refine B_drewN ?_ _ | with_reducible refine B_set ?_ (by simp; omega) _))⟩
        case measure => simp [intOf]; omega
    · have hje : j = es.length := by omega
      subst hje
      rw [List.take_length] at HZ
      obtain ⟨_, _, _, _, _, hes⟩ := (read_check ss rs A R n c rn rc c0 c1 c2 es).2 HX.out
      have hes16 : es.length ≤ 16 := by omega
      clear hes
      go_wp2_with (go_at_call 34; refine (copyEvents_any es E es.length ec _ (hei.keep (m := w.heap.size) (by repeat (first | exact B_refl | exact Below.refl _ _ | assumption | with_reducible refine B_alloc ?_ _ | with_reducible refine B_ext ?_ _ | with_reducible refine B_drew ?_ | with_reducible refine B_drewN ?_ _ | with_reducible refine B_set ?_ (by simp; omega) _)))).mono ?_; intro e wq hq; obtain ⟨E2, k3, ze, rfl, rfl, he2⟩ := hq.form hei.l1 hei.sh; clear hq)
      go_loopw [11, 12, 13, 14] (fun mo k _ _ wr => ∃ (j : Nat) (more : List Event) (M : Option Addr) (mc : Nat), j ≤ 13 ∧ k = .int .i64 j ∧ mo = .slice M more.length mc ∧ Hid (LeftSt c0 c1 c2 ss rs es more si co s.room N j) ∧ EventsIn wr more M more.length ∧ Below W0.heap.size W0 wr) (fun _ k _ _ _ => 13 - (intOf k).toNat)
      case atStart => exact ⟨0, es, E2, k3, by omega, rfl, rfl, ⟨HX.out, rfl, HN1.out, fun e he => .inl he⟩, he2, by repeat (first | exact B_refl | exact Below.refl _ _ | assumption | with_reducible refine B_alloc ?_ _ | with_reducible refine B_ext ?_ _ | with_reducible refine B_drew ?_ | with_reducible refine B_drewN ?_ _ | with_reducible refine B_set ?_ (by simp; omega) _)⟩
      case round =>
        obtain ⟨j, more, M, mc, hj13, rfl, rfl, HS, hem, hbr⟩ := hrel
        clear he2
        have hbw : Below w.heap.size w wr := hB.trans (hbr.mono hB.size)
        have k0 := cell_kept hz g0 hbr
        have k1 := cell_kept hz g1 hbr
        have k2 := cell_kept hz g2 hbr
        have k3 := cell_kept hz g3 hbr
        have k4 := cell_kept hz g4 hbr
        have k5 := cell_kept hz1 g5 hbr
        have k7 := cell_kept hz1 g7 hbr
        have iz : w.heap.size < wr.heap.size := Nat.lt_of_lt_of_le hz hbr.size
        have iz1 : w.heap.size + 1 < wr.heap.size := Nat.lt_of_lt_of_le hz1 hbr.size
        have iz2 : NB < wr.heap.size := Nat.lt_of_lt_of_le hz2 hbr.size
        by_cases hlt : j < 13
        · have hj2 : (j : Int) < 13 := by omega
          have hj0 : (0 : Int) ≤ (j : Int) := by omega
          have k8 := cell_kept hz2 (HNM.out j hlt) hbr
          have HFF := fun W h1 h2 => gFirst_w4 ss rs A R n c rn rc c0 c1 c2 more M more.length mc si 0 co 200000 W h1 h2
          cases hf : freeN c0 c1 c2 ss (rReplayP c0 c1 c2 ss rs more).1 si co s.room with
          | nil =>
            obtain ⟨q1, q2⟩ := left_none HS.out HF.out hgc hf
            rw [q1] at HFF
            subst q2
            clear q1 hf HN1 HN0
            go_wp2_with (go_at_call 35; refine (HFF _ (hyi.keep (m := w.heap.size) (by repeat (first | exact B_refl | exact Below.refl _ _ | assumption | with_reducible refine B_alloc ?_ _ | with_reducible refine B_ext ?_ _ | with_reducible refine B_drew ?_ | with_reducible refine B_drewN ?_ _ | with_reducible refine B_set ?_ (by simp; omega) _))) (hem.keep (m := wr.heap.size) (by repeat (first | exact B_refl | exact Below.refl _ _ | assumption | with_reducible refine B_alloc ?_ _ | with_reducible refine B_ext ?_ _ | with_reducible refine B_drew ?_ | with_reducible refine B_drewN ?_ _ | with_reducible refine B_set ?_ (by simp; omega) _)))).mono ?_; rintro e wq ⟨rfl, zq, rfl⟩; unfold ret2)
            go_ret
            exact Ret.of rfl (by repeat (first | exact B_refl | exact Below.refl _ _ | assumption | with_reducible refine B_alloc ?_ _ | with_reducible refine B_ext ?_ _ | with_reducible refine B_drew ?_ | with_reducible refine B_drewN ?_ _ | with_reducible refine B_set ?_ (by simp; omega) _))
          | cons x r =>
            obtain ⟨q1, q2, q3⟩ := left_next HS.out HF.out hgc hk hlt hes16 HZ.out hf
            rw [q1] at HFF
            have HS2 := Lib.hid q3
            have HAD := fun W h1 h2 => gAdd_w ss rs A R n c rn rc c0 c1 c2 more M more.length mc 200000 0 si x (nameZ j) co false W h1 h2 HSI.out (nameZ_size j)
            rw [q2] at HAD
            clear q1 q2 q3 hf
            go_wp2_with (go_at_call 35; refine (HFF _ (hyi.keep (m := w.heap.size) (by repeat (first | exact B_refl | exact Below.refl _ _ | assumption | with_reducible refine B_alloc ?_ _ | with_reducible refine B_ext ?_ _ | with_reducible refine B_drew ?_ | with_reducible refine B_drewN ?_ _ | with_reducible refine B_set ?_ (by simp; omega) _))) (hem.keep (m := wr.heap.size) (by repeat (first | exact B_refl | exact Below.refl _ _ | assumption | with_reducible refine B_alloc ?_ _ | with_reducible refine B_ext ?_ _ | with_reducible refine B_drew ?_ | with_reducible refine B_drewN ?_ _ | with_reducible refine B_set ?_ (by simp; omega) _)))).mono ?_; rintro e wq ⟨rfl, zq, rfl⟩; unfold ret2)
            go_region_held3 (fun w' => w'.cell? ⟨w.heap.size, 0, none⟩ = some (.slice A n c) ∧ w'.cell? ⟨w.heap.size, 1, none⟩ = some (.slice R rn rc) ∧ w'.cell? ⟨w.heap.size, 2, none⟩ = some (.int .i64 c0) ∧ w'.cell? ⟨w.heap.size, 3, none⟩ = some (.int .i64 c1) ∧ w'.cell? ⟨w.heap.size, 4, none⟩ = some (.int .i64 c2) ∧ w'.cell? ⟨w.heap.size + 1, 0, none⟩ = some (.string si) ∧ w'.cell? ⟨w.heap.size + 1, 2, none⟩ = some (.int .i64 co) ∧ w'.cell? ⟨NB, j, none⟩ = some (.string (nameZ j)))
                              ((refine ⟨cell_kept iz k0 ?_, cell_kept iz k1 ?_, cell_kept iz k2 ?_, cell_kept iz k3 ?_, cell_kept iz k4 ?_, cell_kept iz1 k5 ?_, cell_kept iz1 k7 ?_, cell_kept iz2 k8 ?_⟩ <;> ((repeat (first | exact B_refl | exact Below.refl _ _ | assumption | with_reducible refine B_alloc ?_ _ | with_reducible refine B_ext ?_ _ | with_reducible refine B_drew ?_ | with_reducible refine B_drewN ?_ _ | with_reducible refine B_set ?_ (by simp; omega) _)); done)))
              (first
                | (go_at_call 41; refine (HAD _ (hyi.keep (m := w.heap.size) ?q1) (hem.keep (m := wr.heap.size) ?q2)).mono ?_
                   case q1 => repeat (first | exact B_refl | exact Below.refl _ _ | assumption | with_reducible refine B_alloc ?_ _ | with_reducible refine B_ext ?_ _ | with_reducible refine B_drew ?_ | with_reducible refine B_drewN ?_ _ | with_reducible refine B_set ?_ (by simp; omega) _)
                   case q2 => repeat (first | exact B_refl | exact Below.refl _ _ | assumption | with_reducible refine B_alloc ?_ _ | with_reducible refine B_ext ?_ _ | with_reducible refine B_drew ?_ | with_reducible refine B_drewN ?_ _ | with_reducible refine B_set ?_ (by simp; omega) _)
                   rintro e wq ⟨v2, rfl, hown2, zd2, rfl⟩))
            obtain ⟨M2, mc2, rfl, hSM2, _⟩ := own_sl event_len hown2
            clear hown2
            have hE2 : EventsIn (World.ext (World.drew (World.ext wr zq)) zd2) (more ++ [⟨200000, 0, si, x, nameZ j, co, false⟩]) M2 (more ++ [(⟨200000, 0, si, x, nameZ j, co, false⟩ : Event)]).length :=
              ⟨rfl, hSM2, (by have h1 := HS2.out.len; omega), fun e he => by
                rcases List.mem_append.1 he with he | he
                · exact hem.sh e he
                · have : e = ⟨200000, 0, si, x, nameZ j, co, false⟩ := by simpa using he
                  subst this
                  exact ⟨HSI.out, nameZ_size j⟩⟩
            go_wp2_with fail
            go_roundw
            case rel => exact ⟨j + 1, _, M2, mc2, by omega, by go_num, rfl, HS2, hE2, hbr.trans ((by repeat (first | exact B_refl | exact Below.refl _ _ | assumption | with_reducible refine B_alloc ?_ _ | with_reducible refine B_ext ?_ _ | with_reducible refine B_drew ?_ | with_reducible refine B_drewN ?_ _ | with_reducible refine B_set ?_ (by simp; omega) _) : Below wr.heap.size wr (World.ext (World.drew (World.ext wr zq)) zd2)).mono hbr.size)⟩
            case measure => simp [intOf]; omega
        · exfalso
          have := HS.out.free
          omega
end Go.Proofs.Ytmiobhlgpjjbgaa
namespace Go.Proofs.Ytmiobhlgpjjbgaa
open Go.ChangeShapes Go.WideShapes Go.ChangeAt Go.RowKit

set_option maxRecDepth 100000 in
theorem graveLeft_lifted (os : Os) (started : os.Started) (H : Type) (enc : TypeId × Value → H) :
    ReturnsInHanded {} Try.checked os 7 .any (Rows.graveLeftSpec.pre6 enc Try.prog Try.f7 Rows.graveLeftRow.domain false) (Rows.graveLeftSpec.post enc Try.prog Try.f7 false true false false) := by
  refine returnsInHanded_of_change (C := Try.checked) own_knob started (by kernel_rfl) Try.func7
    (ChangeSpec.witness6 (enc := enc) (C := Try.checked) false ⟨#[], #[.agg #[.slice none 0 0, .slice none 0 0, .int .i64 0, .int .i64 0, .int .i64 0], .slice none 0 0, .agg #[.string ⟨#[]⟩, .int .i64 0, .int .i64 0, .int .i64 0]], []⟩ 8 (by kernel_rfl) (by kernel_rfl) (by kernel_rfl) (by kernel_rfl)) ?_
  intro W base args ds gs before hval0 hW hcnd _
  have hval : ∀ (j : Nat) t v, Try.f7.params[j]? = some t → args[j]? = some v → Value.okWide Try.prog W .any base t v := hval0
  have hW' := hW
  obtain ⟨p, q, hA0, hV, rfl, hfz, hnd⟩ := hW
  have hA : DataW.TrodAll enc Try.prog W 0 (fun _ => true) true Try.f7.params.toList args.toList ds p := hA0
  rw [Try.params7] at hA hval
  obtain ⟨v0, vs0, d0, ds0, p0, q0, hargs, rfl, rfl, h0, r0⟩ := trodAll_cons hA
  obtain ⟨v1, vs1, d1, ds1, p1, q1, rfl, rfl, rfl, h1, r1⟩ := trodAll_cons r0
  obtain ⟨v2, vs2, d2, ds2, p2, q2, rfl, rfl, rfl, h2, r2⟩ := trodAll_cons r1
  obtain ⟨rfl, rfl, rfl⟩ := trodAll_nil r2
  obtain rfl : args = #[v0, v1, v2] := by cases args; simp_all
  obtain ⟨rfl, rfl⟩ := trodVars_none hV
  have k0 := h0
  have k1 := h1
  have k2 := h2
  have lt0 : ∀ x ∈ p0, x.block < W.heap.size := by obtain ⟨m, hm⟩ := k0; exact DataW.trod_lt m _ _ _ hm
  have lt1 : ∀ x ∈ p1, x.block < W.heap.size := by obtain ⟨m, hm⟩ := k1; exact DataW.trod_lt m _ _ _ hm
  have lt2 : ∀ x ∈ p2, x.block < W.heap.size := by obtain ⟨m, hm⟩ := k2; exact DataW.trod_lt m _ _ _ hm
  obtain ⟨ss, rs, A, n, c, R, rn, rc, c0, c1, c2, rfl, hy⟩ := open_yard (hval 0 26 v0 rfl rfl) h0
  obtain ⟨es, E, en, ec, rfl, hev, hcap⟩ := open_events (hval 1 37 v1 rfl rfl) h1
  obtain ⟨si, lv, co, day, rfl⟩ := open_ask (hval 2 66 v2 rfl rfl) h2
  clear hA0 hval0
  refine (graveLeft_any ss rs A R n c rn rc c0 c1 c2 es E en ec si lv co day W hy hev hcap).mono fun e W' ⟨he, z, hz⟩ => ?_
  subst he
  have bel : Below W.heap.size W W' := by rw [hz]; exact below_ext W z
  exact ⟨_, rfl, _, _, _, [], _, [], hW', trodAll_mk1 (shut_bool Try.underlying4 _), (trodAll_cons_mk (Below.trod laid_out (by kernel_rfl) (of_decide_eq_true (by kernel_rfl)) k0 bel lt0) (trodAll_cons_mk (Below.trod laid_out (by kernel_rfl) (of_decide_eq_true (by kernel_rfl)) k1 bel lt1) (trodAll_cons_mk (Below.trod laid_out (by kernel_rfl) (of_decide_eq_true (by kernel_rfl)) k2 bel lt2) trodAll_mk0))), rfl, bel.frame _, fun h => by cases h⟩

theorem graveLeft_holds : Rows.GraveLeftSaid :=
  OpenClaim.holds_of_wide 7 Try.f7 rfl rfl rfl rfl rfl rfl rfl ⟨rfl, rfl, rfl, rfl, rfl⟩ rfl rfl rfl rfl rfl (by kernel_rfl) Try.func7 (by kernel_rfl)
    (of_decide_eq_true (by kernel_rfl)) (by unfold Func.isWrapper; first | (rw [if_pos (by decide +kernel)]; kernel_rfl) | (rw [if_neg (by decide +kernel)]; exact ⟨rfl, rfl⟩))
    (fun os started H enc _ => graveLeft_lifted os started H enc)
#print axioms graveLeft_holds
end Go.Proofs.Ytmiobhlgpjjbgaa
