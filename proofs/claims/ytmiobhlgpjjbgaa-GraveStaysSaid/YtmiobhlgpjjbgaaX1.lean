/- Walks: copies of yards and events; one event more. -/
import Derived.Test.YtmiobhlgpjjbgaaX0
import Derived.Test.YtmiobhlgpjjbgaaB6
import Derived.BigRegion
namespace Go.Proofs.Ytmiobhlgpjjbgaa
open Go.RowKit
attribute [local go_sem] World.cell?_alloc_mark ext_size ext_cell ext_frozen lt_add_r lt_add_r2 lt_add_r3 lt_add_r4 lt_add_r5 lt_add_r6 lt_add_r7 lt_add_r8
attribute [local go_sem] ext_setCell alloc_setCell_lt

def CopyPost (w : World) (es : List Event) (base : Nat) (e : Ending) (w' : World) : Prop :=
  ∃ v, e = .returned v ∧ w'.ownsRow base 80 7 v es.length (es.flatMap Event.cells) ∧ ∃ z, w' = w.ext z
theorem CopyPost.form {w : World} {es : List Event} {base : Nat} {e : Ending} {w' : World} (h : CopyPost w es base e w') (hl : es.length ≤ 100000) (hsh : ∀ e ∈ es, e.site.size ≤ 100000 ∧ e.remain.size ≤ 100000) : ∃ A c z, e = .returned (.slice A es.length c) ∧ w' = w.ext z ∧ EventsIn w' es A es.length := by
  obtain ⟨v, rfl, h1, z, rfl⟩ := h
  obtain ⟨A, c, rfl, hS, hc⟩ := own_sl event_len h1
  exact ⟨A, c, z, rfl, rfl, rfl, hS, hl, hsh⟩

set_option maxRecDepth 100000 in
set_option maxHeartbeats 2000000 in
theorem copyEvents_any (es : List Event) (L : Option Addr) (ln lc : Nat) (w : World) (hev : EventsIn w es L ln) :
    Calls Try.prog 34 #[.slice L ln lc] w (CopyPost w es w.heap.size) := by
  have hl1 := hev.l1
  have HM := Lib.hid hev.hn
  go_enter Try.func34, Try.ntmps34
  go_wp2_with (at_builtin; refine wpList_append_sl rfl _ _ rfl elEvent event_len event_one rfl (World.ownsRow_made w #[] 0 (Nat.le_refl _) (Nat.zero_le _) (by simp)) rfl HM.out (hev.sl.keep (by repeat (first | exact B_refl | exact Below.refl _ _ | assumption | with_reducible refine B_alloc ?_ _ | with_reducible refine B_ext ?_ _ | with_reducible refine B_drew ?_ | with_reducible refine B_drewN ?_ _ | with_reducible refine B_set ?_ (by simp; omega) _))) ?q1 ?q2 (by simp) ?_)
  case q1 => simp [maxLen, HM.out]; omega
  case q2 => simp [HM.out]; omega
  intro v' w' h1 h2 h3
  go_wp2_with fail
  go_ret
  refine ⟨v', rfl, by simpa [HM.out] using h1, ext_below (Below.grown (by repeat (first | exact B_refl | exact Below.refl _ _ | assumption | with_reducible refine B_alloc ?_ _ | with_reducible refine B_ext ?_ _ | with_reducible refine B_drew ?_ | with_reducible refine B_drewN ?_ _ | with_reducible refine B_set ?_ (by simp; omega) _)) h2 (by simp) (by intro k hk; simp [Value.ownBlock] at hk; omega))⟩

set_option maxRecDepth 100000 in
set_option maxHeartbeats 2000000 in
theorem clone_any (es : List Event) (L : Option Addr) (ln lc : Nat) (w : World) (hev : EventsIn w es L ln) :
    Calls Try.prog 76 #[.slice L ln lc] w (CopyPost w es w.heap.size) := by
  have hl1 := hev.l1
  have HM := Lib.hid hev.hn
  have q22 : ∀ (w : World) (a : Option Addr) (n c n' c' : Nat), (binOp .eql 37 (.slice a n c) (.slice none n' c')).run Try.prog w = .ok (.bool a.isNone) w := fun w a n c n' c' => Lib.run_eql_slice_nil w _ _ a n c n' c' Try.underlying37
  go_enter Try.func76, Try.ntmps76
  cases L with
  | none =>
    have h0 : es = [] := by
      cases es with
      | nil => rfl
      | cons y ys => obtain ⟨b, off, h, _⟩ := hev.sl (by simp); cases h
    subst h0
    go_wp2_with fail
    go_ret
    exact ⟨_, rfl, World.ownsRow_nil _ _ _ _, ext_below (Below.refl _ _)⟩
  | some ad =>
    go_wp2_with (at_builtin; refine wpList_append_sl rfl _ _ rfl elEvent event_len event_one rfl (World.ownsRow_made w #[] 0 (Nat.le_refl _) (Nat.zero_le _) (by simp)) rfl HM.out (hev.sl.keep (by repeat (first | exact B_refl | exact Below.refl _ _ | assumption | with_reducible refine B_alloc ?_ _ | with_reducible refine B_ext ?_ _ | with_reducible refine B_drew ?_ | with_reducible refine B_drewN ?_ _ | with_reducible refine B_set ?_ (by simp; omega) _))) ?q1 ?q2 (by simp) ?_)
    case q1 => simp [maxLen, HM.out]; omega
    case q2 => simp [HM.out]; omega
    intro v' w' h1 h2 h3
    go_wp2_with fail
    go_ret
    refine ⟨v', rfl, by simpa [HM.out] using h1, ext_below (Below.grown (by repeat (first | exact B_refl | exact Below.refl _ _ | assumption | with_reducible refine B_alloc ?_ _ | with_reducible refine B_ext ?_ _ | with_reducible refine B_drew ?_ | with_reducible refine B_drewN ?_ _ | with_reducible refine B_set ?_ (by simp; omega) _)) h2 (by simp) (by intro k hk; simp [Value.ownBlock] at hk; omega))⟩
end Go.Proofs.Ytmiobhlgpjjbgaa
