/- Walks: the examples that every law of chapter 3 begins with. -/
import Derived.Test.YtpohkolapgofdaaGreatDoorX3
import Derived.Test.YtpohkolapgofdaaGreatDoorF2
namespace Go.Proofs.YtpohkolapgofdaaGreatDoor
open Go.RowKit
attribute [local go_sem] World.cell?_alloc_mark ext_size ext_cell ext_frozen lt_add_r lt_add_r2 lt_add_r3 lt_add_r4 lt_add_r5 lt_add_r6 lt_add_r7 lt_add_r8

def cyS : List Site := [⟨⟨#[97]⟩, 0, 1, 240, 80, 3⟩, ⟨⟨#[118]⟩, 1, 0, 0, 0, 2⟩, ⟨⟨#[110]⟩, 2, 0, 0, 0, 2⟩, ⟨⟨#[115]⟩, 3, 0, 0, 0, 1⟩]
def cyR : List Rest := [⟨1, 0, 7300⟩, ⟨1, 1, 3650⟩]
def two : List Event := [⟨100, 0, ⟨#[97]⟩, 0, ⟨#[120]⟩, 0, false⟩, ⟨200, 0, ⟨#[97]⟩, 1, ⟨#[121]⟩, 0, false⟩]
theorem two_rest (A R : Option Addr) (n c rn rc : Nat) : restOverR cyS cyR (readP cyS cyR (bk0 A n c R rn rc 150 60 0) two) ⟨#[121]⟩ = (7500, 0) := by kernel_rfl
theorem two_free (A R : Option Addr) (n c rn rc : Nat) : (freeR (upToP cyS cyR 250 (bk0 A n c R rn rc 150 60 0) two) cyS (readP cyS cyR (bk0 A n c R rn rc 150 60 0) two) 0 250).2 = 0 := by kernel_rfl
theorem two_free2 (A R : Option Addr) (n c rn rc : Nat) : (freeR (upToP cyS cyR 250 (bk0 A n c R rn rc 150 60 0) two) cyS (readP cyS cyR (bk0 A n c R rn rc 150 60 0) two) 0 250).1.length = 2 := by kernel_rfl
theorem two_add (A R : Option Addr) (n c rn rc : Nat) : (addR cyS cyR (readP cyS cyR (bk0 A n c R rn rc 150 60 0) two) two ⟨300, 1, ⟨#[]⟩, 0, ⟨#[120]⟩, 0, false⟩).2 = 18 := by kernel_rfl

theorem sl_block {α : Type} {f : α → List Value} {size : Nat} (hlen : ∀ x, (f x).length = size) {W : World} {g : Nat} {cs : Array Value} {t : TypeId} {fr : Nat × Nat} {xs : List α} (h : W.heap[g]? = some (.cells cs t fr)) (hcs : cs.toList = xs.flatMap f) : Sl W size f (some ⟨g, 0, none⟩) xs := fun _ =>
  ⟨g, 0, rfl, blk_lt h, fun k x hx j u hu => by
    have := flat_at f size hlen xs k x hx j u hu
    rw [← hcs, Array.getElem?_toList] at this
    simp only [World.cell?, h, Nat.zero_add]
    simpa using this⟩

def YardPost (w : World) (ss : List Site) (rs : List Rest) (c0 c1 c2 : Int) (e : Ending) (w' : World) : Prop :=
  ∃ A n c R rn rc, e = .returned (.agg #[.slice A n c, .slice R rn rc, .int .i64 c0, .int .i64 c1, .int .i64 c2]) ∧ YardIn w' ss rs A n c R rn rc ∧ ∃ z, w' = w.ext z
def EventsPost (w : World) (es : List Event) (e : Ending) (w' : World) : Prop := ∃ A n c, e = .returned (.slice A n c) ∧ EventsIn w' es A n ∧ ∃ z, w' = w.ext z

set_option maxRecDepth 100000 in
set_option maxHeartbeats 2000000 in
theorem churchyard_any (w : World) : Calls Tryz.prog 24 #[] w (YardPost w cyS cyR 150 60 0) := by
  go_enter Tryz.func24, Tryz.ntmps24
  go_wp2_with fail
  refine ret_yard (B := w.heap.size) (A := some ⟨w.heap.size + 1, 0, none⟩) (n := 4) (c := 4) (R := some ⟨w.heap.size + 1 + 1, 0, none⟩) (rn := 2) (rc := 2) (c0 := 150) (c1 := 60) (c2 := 0) (fr := (0, 0)) rfl rfl rfl ?_ ⟨_, _, _, _, _, _, rfl, ⟨rfl, rfl, sl_block site_len (t := 81) (fr := (0, 0)) (cs := #[.string ⟨#[97]⟩, .int .i64 0, .int .i64 1, .int .i64 240, .int .i64 80, .int .i64 3, .string ⟨#[118]⟩, .int .i64 1, .int .i64 0, .int .i64 0, .int .i64 0, .int .i64 2, .string ⟨#[110]⟩, .int .i64 2, .int .i64 0, .int .i64 0, .int .i64 0, .int .i64 2, .string ⟨#[115]⟩, .int .i64 3, .int .i64 0, .int .i64 0, .int .i64 0, .int .i64 1]) ?h1 ?e1, sl_block rest_len (t := 94) (fr := (0, 0)) (cs := #[.int .i64 1, .int .i64 0, .int .i64 7300, .int .i64 1, .int .i64 1, .int .i64 3650]) ?h2 ?e2, by decide, by decide, by decide, by decide⟩, ext_below ?_⟩
  · (repeat (first | with_reducible exact G_new _ _ _ (by simp) | with_reducible exact G_new _ _ _ (by simp [ext_size]) | with_reducible refine G_drew ?_ | with_reducible refine G_ext ?_ | with_reducible refine G_alloc ?_))
  case h1 => (repeat (first | with_reducible exact G_new _ _ _ (by simp) | with_reducible exact G_new _ _ _ (by simp [ext_size]) | with_reducible refine G_drew ?_ | with_reducible refine G_ext ?_ | with_reducible refine G_alloc ?_))
  case e1 => rfl
  case h2 => (repeat (first | with_reducible exact G_new _ _ _ (by simp) | with_reducible exact G_new _ _ _ (by simp [ext_size]) | with_reducible refine G_drew ?_ | with_reducible refine G_ext ?_ | with_reducible refine G_alloc ?_))
  case e2 => rfl
  repeat (first | exact B_refl | exact Below.refl _ _ | assumption | with_reducible refine B_alloc ?_ _ | with_reducible refine B_ext ?_ _ | with_reducible refine B_drew ?_ | with_reducible refine B_drewN ?_ _ | with_reducible refine B_set ?_ (by simp; omega) _)
set_option maxRecDepth 100000 in
set_option maxHeartbeats 2000000 in
theorem two_any (w : World) : Calls Tryz.prog 25 #[] w (EventsPost w two) := by
  go_enter Tryz.func25, Tryz.ntmps25
  go_wp2_with fail
  go_ret
  refine ⟨_, _, _, rfl, ⟨rfl, sl_block event_len (heap_alloc_new w _) rfl, by decide, by decide⟩, ext_below (by repeat (first | exact B_refl | exact Below.refl _ _ | assumption | with_reducible refine B_alloc ?_ _ | with_reducible refine B_ext ?_ _ | with_reducible refine B_drew ?_ | with_reducible refine B_drewN ?_ _ | with_reducible refine B_set ?_ (by simp; omega) _))⟩

set_option maxRecDepth 100000 in
set_option maxHeartbeats 2000000 in
theorem awake_any (w : World) : Calls Tryz.prog 5 #[] w (Ret w (.bool true)) := by
  go_enter Tryz.func5, Tryz.ntmps5
  go_wp2_with (first
    | (go_at_call 24; refine (churchyard_any _).mono ?_; rintro e wq ⟨A, n, c, R, rn, rc, rfl, hy, zy, rfl⟩)
    | (go_at_call 25; refine (two_any _).mono ?_; rintro e wq ⟨L, ln, lc, rfl, hev, ze, rfl⟩)
    | (go_at_call 23; refine (gRestOver_any cyS cyR _ _ _ _ _ _ _ _ _ two _ _ _ _ _ (hy.keep (by repeat (first | exact B_refl | exact Below.refl _ _ | assumption | with_reducible refine B_alloc ?_ _ | with_reducible refine B_ext ?_ _ | with_reducible refine B_drew ?_ | with_reducible refine B_drewN ?_ _ | with_reducible refine B_set ?_ (by simp; omega) _))) (hev.keep (by repeat (first | exact B_refl | exact Below.refl _ _ | assumption | with_reducible refine B_alloc ?_ _ | with_reducible refine B_ext ?_ _ | with_reducible refine B_drew ?_ | with_reducible refine B_drewN ?_ _ | with_reducible refine B_set ?_ (by simp; omega) _)))).mono ?_; rintro e wq ⟨rfl, zq, rfl⟩; rw [two_rest]; unfold ret2)
    | (go_at_call 26; refine (callsIn_wide.1 (gFree_in cyS cyR _ _ _ _ _ _ _ _ _ two _ _ _ _ _ _ (hy.keep (by repeat (first | exact B_refl | exact Below.refl _ _ | assumption | with_reducible refine B_alloc ?_ _ | with_reducible refine B_ext ?_ _ | with_reducible refine B_drew ?_ | with_reducible refine B_drewN ?_ _ | with_reducible refine B_set ?_ (by simp; omega) _))) (hev.keep (by repeat (first | exact B_refl | exact Below.refl _ _ | assumption | with_reducible refine B_alloc ?_ _ | with_reducible refine B_ext ?_ _ | with_reducible refine B_drew ?_ | with_reducible refine B_drewN ?_ _ | with_reducible refine B_set ?_ (by simp; omega) _))) (by decide))).mono ?_; rintro e wq ⟨v, rfl, hown, zf, rfl⟩; rw [two_free]; rw [two_free2] at hown; obtain ⟨gg, cap, rfl, _, _⟩ := hown.form (Nat.succ_pos 1); clear hown)
    | (go_at_call 27; refine (gAdd_any cyS cyR _ _ _ _ _ _ _ _ _ two _ _ _ _ _ _ _ _ _ _ _ (hy.keep (by repeat (first | exact B_refl | exact Below.refl _ _ | assumption | with_reducible refine B_alloc ?_ _ | with_reducible refine B_ext ?_ _ | with_reducible refine B_drew ?_ | with_reducible refine B_drewN ?_ _ | with_reducible refine B_set ?_ (by simp; omega) _))) (hev.keep (by repeat (first | exact B_refl | exact Below.refl _ _ | assumption | with_reducible refine B_alloc ?_ _ | with_reducible refine B_ext ?_ _ | with_reducible refine B_drew ?_ | with_reducible refine B_drewN ?_ _ | with_reducible refine B_set ?_ (by simp; omega) _))) (by decide) (by decide)).mono ?_; rintro e wq ⟨v, rfl, _, zf, rfl⟩; rw [two_add]))
  go_ret
  exact Ret.of rfl (by repeat (first | exact B_refl | exact Below.refl _ _ | assumption | with_reducible refine B_alloc ?_ _ | with_reducible refine B_ext ?_ _ | with_reducible refine B_drew ?_ | with_reducible refine B_drewN ?_ _ | with_reducible refine B_set ?_ (by simp; omega) _))
end Go.Proofs.YtpohkolapgofdaaGreatDoor
