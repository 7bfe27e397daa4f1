/- Walks: the reference's error of a yard and events; few events. -/
import Derived.Test.YtpohkolapgofdaaGreatLC
namespace Go.Proofs.YtpohkolapgofdaaGreat
open Go.RowKit
attribute [local go_sem] World.cell?_alloc_mark ext_size ext_cell ext_frozen lt_add_r lt_add_r2 lt_add_r3 lt_add_r4 lt_add_r5 lt_add_r6 lt_add_r7 lt_add_r8

theorem yard_rooms {ss : List Site} {rs : List Rest} {c0 c1 c2 : Int} (h : checkYardP ss rs c0 c1 c2 = 0) : ∀ s ∈ ss, s.room ≤ 12 := fun s hs => (checkSite_room (yard_room h s hs)).2.1
/-- What read makes of a yard and events is what the reference says. -/
theorem read_check (ss : List Site) (rs : List Rest) (A R : Option Addr) (n c rn rc : Nat) (c0 c1 c2 : Int) (es : List Event) :
    (readP ss rs (bk0 A n c R rn rc c0 c1 c2) es).2 = rCheckP c0 c1 c2 ss rs es ∧ (rCheckP c0 c1 c2 ss rs es = 0 → Rel (readP ss rs (bk0 A n c R rn rc c0 c1 c2) es).1 (rReplayP c0 c1 c2 ss rs es).1 ss ∧ Inv (readP ss rs (bk0 A n c R rn rc c0 c1 c2) es).1 ss ∧
      (readP ss rs (bk0 A n c R rn rc c0 c1 c2) es).1 = (addsP ss rs (bk0 A n c R rn rc c0 c1 c2) es).1 ∧ (addsP ss rs (bk0 A n c R rn rc c0 c1 c2) es).2 = 0 ∧ checkYardP ss rs c0 c1 c2 = 0 ∧ es.length ≤ 300) := by
  have hrd : readP ss rs (bk0 A n c R rn rc c0 c1 c2) es = if checkYardP ss rs c0 c1 c2 != 0 then (bk0 A n c R rn rc c0 c1 c2, checkYardP ss rs c0 c1 c2) else if decide (300 < (es.length : Int)) then (bk0 A n c R rn rc c0 c1 c2, 8) else addsP ss rs (bk0 A n c R rn rc c0 c1 c2) es := rfl
  rw [hrd]
  unfold rCheckP
  by_cases hc0 : checkYardP ss rs c0 c1 c2 = 0
  · have hroom := yard_rooms hc0
    have hc : ¬ (checkYardP ss rs c0 c1 c2 != 0) = true := by simp [hc0]
    rw [if_neg hc, if_neg hc]
    unfold rReplayP
    by_cases hb : 300 < (es.length : Int)
    · have hb2 : decide (300 < (es.length : Int)) = true := by simpa using hb
      rw [if_pos hb2, if_pos hb2]
      exact ⟨rfl, fun h => by simp at h⟩
    · have hb2 : ¬ decide (300 < (es.length : Int)) = true := by simpa using hb
      rw [if_neg hb2, if_neg hb2]
      obtain ⟨h1, h2, h3, h4⟩ := play_same (rs := rs) hroom es (bk0 A n c R rn rc c0 c1 c2) [] 0 (rel0 _ _ _ _ _ _ _ _ _ _) (inv0 _ _ _ _ _ _ _ _ _ _) rfl rfl rfl
      rw [adds_play ss rs es _ 0]
      refine ⟨by rw [h3]; rfl, fun h => ⟨h1, h2, rfl, ?_, hc0, by omega⟩⟩
      dsimp only
      rw [h3]; exact h
  · have hc : (checkYardP ss rs c0 c1 c2 != 0) = true := by simpa using hc0
    rw [if_pos hc, if_pos hc]
    exact ⟨rfl, fun h => absurd h hc0⟩
/-- The book on a day says what the reference's lots on that day say. -/
theorem upTo_check {ss : List Site} {rs : List Rest} {A R : Option Addr} {n c rn rc : Nat} {c0 c1 c2 : Int} {es : List Event} (h : rCheckP c0 c1 c2 ss rs es = 0) (day : Int) :
    upToP ss rs day (bk0 A n c R rn rc c0 c1 c2) es = (addsP ss rs (bk0 A n c R rn rc c0 c1 c2) (upToE day es)).1 ∧ Rel (upToP ss rs day (bk0 A n c R rn rc c0 c1 c2) es) (rReplayP c0 c1 c2 ss rs (upToE day es)).1 ss ∧ Inv (upToP ss rs day (bk0 A n c R rn rc c0 c1 c2) es) ss ∧
      (addsP ss rs (bk0 A n c R rn rc c0 c1 c2) (upToE day es)).2 = 0 := by
  obtain ⟨_, _, _, h4, h5, h6⟩ := (read_check ss rs A R n c rn rc c0 c1 c2 es).2 h
  obtain ⟨g1, g2⟩ := upTo_same (day := day) es _ h4
  have hroom := yard_rooms h5
  obtain ⟨k1, k2, k3, k4⟩ := play_same (rs := rs) hroom (upToE day es) (bk0 A n c R rn rc c0 c1 c2) [] 0 (rel0 _ _ _ _ _ _ _ _ _ _) (inv0 _ _ _ _ _ _ _ _ _ _) rfl rfl rfl
  have hlen : (upToE day es).length ≤ es.length := (List.takeWhile_prefix _).length_le
  refine ⟨g1, ?_, ?_, g2⟩
  · rw [g1, adds_play ss rs _ _ 0, rReplayP, if_neg (by rw [decide_eq_true_eq]; omega)]
    exact k1
  · rw [g1, adds_play ss rs _ _ 0]
    exact k2

set_option maxRecDepth 100000 in
set_option maxHeartbeats 2000000 in
theorem rCheck_any (ss : List Site) (rs : List Rest) (A R : Option Addr) (n c rn rc : Nat) (c0 c1 c2 : Int) (es : List Event) (E : Option Addr) (en ec : Nat) (w : World) (hy : YardIn w ss rs A n c R rn rc) (hev : EventsIn w es E en) :
    Calls Tryz.prog 14 #[.agg #[.slice A n c, .slice R rn rc, .int .i64 c0, .int .i64 c1, .int .i64 c2], .slice E en ec] w (Ret w (.int .i64 (rCheckP c0 c1 c2 ss rs es))) := by
  go_enter Tryz.func14, Tryz.ntmps14
  cases hc : (checkYardP ss rs c0 c1 c2 != 0)
  · have hc0 : checkYardP ss rs c0 c1 c2 = 0 := by simpa using hc
    have HR := Lib.hid (yard_rooms hc0)
    have hX : rCheckP c0 c1 c2 ss rs es = (rReplayP c0 c1 c2 ss rs es).2.2 := by rw [rCheckP, if_neg (by simp [hc0])]
    rw [hX]
    clear hX hc0
    go_wp2_with (first
      | (go_at_call 41; refine (rCheckYard_any' ss rs _ _ _ _ _ _ _ _ _ _ (hy.keep (m := w.heap.size) (by repeat (first | exact B_refl | exact Below.refl _ _ | assumption | with_reducible refine B_alloc ?_ _ | with_reducible refine B_ext ?_ _ | with_reducible refine B_drew ?_ | with_reducible refine B_drewN ?_ _ | with_reducible refine B_set ?_ (by simp; omega) _)))).mono ?_; rintro e wq ⟨rfl, zr, rfl⟩)
      | (go_at_call 42; refine (rReplay_any ss rs _ _ _ _ _ _ _ _ _ es _ _ _ _ (hy.keep (m := w.heap.size) (by repeat (first | exact B_refl | exact Below.refl _ _ | assumption | with_reducible refine B_alloc ?_ _ | with_reducible refine B_ext ?_ _ | with_reducible refine B_drew ?_ | with_reducible refine B_drewN ?_ _ | with_reducible refine B_set ?_ (by simp; omega) _))) (hev.keep (m := w.heap.size) (by repeat (first | exact B_refl | exact Below.refl _ _ | assumption | with_reducible refine B_alloc ?_ _ | with_reducible refine B_ext ?_ _ | with_reducible refine B_drew ?_ | with_reducible refine B_drewN ?_ _ | with_reducible refine B_set ?_ (by simp; omega) _))) HR.out).mono ?_; rintro e wq ⟨v, rfl, _, zp, rfl⟩))
    go_ret
    exact Ret.of rfl (by repeat (first | exact B_refl | exact Below.refl _ _ | assumption | with_reducible refine B_alloc ?_ _ | with_reducible refine B_ext ?_ _ | with_reducible refine B_drew ?_ | with_reducible refine B_drewN ?_ _ | with_reducible refine B_set ?_ (by simp; omega) _))
  · have hX : rCheckP c0 c1 c2 ss rs es = checkYardP ss rs c0 c1 c2 := by rw [rCheckP, if_pos hc]
    rw [hX]
    clear hX
    go_wp2_with (go_at_call 41; refine (rCheckYard_any' ss rs _ _ _ _ _ _ _ _ _ _ (hy.keep (m := w.heap.size) (by repeat (first | exact B_refl | exact Below.refl _ _ | assumption | with_reducible refine B_alloc ?_ _ | with_reducible refine B_ext ?_ _ | with_reducible refine B_drew ?_ | with_reducible refine B_drewN ?_ _ | with_reducible refine B_set ?_ (by simp; omega) _)))).mono ?_; rintro e wq ⟨rfl, zr, rfl⟩)
    go_ret
    exact Ret.of rfl (by repeat (first | exact B_refl | exact Below.refl _ _ | assumption | with_reducible refine B_alloc ?_ _ | with_reducible refine B_ext ?_ _ | with_reducible refine B_drew ?_ | with_reducible refine B_drewN ?_ _ | with_reducible refine B_set ?_ (by simp; omega) _))

def fewN (n : Nat) : Bool := !((decide (16 < (n : Int)) && decide ((n : Int) ≤ 300)) || decide (303 < (n : Int)))
def shortP : List Event → Bool
  | [] => true
  | e :: l => if decide (30 < (e.site.size : Int)) || decide (30 < (e.remain.size : Int)) then false else shortP l
def fewP (es : List Event) : Bool := if fewN es.length then shortP es else false
theorem shortP_all : ∀ {es : List Event}, shortP es = true → ∀ e ∈ es, e.site.size ≤ 30 ∧ e.remain.size ≤ 30
  | [], _, _, h => by cases h
  | e :: l, h, x, hx => by
    unfold shortP at h
    split at h
    · cases h
    · rename_i hn
      rcases List.mem_cons.1 hx with rfl | hx
      · simp at hn; omega
      · exact shortP_all h x hx
structure EventsRaw (w : World) (es : List Event) (A : Option Addr) (n : Nat) : Prop where
  hn : n = es.length
  sl : Sl w 7 Event.cells A es
theorem EventsRaw.keep {w W : World} {es : List Event} {A : Option Addr} {n : Nat} (h : EventsRaw w es A n) {m : Nat} (hb : Below m w W) (hm : w.heap.size ≤ m := by first | exact Nat.le_refl _ | omega) : EventsRaw W es A n := ⟨h.hn, h.sl.keep hb hm⟩
theorem few_events {w : World} {es : List Event} {A : Option Addr} {n : Nat} (hy : EventsRaw w es A n) (h : fewP es = true) : EventsIn w es A n ∧ es.length ≤ 303 ∧ (es.length ≤ 16 ∨ 300 < es.length) := by
  unfold fewP at h
  split at h
  · rename_i hs
    have h1 : es.length ≤ 303 ∧ (es.length ≤ 16 ∨ 300 < es.length) := by simp [fewN] at hs; omega
    exact ⟨⟨hy.hn, hy.sl, by omega, fun s hs => by have := shortP_all h s hs; omega⟩, h1⟩
  · cases h

set_option maxRecDepth 100000 in
set_option maxHeartbeats 2000000 in
theorem few_any (es : List Event) (E : Option Addr) (en ec : Nat) (w : World) (hy : EventsRaw w es E en) :
    Calls Tryz.prog 8 #[.slice E en ec] w (Ret w (.bool (fewP es))) := by
  have h1 := hy.hn
  subst h1
  go_enter Tryz.func8, Tryz.ntmps8
  cases hsm : fewN es.length
  · have hX : fewP es = false := by rw [fewP, hsm]; rfl
    rw [hX]
    clear hX
    have H := Lib.hid hsm
    clear hsm
    go_wp2_with fail
    all_goals first
      | (go_ret; exact Ret.of rfl (by repeat (first | exact B_refl | exact Below.refl _ _ | assumption | with_reducible refine B_alloc ?_ _ | with_reducible refine B_ext ?_ _ | with_reducible refine B_drew ?_ | with_reducible refine B_drewN ?_ _ | with_reducible refine B_set ?_ (by simp; omega) _)))
      | (exfalso; have := H.out; simp [fewN] at this; omega)
  · have hX : fewP es = shortP es := by rw [fewP, hsm]; rfl
    rw [hX]
    clear hX
    have H := Lib.hid hsm
    clear hsm
    go_wp2_with fail
    all_goals first
      | (go_loop [3] (fun i => ∃ k : Nat, k ≤ es.length ∧ i = .int .i64 k ∧ shortP es = shortP (es.drop k)) (fun i => es.length - (intOf i).toNat)
         case atStart => exact ⟨0, Nat.zero_le _, rfl, rfl⟩
         case round =>
           obtain ⟨k, hk, rfl, hf⟩ := hrel
           by_cases hlt : k < es.length
           · rw [List.drop_eq_getElem_cons hlt, shortP] at hf
             obtain ⟨b, off, rfl, hb, hc⟩ := (hy.sl.keep (n := w.heap.size) (by repeat (first | exact B_refl | exact Below.refl _ _ | assumption | with_reducible refine B_alloc ?_ _ | with_reducible refine B_ext ?_ _ | with_reducible refine B_drew ?_ | with_reducible refine B_drewN ?_ _ | with_reducible refine B_set ?_ (by simp; omega) _))).at hlt
             have x2 : w.cell? ⟨b, off + k * 7 + 2, none⟩ = some (.string es[k].site) := hc 2 _ rfl
             have x4 : w.cell? ⟨b, off + k * 7 + 4, none⟩ = some (.string es[k].remain) := hc 4 _ rfl
             have HF := Lib.hid hf
             have hlt2 : (k : Int) < (es.length : Int) := by omega
             clear hf hc
             generalize es[k].site = nm at *
             generalize es[k].remain = rm at *
             by_cases q1 : 30 < (nm.size : Int)
             · go_wp2_with fail
               go_ret
               exact Ret.of (bool_eq (by rw [HF.out, if_pos (by simp [q1])])) (by repeat (first | exact B_refl | exact Below.refl _ _ | assumption | with_reducible refine B_alloc ?_ _ | with_reducible refine B_ext ?_ _ | with_reducible refine B_drew ?_ | with_reducible refine B_drewN ?_ _ | with_reducible refine B_set ?_ (by simp; omega) _))
             · by_cases q2 : 30 < (rm.size : Int)
               · go_wp2_with fail
                 go_ret
                 exact Ret.of (bool_eq (by rw [HF.out, if_pos (by simp [q2])])) (by repeat (first | exact B_refl | exact Below.refl _ _ | assumption | with_reducible refine B_alloc ?_ _ | with_reducible refine B_ext ?_ _ | with_reducible refine B_drew ?_ | with_reducible refine B_drewN ?_ _ | with_reducible refine B_set ?_ (by simp; omega) _))
               · go_wp2_with fail
                 go_round
                 case rel => exact ⟨k + 1, by omega, by go_num, by rw [HF.out, if_neg (by simp; omega)]⟩
                 case measure => simp [intOf]; omega
           · rw [List.drop_eq_nil_of_le (by omega), shortP] at hf
             have HF := Lib.hid hf
             clear hf
             go_wp2_with fail
             go_ret
             exact Ret.of (bool_eq (by rw [HF.out])) (by repeat (first | exact B_refl | exact Below.refl _ _ | assumption | with_reducible refine B_alloc ?_ _ | with_reducible refine B_ext ?_ _ | with_reducible refine B_drew ?_ | with_reducible refine B_drewN ?_ _ | with_reducible refine B_set ?_ (by simp; omega) _)))
      | (exfalso; have := H.out; simp [fewN] at this; omega)
end Go.Proofs.YtpohkolapgofdaaGreat
