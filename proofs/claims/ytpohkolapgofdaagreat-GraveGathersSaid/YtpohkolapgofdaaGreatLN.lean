/- Walks of the reference: the lots on a day; how many burials are left. -/
/- Walks of the reference: the free levels on a day, the first one of a site. -/
/- Walks: the reference's first free level; equal lists are equal, by fields. -/
/- Walks of the reference: the lot of a remain on a day; the lots at a site on a day. -/
/- Walk of the reference: the lots at a site on a day. -/
import Derived.Test.YtpohkolapgofdaaGreatLD
import Derived.Test.YtpohkolapgofdaaGreatX3
namespace Go.Proofs.YtpohkolapgofdaaGreat
open Go.RowKit
attribute [local go_sem] World.cell?_alloc_mark ext_size ext_cell ext_frozen lt_add_r lt_add_r2 lt_add_r3 lt_add_r4 lt_add_r5 lt_add_r6 lt_add_r7 lt_add_r8

theorem upToE_pos {day : Int} {e : Event} {l : List Event} (h : e.day ≤ day) : upToE day (e :: l) = e :: upToE day l := by unfold upToE; rw [List.takeWhile_cons_of_pos (by simpa using h)]
theorem upToE_neg {day : Int} {e : Event} {l : List Event} (h : ¬ e.day ≤ day) : upToE day (e :: l) = [] := by unfold upToE; rw [List.takeWhile_cons_of_neg (by simpa using h)]
set_option maxRecDepth 100000 in
set_option maxHeartbeats 2000000 in
theorem rUpTo_any (es : List Event) (E : Option Addr) (en ec : Nat) (day : Int) (w : World) (hev : EventsIn w es E en) (hcap : es.length ≤ ec) :
    Calls Tryz.prog 45 #[.slice E en ec, .int .i64 day] w (Ret w (.slice E (upToE day es).length ec)) := by
  have hen := hev.hn
  subst hen
  have hl1 := hev.l1
  obtain ⟨N, hN⟩ : ∃ N, (upToE day es).length = N := ⟨_, rfl⟩
  rw [hN]
  have HN := Lib.hid hN
  clear hN
  go_enter Tryz.func45, Tryz.ntmps45
  go_wp2_with fail
  go_loop [5] (fun i => ∃ j : Nat, j ≤ es.length ∧ i = .int .i64 j ∧ N = j + (upToE day (es.drop j)).length) (fun i => es.length - (intOf i).toNat)
  case atStart => exact ⟨0, Nat.zero_le _, rfl, by rw [← HN.out]; simp⟩
  case round =>
    obtain ⟨j, hj, rfl, hf⟩ := hrel
    by_cases hlt : j < es.length
    · rw [List.drop_eq_getElem_cons hlt] at hf
      obtain ⟨b, off, rfl, hb, hc⟩ := hev.sl.at hlt
      have x0 : w.cell? ⟨b, off + j * 7, none⟩ = some (.int .i64 es[j].day) := hc 0 _ rfl
      have hlt2 : (j : Int) < (es.length : Int) := by omega
      clear hc
      generalize es[j] = e at *
      by_cases hd : e.day ≤ day
      · rw [upToE_pos hd, List.length_cons] at hf
        have HF := Lib.hid hf
        clear hf
        go_wp2_with fail
        go_round
        case rel => exact ⟨j + 1, by omega, by go_num, by rw [HF.out]; omega⟩
        case measure => simp [intOf]; omega
      · rw [upToE_neg hd] at hf
        simp at hf
        subst hf
        have hNc : N ≤ ec := by omega
        go_wp2_with fail
        go_ret
        exact Ret.of rfl (by repeat (first | exact B_refl | exact Below.refl _ _ | assumption | with_reducible refine B_alloc ?_ _ | with_reducible refine B_ext ?_ _ | with_reducible refine B_drew ?_ | with_reducible refine B_drewN ?_ _ | with_reducible refine B_set ?_ (by simp; omega) _))
    · have hje : j = es.length := by omega
      rw [List.drop_eq_nil_of_le (by omega)] at hf
      have hf2 : N = j := by simpa [upToE] using hf
      subst hf2
      have HE := Lib.hid hje
      have hNc : N ≤ ec := by omega
      have hnl : decide ((N : Int) < (es.length : Int)) = false := by simp; omega
      clear hf hje
      cases E with
      | none =>
        have h0 : es.length = 0 := by
          cases hq : es with
          | nil => rfl
          | cons y ys => obtain ⟨b, off, h, _⟩ := hev.sl (by rw [hq]; simp); cases h
        have HN0 := Lib.hid (show N = 0 by have := HE.out; omega)
        clear h0
        go_wp2_with fail
        go_ret
        exact Ret.of rfl (by repeat (first | exact B_refl | exact Below.refl _ _ | assumption | with_reducible refine B_alloc ?_ _ | with_reducible refine B_ext ?_ _ | with_reducible refine B_drew ?_ | with_reducible refine B_drewN ?_ _ | with_reducible refine B_set ?_ (by simp; omega) _))
      | some ad =>
        go_wp2_with fail
        go_ret
        exact Ret.of rfl (by repeat (first | exact B_refl | exact Below.refl _ _ | assumption | with_reducible refine B_alloc ?_ _ | with_reducible refine B_ext ?_ _ | with_reducible refine B_drew ?_ | with_reducible refine B_drewN ?_ _ | with_reducible refine B_set ?_ (by simp; omega) _))

set_option maxRecDepth 100000 in
set_option maxHeartbeats 2000000 in
theorem rOn_any (ss : List Site) (rs : List Rest) (A R : Option Addr) (n c rn rc : Nat) (c0 c1 c2 : Int) (es : List Event) (E : Option Addr) (en ec : Nat) (day : Int) (w : World) (hy : YardIn w ss rs A n c R rn rc) (hev : EventsIn w es E en) (hcap : es.length ≤ ec) (hroom : ∀ s ∈ ss, s.room ≤ 12) :
    Calls Tryz.prog 20 #[.agg #[.slice A n c, .slice R rn rc, .int .i64 c0, .int .i64 c1, .int .i64 c2], .slice E en ec, .int .i64 day] w (LotsPost w (rReplayP c0 c1 c2 ss rs (upToE day es)).1) := by
  have hl2 : (upToE day es).length ≤ es.length := (List.takeWhile_prefix _).length_le
  have hup : ∀ W, EventsIn W es E en → EventsIn W (upToE day es) E (upToE day es).length := fun W h => by
    have hpf : upToE day es <+: es := List.takeWhile_prefix _
    refine ⟨rfl, fun hp => ?_, by have := h.l1; omega, fun e he => h.sh e (hpf.mem he)⟩
    obtain ⟨b, off, hA, hlt, hc⟩ := h.sl (by omega)
    refine ⟨b, off, hA, hlt, fun k x hx => hc k x ?_⟩
    obtain ⟨post, hp⟩ := hpf
    rw [← hp, List.getElem?_append_left (List.getElem?_eq_some_iff.1 hx).1]
    exact hx
  have HU := Lib.hid hup
  clear hup
  go_enter Tryz.func20, Tryz.ntmps20
  go_wp2_with fail
  obtain ⟨W0, hW0⟩ : ∃ W0, W0 = w.alloc (.cells #[.slice A n c, .slice R rn rc, .int .i64 c0, .int .i64 c1, .int .i64 c2] 26) := ⟨_, rfl⟩
  rw [← hW0]
  have hB : Below w.heap.size w W0 := by rw [hW0]; repeat (first | exact B_refl | exact Below.refl _ _ | assumption | with_reducible refine B_alloc ?_ _ | with_reducible refine B_ext ?_ _ | with_reducible refine B_drew ?_ | with_reducible refine B_drewN ?_ _ | with_reducible refine B_set ?_ (by simp; omega) _)
  have hblk : W0.heap[w.heap.size]? = some (.cells #[.slice A n c, .slice R rn rc, .int .i64 c0, .int .i64 c1, .int .i64 c2] 26) := by rw [hW0]; exact heap_alloc_new _ _
  have hz := blk_lt hblk
  have g0 : W0.cell? ⟨w.heap.size, 0, none⟩ = some (.slice A n c) := by simp [World.cell?, hblk]
  have g1 : W0.cell? ⟨w.heap.size, 1, none⟩ = some (.slice R rn rc) := by simp [World.cell?, hblk]
  have g2 : W0.cell? ⟨w.heap.size, 2, none⟩ = some (.int .i64 c0) := by simp [World.cell?, hblk]
  have g3 : W0.cell? ⟨w.heap.size, 3, none⟩ = some (.int .i64 c1) := by simp [World.cell?, hblk]
  have g4 : W0.cell? ⟨w.heap.size, 4, none⟩ = some (.int .i64 c2) := by simp [World.cell?, hblk]
  clear hW0 hblk
  go_region_held3 (fun w' => w'.cell? ⟨w.heap.size, 0, none⟩ = some (.slice A n c) ∧ w'.cell? ⟨w.heap.size, 1, none⟩ = some (.slice R rn rc) ∧ w'.cell? ⟨w.heap.size, 2, none⟩ = some (.int .i64 c0) ∧ w'.cell? ⟨w.heap.size, 3, none⟩ = some (.int .i64 c1) ∧ w'.cell? ⟨w.heap.size, 4, none⟩ = some (.int .i64 c2))
    ((refine ⟨cell_kept hz g0 ?_, cell_kept hz g1 ?_, cell_kept hz g2 ?_, cell_kept hz g3 ?_, cell_kept hz g4 ?_⟩ <;> ((repeat (first | exact B_refl | exact Below.refl _ _ | assumption | with_reducible refine B_alloc ?_ _ | with_reducible refine B_ext ?_ _ | with_reducible refine B_drew ?_ | with_reducible refine B_drewN ?_ _ | with_reducible refine B_set ?_ (by simp; omega) _)); done)))
    (first
      | (go_at_call 45; refine (rUpTo_any es _ _ _ _ _ (hev.keep (m := w.heap.size) ?q1) hcap).mono ?_
         case q1 => repeat (first | exact B_refl | exact Below.refl _ _ | assumption | with_reducible refine B_alloc ?_ _ | with_reducible refine B_ext ?_ _ | with_reducible refine B_drew ?_ | with_reducible refine B_drewN ?_ _ | with_reducible refine B_set ?_ (by simp; omega) _)
         rintro e wq ⟨rfl, zu, rfl⟩)
      | (go_at_call 42; refine (rReplay_any ss rs _ _ _ _ _ _ _ _ _ (upToE day es) _ _ _ _ (hy.keep (m := w.heap.size) ?q1) (HU.out _ (hev.keep (m := w.heap.size) ?q2)) hroom).mono ?_
         case q1 => repeat (first | exact B_refl | exact Below.refl _ _ | assumption | with_reducible refine B_alloc ?_ _ | with_reducible refine B_ext ?_ _ | with_reducible refine B_drew ?_ | with_reducible refine B_drewN ?_ _ | with_reducible refine B_set ?_ (by simp; omega) _)
         case q2 => repeat (first | exact B_refl | exact Below.refl _ _ | assumption | with_reducible refine B_alloc ?_ _ | with_reducible refine B_ext ?_ _ | with_reducible refine B_drew ?_ | with_reducible refine B_drewN ?_ _ | with_reducible refine B_set ?_ (by simp; omega) _)
         rintro e wq ⟨v, rfl, hown, zp, rfl⟩))
  go_wp2_with fail
  go_ret
  refine ⟨_, rfl, own_mono' hown (by simp [ext_size]; have := hB.size; omega), ext_below (by repeat (first | exact B_refl | exact Below.refl _ _ | assumption | with_reducible refine B_alloc ?_ _ | with_reducible refine B_ext ?_ _ | with_reducible refine B_drew ?_ | with_reducible refine B_drewN ?_ _ | with_reducible refine B_set ?_ (by simp; omega) _))⟩

def rFreeAt (c0 c1 c2 : Int) (ls : List Lot) (s : Site) (co n : Int) : Bool := (takesP c0 c1 c2 s.kind s.depth s.step n co && !rOccP s.name n ls) && !rCovP s.kind s.name s.room n ls
def rLeftGo (c0 c1 c2 : Int) (ls : List Lot) (s : Site) (co : Int) : Nat → Int → Int → Int
  | 0, _, c => c
  | f + 1, n, c => rLeftGo c0 c1 c2 ls s co f (n + 1) (if rFreeAt c0 c1 c2 ls s co n then c + 1 else c)
def rLeftP (c0 c1 c2 : Int) (ls : List Lot) (s : Site) (co : Int) : Int := rLeftGo c0 c1 c2 ls s co s.room.toNat 0 0

end Go.Proofs.YtpohkolapgofdaaGreat
namespace Go.Proofs.YtpohkolapgofdaaGreat
open Go.RowKit
attribute [local go_sem] World.cell?_alloc_mark ext_size ext_cell ext_frozen lt_add_r lt_add_r2 lt_add_r3 lt_add_r4 lt_add_r5 lt_add_r6 lt_add_r7 lt_add_r8

def freeBy (f : Int → Int) (m : Nat) : List Int := ((List.range m).filter fun (l : Nat) => f (l : Int) == 0).map fun (l : Nat) => (l : Int)
theorem freeBy_succ (f : Int → Int) (m : Nat) : freeBy f (m + 1) = freeBy f m ++ (if f (m : Int) == 0 then [(m : Int)] else []) := by
  unfold freeBy
  rw [List.range_succ, List.filter_append, List.map_append]
  congr 1
  cases h : (f (m : Int) == 0) <;> simp [h]
theorem freeBy_len (f : Int → Int) (m : Nat) : (freeBy f m).length ≤ m := by
  unfold freeBy
  rw [List.length_map]
  refine Nat.le_trans (List.length_filter_le _ _) (by simp)
def rFreeS (c0 c1 c2 : Int) (ss : List Site) (ls : List Lot) (co : Int) (s : Site) : List Berth := (freeBy (fun l => rPlaceP c0 c1 c2 ss ls s.name l co) s.room.toNat).map fun l => ⟨s.name, l⟩
def rFreeP (c0 c1 c2 : Int) (ss : List Site) (ls : List Lot) (co : Int) : List Berth := ss.flatMap (rFreeS c0 c1 c2 ss ls co)
theorem rFreeS_len {c0 c1 c2 : Int} {ss : List Site} {ls : List Lot} {co : Int} {s : Site} (h : s.room ≤ 12) : (rFreeS c0 c1 c2 ss ls co s).length ≤ 12 := by
  unfold rFreeS
  rw [List.length_map]
  exact Nat.le_trans (freeBy_len _ _) (by omega)
theorem flat_le {α β : Type} {f : α → List β} {n : Nat} : ∀ {l : List α}, (∀ x ∈ l, (f x).length ≤ n) → (l.flatMap f).length ≤ l.length * n
  | [], _ => by simp
  | x :: l, h => by
    rw [List.flatMap_cons, List.length_append, List.length_cons, Nat.succ_mul]
    have h1 := h x (by simp)
    have h2 := flat_le (f := f) (n := n) (l := l) fun y hy => h y (by simp [hy])
    omega
/-- A slice of places of the call's own comes back. -/
def BerthsPost (w : World) (l : List Berth) (e : Ending) (w' : World) : Prop :=
  ∃ v, e = .returned v ∧ w'.ownsRow w.heap.size 111 2 v l.length (l.flatMap Berth.cells) ∧ ∃ z, w' = w.ext z

end Go.Proofs.YtpohkolapgofdaaGreat
namespace Go.Proofs.YtpohkolapgofdaaGreat
open Go.RowKit
attribute [local go_sem] World.cell?_alloc_mark ext_size ext_cell ext_frozen lt_add_r lt_add_r2 lt_add_r3 lt_add_r4 lt_add_r5 lt_add_r6 lt_add_r7 lt_add_r8

def rFirstP (fr : List Berth) (nm : ByteArray) (lv : Int) : Int := match fr.find? fun b => b.site.toList == nm.toList && decide (lv ≤ b.level) with | none => -1 | some b => b.level
set_option maxRecDepth 100000 in
set_option maxHeartbeats 2000000 in
theorem sameLots_any (xs : List Lot) (P Q : Option Addr) (pc qc : Nat) (w : World) (hp : Sl w 6 Lot.cells P xs) (hq : Sl w 6 Lot.cells Q xs) (hl : xs.length ≤ 100000) :
    Calls Tryz.prog 18 #[.slice P xs.length pc, .slice Q xs.length qc] w (Ret w (.bool true)) := by
  go_enter Tryz.func18, Tryz.ntmps18
  go_wp2_with fail
  go_loopw [5] (fun i wr => ∃ j : Nat, j ≤ xs.length ∧ i = .int .i64 j ∧ ∃ z, wr = w.ext z) (fun i _ => xs.length - (intOf i).toNat)
  case atStart => exact ⟨0, Nat.zero_le _, rfl, ext_below (Below.refl _ _)⟩
  case round =>
    obtain ⟨j, hj, rfl, z, rfl⟩ := hrel
    by_cases hlt : j < xs.length
    · obtain ⟨b, off, rfl, hb, hc⟩ := hp.at hlt
      obtain ⟨b', off', rfl, hb', hc'⟩ := hq.at hlt
      have hlt2 : (j : Int) < (xs.length : Int) := by omega
      have hj0 : (0 : Int) ≤ (j : Int) := by omega
      generalize xs[j] = x at *
      have x0 : w.cell? ⟨b, off + j * 6, none⟩ = some (.string x.remain) := hc 0 _ rfl
      have y0 : w.cell? ⟨b', off' + j * 6, none⟩ = some (.string x.remain) := hc' 0 _ rfl
      have x1 : w.cell? ⟨b, off + j * 6 + 1, none⟩ = some (.int .i64 x.state) := hc 1 _ rfl
      have y1 : w.cell? ⟨b', off' + j * 6 + 1, none⟩ = some (.int .i64 x.state) := hc' 1 _ rfl
      have x2 : w.cell? ⟨b, off + j * 6 + 2, none⟩ = some (.string x.site) := hc 2 _ rfl
      have y2 : w.cell? ⟨b', off' + j * 6 + 2, none⟩ = some (.string x.site) := hc' 2 _ rfl
      have x3 : w.cell? ⟨b, off + j * 6 + 3, none⟩ = some (.int .i64 x.level) := hc 3 _ rfl
      have y3 : w.cell? ⟨b', off' + j * 6 + 3, none⟩ = some (.int .i64 x.level) := hc' 3 _ rfl
      have x4 : w.cell? ⟨b, off + j * 6 + 4, none⟩ = some (.int .i64 x.container) := hc 4 _ rfl
      have y4 : w.cell? ⟨b', off' + j * 6 + 4, none⟩ = some (.int .i64 x.container) := hc' 4 _ rfl
      have x5 : w.cell? ⟨b, off + j * 6 + 5, none⟩ = some (.int .i64 x.since) := hc 5 _ rfl
      have y5 : w.cell? ⟨b', off' + j * 6 + 5, none⟩ = some (.int .i64 x.since) := hc' 5 _ rfl
      clear hc hc'
      go_wp2_with fail
      (refine wp_region_ext_lit (by kernel_rfl) (by kernel_rfl) ?_
       repeat (first | go_big_quiet_skip | (go_big_quiet_want; go_big_quiet_op; first | go_big_quiet_on | (apply Exists.intro; refine ⟨fun _ => ?_, ?_⟩; (fail); go_big_quiet_on)))
       refine wpQuiet_nil ?_
       rintro _ ⟨zq, rfl⟩)
      go_wp2_with fail
      go_roundw
      case rel => exact ⟨j + 1, by omega, by go_num, ext_below (by repeat (first | exact B_refl | exact Below.refl _ _ | assumption | with_reducible refine B_alloc ?_ _ | with_reducible refine B_ext ?_ _ | with_reducible refine B_drew ?_ | with_reducible refine B_drewN ?_ _ | with_reducible refine B_set ?_ (by simp; omega) _))⟩
      case measure => simp [intOf]; omega
    · have hnl : ¬ ((j : Int) < (xs.length : Int)) := by omega
      go_wp2_with fail
      go_ret
      exact Ret.of rfl (by repeat (first | exact B_refl | exact Below.refl _ _ | assumption | with_reducible refine B_alloc ?_ _ | with_reducible refine B_ext ?_ _ | with_reducible refine B_drew ?_ | with_reducible refine B_drewN ?_ _ | with_reducible refine B_set ?_ (by simp; omega) _))
set_option maxRecDepth 100000 in
set_option maxHeartbeats 2000000 in
theorem sameEvents_any (xs : List Event) (P Q : Option Addr) (pc qc : Nat) (w : World) (hp : Sl w 7 Event.cells P xs) (hq : Sl w 7 Event.cells Q xs) (hl : xs.length ≤ 100000) :
    Calls Tryz.prog 28 #[.slice P xs.length pc, .slice Q xs.length qc] w (Ret w (.bool true)) := by
  go_enter Tryz.func28, Tryz.ntmps28
  go_wp2_with fail
  go_loopw [5] (fun i wr => ∃ j : Nat, j ≤ xs.length ∧ i = .int .i64 j ∧ ∃ z, wr = w.ext z) (fun i _ => xs.length - (intOf i).toNat)
  case atStart => exact ⟨0, Nat.zero_le _, rfl, ext_below (Below.refl _ _)⟩
  case round =>
    obtain ⟨j, hj, rfl, z, rfl⟩ := hrel
    by_cases hlt : j < xs.length
    · obtain ⟨b, off, rfl, hb, hc⟩ := hp.at hlt
      obtain ⟨b', off', rfl, hb', hc'⟩ := hq.at hlt
      have hlt2 : (j : Int) < (xs.length : Int) := by omega
      have hj0 : (0 : Int) ≤ (j : Int) := by omega
      generalize xs[j] = x at *
      have x0 : w.cell? ⟨b, off + j * 7, none⟩ = some (.int .i64 x.day) := hc 0 _ rfl
      have y0 : w.cell? ⟨b', off' + j * 7, none⟩ = some (.int .i64 x.day) := hc' 0 _ rfl
      have x1 : w.cell? ⟨b, off + j * 7 + 1, none⟩ = some (.int .i64 x.kind) := hc 1 _ rfl
      have y1 : w.cell? ⟨b', off' + j * 7 + 1, none⟩ = some (.int .i64 x.kind) := hc' 1 _ rfl
      have x2 : w.cell? ⟨b, off + j * 7 + 2, none⟩ = some (.string x.site) := hc 2 _ rfl
      have y2 : w.cell? ⟨b', off' + j * 7 + 2, none⟩ = some (.string x.site) := hc' 2 _ rfl
      have x3 : w.cell? ⟨b, off + j * 7 + 3, none⟩ = some (.int .i64 x.level) := hc 3 _ rfl
      have y3 : w.cell? ⟨b', off' + j * 7 + 3, none⟩ = some (.int .i64 x.level) := hc' 3 _ rfl
      have x4 : w.cell? ⟨b, off + j * 7 + 4, none⟩ = some (.string x.remain) := hc 4 _ rfl
      have y4 : w.cell? ⟨b', off' + j * 7 + 4, none⟩ = some (.string x.remain) := hc' 4 _ rfl
      have x5 : w.cell? ⟨b, off + j * 7 + 5, none⟩ = some (.int .i64 x.container) := hc 5 _ rfl
      have y5 : w.cell? ⟨b', off' + j * 7 + 5, none⟩ = some (.int .i64 x.container) := hc' 5 _ rfl
      have x6 : w.cell? ⟨b, off + j * 7 + 6, none⟩ = some (.bool x.order) := hc 6 _ rfl
      have y6 : w.cell? ⟨b', off' + j * 7 + 6, none⟩ = some (.bool x.order) := hc' 6 _ rfl
      clear hc hc'
      go_wp2_with fail
      (refine wp_region_ext_lit (by kernel_rfl) (by kernel_rfl) ?_
       repeat (first | go_big_quiet_skip | (go_big_quiet_want; go_big_quiet_op; first | go_big_quiet_on | (apply Exists.intro; refine ⟨fun _ => ?_, ?_⟩; (fail); go_big_quiet_on)))
       refine wpQuiet_nil ?_
       rintro _ ⟨zq, rfl⟩)
      go_wp2_with fail
      go_roundw
      case rel => exact ⟨j + 1, by omega, by go_num, ext_below (by repeat (first | exact B_refl | exact Below.refl _ _ | assumption | with_reducible refine B_alloc ?_ _ | with_reducible refine B_ext ?_ _ | with_reducible refine B_drew ?_ | with_reducible refine B_drewN ?_ _ | with_reducible refine B_set ?_ (by simp; omega) _))⟩
      case measure => simp [intOf]; omega
    · have hnl : ¬ ((j : Int) < (xs.length : Int)) := by omega
      go_wp2_with fail
      go_ret
      exact Ret.of rfl (by repeat (first | exact B_refl | exact Below.refl _ _ | assumption | with_reducible refine B_alloc ?_ _ | with_reducible refine B_ext ?_ _ | with_reducible refine B_drew ?_ | with_reducible refine B_drewN ?_ _ | with_reducible refine B_set ?_ (by simp; omega) _))
end Go.Proofs.YtpohkolapgofdaaGreat
namespace Go.Proofs.YtpohkolapgofdaaGreat
open Go.RowKit
attribute [local go_sem] World.cell?_alloc_mark ext_size ext_cell ext_frozen lt_add_r lt_add_r2 lt_add_r3 lt_add_r4 lt_add_r5 lt_add_r6 lt_add_r7 lt_add_r8
attribute [local go_sem] ext_setCell alloc_setCell_lt

def rWhereP (ls : List Lot) (nm : ByteArray) : Lot × Bool := match findLot nm ls with | none => (zeroLot, false) | some l => (l, true)
theorem rReplay_len {c0 c1 c2 : Int} {ss : List Site} {rs : List Rest} (es : List Event) : (rReplayP c0 c1 c2 ss rs es).1.length ≤ 300 := by
  unfold rReplayP
  split
  · simp
  · rename_i hb
    have := goP_len (c0 := c0) (c1 := c1) (c2 := c2) (ss := ss) (rs := rs) es [] 0 0
    simp at hb this
    omega
set_option maxRecDepth 100000 in
set_option maxHeartbeats 2000000 in
theorem rWhere_any (ss : List Site) (rs : List Rest) (A R : Option Addr) (n c rn rc : Nat) (c0 c1 c2 : Int) (es : List Event) (E : Option Addr) (en ec : Nat) (nm : ByteArray) (day : Int) (w : World) (hy : YardIn w ss rs A n c R rn rc) (hev : EventsIn w es E en) (hcap : es.length ≤ ec) (hroom : ∀ s ∈ ss, s.room ≤ 12) :
    Calls Tryz.prog 17 #[.agg #[.slice A n c, .slice R rn rc, .int .i64 c0, .int .i64 c1, .int .i64 c2], .slice E en ec, .string nm, .int .i64 day] w (Ret w (.tuple #[(rWhereP (rReplayP c0 c1 c2 ss rs (upToE day es)).1 nm).1.v, .bool (rWhereP (rReplayP c0 c1 c2 ss rs (upToE day es)).1 nm).2])) := by
  have hlen := rReplay_len (c0 := c0) (c1 := c1) (c2 := c2) (ss := ss) (rs := rs) (upToE day es)
  have HO := fun W h1 h2 => rOn_any ss rs A R n c rn rc c0 c1 c2 es E en ec day W h1 h2 hcap hroom
  generalize (rReplayP c0 c1 c2 ss rs (upToE day es)).1 = ls at *
  go_enter Tryz.func17, Tryz.ntmps17
  cases hf : findLot nm ls with
  | none =>
    have hX : rWhereP ls nm = (zeroLot, false) := by unfold rWhereP; rw [hf]
    have hfi : rFindR nm ls = -1 := by rw [rFindR, lotIdx_none hf]
    rw [hX]
    clear hX hf
    go_wp2_with (first
      | (go_at_call 20; refine (HO _ (hy.keep (m := w.heap.size) (by repeat (first | exact B_refl | exact Below.refl _ _ | assumption | with_reducible refine B_alloc ?_ _ | with_reducible refine B_ext ?_ _ | with_reducible refine B_drew ?_ | with_reducible refine B_drewN ?_ _ | with_reducible refine B_set ?_ (by simp; omega) _))) (hev.keep (m := w.heap.size) (by repeat (first | exact B_refl | exact Below.refl _ _ | assumption | with_reducible refine B_alloc ?_ _ | with_reducible refine B_ext ?_ _ | with_reducible refine B_drew ?_ | with_reducible refine B_drewN ?_ _ | with_reducible refine B_set ?_ (by simp; omega) _)))).mono ?_; rintro e wq ⟨v, rfl, hown, z, rfl⟩; obtain ⟨A', c', rfl, hS, hlc⟩ := own_sl lot_len hown; clear hown)
      | (go_at_call 44; refine (rFind_any ls _ _ _ nm _ ⟨rfl, hS, by omega⟩).mono ?_; rintro e wq ⟨rfl, z2, rfl⟩; rw [hfi]))
    refine bodyPost_ret (v := .tuple #[zeroLot.v, .bool false]) (results_lot rfl _ _ (w.heap.size + 1) zeroLot _ rfl rfl (by simp [go_sem, zeroLot]) (by simp [go_sem, zeroLot]) (by simp [go_sem, zeroLot]) (by simp [go_sem, zeroLot]) (by simp [go_sem, zeroLot]) (by simp [go_sem, zeroLot])) rfl ?_
    exact Ret.of rfl (by repeat (first | exact B_refl | exact Below.refl _ _ | assumption | with_reducible refine B_alloc ?_ _ | with_reducible refine B_ext ?_ _ | with_reducible refine B_drew ?_ | with_reducible refine B_drewN ?_ _ | with_reducible refine B_set ?_ (by simp; omega) _))
  | some l =>
    have hX : rWhereP ls nm = (l, true) := by unfold rWhereP; rw [hf]
    obtain ⟨i, hik, hgk⟩ := lotIdx_some hf
    have hfi : rFindR nm ls = (i : Int) := by rw [rFindR, hik]
    obtain ⟨hil, hgl⟩ := List.getElem?_eq_some_iff.1 hgk
    rw [hX]
    clear hX hf hik hgk
    obtain ⟨rm, sta, si, lv, co, sc⟩ := l
    go_wp2_with (first
      | (go_at_call 20; refine (HO _ (hy.keep (m := w.heap.size) (by repeat (first | exact B_refl | exact Below.refl _ _ | assumption | with_reducible refine B_alloc ?_ _ | with_reducible refine B_ext ?_ _ | with_reducible refine B_drew ?_ | with_reducible refine B_drewN ?_ _ | with_reducible refine B_set ?_ (by simp; omega) _))) (hev.keep (m := w.heap.size) (by repeat (first | exact B_refl | exact Below.refl _ _ | assumption | with_reducible refine B_alloc ?_ _ | with_reducible refine B_ext ?_ _ | with_reducible refine B_drew ?_ | with_reducible refine B_drewN ?_ _ | with_reducible refine B_set ?_ (by simp; omega) _)))).mono ?_; rintro e wq ⟨v, rfl, hown, z, rfl⟩; obtain ⟨A', c', rfl, hS, hlc⟩ := own_sl lot_len hown; clear hown
         obtain ⟨b, off, rfl, hb, hc0⟩ := hS.at hil
         rw [hgl] at hc0
         have x0 : World.cell? _ ⟨b, off + i * 6, none⟩ = some (.string rm) := hc0 0 _ rfl
         have x1 : World.cell? _ ⟨b, off + i * 6 + 1, none⟩ = some (.int .i64 sta) := hc0 1 _ rfl
         have x2 : World.cell? _ ⟨b, off + i * 6 + 2, none⟩ = some (.string si) := hc0 2 _ rfl
         have x3 : World.cell? _ ⟨b, off + i * 6 + 3, none⟩ = some (.int .i64 lv) := hc0 3 _ rfl
         have x4 : World.cell? _ ⟨b, off + i * 6 + 4, none⟩ = some (.int .i64 co) := hc0 4 _ rfl
         have x5 : World.cell? _ ⟨b, off + i * 6 + 5, none⟩ = some (.int .i64 sc) := hc0 5 _ rfl
         have hi0 : (0 : Int) ≤ (i : Int) := by omega
         have hi1 : (i : Int) < (ls.length : Int) := by omega
         clear hc0)
      | (go_at_call 44; refine (rFind_any ls _ _ _ nm _ ⟨rfl, hS, by omega⟩).mono ?_; rintro e wq ⟨rfl, z2, rfl⟩; rw [hfi]
         replace x0 := ((B_ext (Below.refl _ _) z2).cell (p := ⟨b, off + i * 6, none⟩) hb).trans x0
         replace x1 := ((B_ext (Below.refl _ _) z2).cell (p := ⟨b, off + i * 6 + 1, none⟩) hb).trans x1
         replace x2 := ((B_ext (Below.refl _ _) z2).cell (p := ⟨b, off + i * 6 + 2, none⟩) hb).trans x2
         replace x3 := ((B_ext (Below.refl _ _) z2).cell (p := ⟨b, off + i * 6 + 3, none⟩) hb).trans x3
         replace x4 := ((B_ext (Below.refl _ _) z2).cell (p := ⟨b, off + i * 6 + 4, none⟩) hb).trans x4
         replace x5 := ((B_ext (Below.refl _ _) z2).cell (p := ⟨b, off + i * 6 + 5, none⟩) hb).trans x5))
    refine bodyPost_ret (v := .tuple #[Lot.v ⟨rm, sta, si, lv, co, sc⟩, .bool true]) (results_lot rfl _ _ (w.heap.size + 1) ⟨rm, sta, si, lv, co, sc⟩ _ rfl rfl (by simp [go_sem, zeroLot]) (by simp [go_sem, zeroLot]) (by simp [go_sem, zeroLot]) (by simp [go_sem, zeroLot]) (by simp [go_sem, zeroLot]) (by simp [go_sem, zeroLot])) rfl ?_
    exact Ret.of rfl (by repeat (first | exact B_refl | exact Below.refl _ _ | assumption | with_reducible refine B_alloc ?_ _ | with_reducible refine B_ext ?_ _ | with_reducible refine B_drew ?_ | with_reducible refine B_drewN ?_ _ | with_reducible refine B_set ?_ (by simp; omega) _))

end Go.Proofs.YtpohkolapgofdaaGreat
namespace Go.Proofs.YtpohkolapgofdaaGreat
open Go.RowKit
attribute [local go_sem] World.cell?_alloc_mark ext_size ext_cell ext_frozen lt_add_r lt_add_r2 lt_add_r3 lt_add_r4 lt_add_r5 lt_add_r6 lt_add_r7 lt_add_r8

theorem rReplay_len' {c0 c1 c2 : Int} {ss : List Site} {rs : List Rest} (es : List Event) : (rReplayP c0 c1 c2 ss rs es).1.length ≤ 300 := by
  unfold rReplayP
  split
  · simp
  · rename_i hb
    have := goP_len (c0 := c0) (c1 := c1) (c2 := c2) (ss := ss) (rs := rs) es [] 0 0
    simp at hb this
    omega
def siteLv (nm : ByteArray) (k : Nat) (ls : List Lot) : List Lot := ls.filter fun l => l.site.toList == nm.toList && l.level == (k : Int)
def rWthP (nm : ByteArray) (ls : List Lot) (n : Nat) : List Lot := (List.range n).flatMap fun (k : Nat) => siteLv nm k ls
theorem rWth_succ (nm : ByteArray) (ls : List Lot) (n : Nat) : rWthP nm ls (n + 1) = rWthP nm ls n ++ siteLv nm n ls := by
  unfold rWthP
  rw [List.range_succ, List.flatMap_append, List.flatMap_cons, List.flatMap_nil, List.append_nil]
theorem siteLv_le (nm : ByteArray) (k : Nat) (ls : List Lot) : (siteLv nm k ls).length ≤ ls.length := List.length_filter_le _ _
theorem rWth_le (nm : ByteArray) (ls : List Lot) : ∀ n, (rWthP nm ls n).length ≤ n * ls.length
  | 0 => by simp [rWthP]
  | n + 1 => by
    have ih := rWth_le nm ls n
    have := siteLv_le nm n ls
    rw [rWth_succ, List.length_append, Nat.succ_mul]
    omega
theorem siteLv_take {nm : ByteArray} {k : Nat} {ls : List Lot} {j : Nat} (h : j < ls.length) : siteLv nm k (ls.take (j + 1)) = siteLv nm k (ls.take j) ++ (if ls[j].site.toList == nm.toList && ls[j].level == (k : Int) then [ls[j]] else []) := by
  rw [List.take_succ_eq_append_getElem h, siteLv, List.filter_append]
  congr 1
  cases hq : (ls[j].site.toList == nm.toList && ls[j].level == (k : Int)) <;> simp [hq]
set_option maxRecDepth 100000 in
set_option maxHeartbeats 2000000 in
theorem rWithin_any (ss : List Site) (rs : List Rest) (A R : Option Addr) (n c rn rc : Nat) (c0 c1 c2 : Int) (es : List Event) (E : Option Addr) (en ec : Nat) (nm : ByteArray) (day : Int) (w : World) (hy : YardIn w ss rs A n c R rn rc) (hev : EventsIn w es E en) (hcap : es.length ≤ ec) (hroom : ∀ s ∈ ss, s.room ≤ 12) :
    Calls Tryz.prog 19 #[.agg #[.slice A n c, .slice R rn rc, .int .i64 c0, .int .i64 c1, .int .i64 c2], .slice E en ec, .string nm, .int .i64 day] w (LotsPost w (rWthP nm (rReplayP c0 c1 c2 ss rs (upToE day es)).1 12)) := by
  have hlen := rReplay_len' (c0 := c0) (c1 := c1) (c2 := c2) (ss := ss) (rs := rs) (upToE day es)
  have HO := fun W h1 h2 => rOn_any ss rs A R n c rn rc c0 c1 c2 es E en ec day W h1 h2 hcap hroom
  generalize (rReplayP c0 c1 c2 ss rs (upToE day es)).1 = ls at *
  go_enter Tryz.func19, Tryz.ntmps19
  go_wp2_with (go_at_call 20; refine (HO _ (hy.keep (m := w.heap.size) (by repeat (first | exact B_refl | exact Below.refl _ _ | assumption | with_reducible refine B_alloc ?_ _ | with_reducible refine B_ext ?_ _ | with_reducible refine B_drew ?_ | with_reducible refine B_drewN ?_ _ | with_reducible refine B_set ?_ (by simp; omega) _))) (hev.keep (m := w.heap.size) (by repeat (first | exact B_refl | exact Below.refl _ _ | assumption | with_reducible refine B_alloc ?_ _ | with_reducible refine B_ext ?_ _ | with_reducible refine B_drew ?_ | with_reducible refine B_drewN ?_ _ | with_reducible refine B_set ?_ (by simp; omega) _)))).mono ?_; rintro e wq ⟨v, rfl, hown, z, rfl⟩; obtain ⟨A', c', rfl, hS, hlc⟩ := own_sl lot_len hown; clear hown)
  generalize hW0 : World.ext (w.alloc (.cells #[.slice A n c, .slice R rn rc, .int .i64 c0, .int .i64 c1, .int .i64 c2] 26)) z = W0 at *
  have hB : Below w.heap.size w W0 := by rw [← hW0]; repeat (first | exact B_refl | exact Below.refl _ _ | assumption | with_reducible refine B_alloc ?_ _ | with_reducible refine B_ext ?_ _ | with_reducible refine B_drew ?_ | with_reducible refine B_drewN ?_ _ | with_reducible refine B_set ?_ (by simp; omega) _)
  obtain ⟨N, hN⟩ : ∃ N, N = W0.heap.size := ⟨_, rfl⟩
  clear hW0 HO hev hy
  go_loopw [10, 11] (fun v i wr => ∃ m : Nat, m ≤ 12 ∧ i = .int .i64 m ∧ wr.ownsRow N 40 6 v (rWthP nm ls m).length ((rWthP nm ls m).flatMap Lot.cells) ∧ Below N W0 wr) (fun _ i _ => 12 - (intOf i).toNat)
  case atStart => exact ⟨0, Nat.zero_le _, rfl, World.ownsRow_nil _ _ _ _, Below.refl _ _⟩
  case round =>
    obtain ⟨m, hm, rfl, hown, hBr⟩ := hrel
    by_cases hm12 : m < 12
    · have hm2 : (m : Int) < 12 := by omega
      have HS := Lib.hid (rWth_succ nm ls m)
      have hdl := rWth_le nm ls m
      have hdl1 : m * ls.length ≤ 12 * ls.length := Nat.mul_le_mul_right _ hm
      have hdl2 : (rWthP nm ls m).length ≤ 3600 := by omega
      clear hdl hdl1
      generalize hdn : rWthP nm ls m = dn at *
      have HDN := Lib.hid hdn
      clear hdn
      obtain ⟨wo, rfl⟩ : ∃ wo : World, wo = wr := ⟨_, rfl⟩
      go_wp2_with fail
      go_loopw [10, 12] (fun v i wr => ∃ j : Nat, j ≤ ls.length ∧ i = .int .i64 j ∧ wr.ownsRow N 40 6 v (dn ++ siteLv nm m (ls.take j)).length ((dn ++ siteLv nm m (ls.take j)).flatMap Lot.cells) ∧ Below N W0 wr) (fun _ i _ => ls.length - (intOf i).toNat)
      case atStart => exact ⟨0, Nat.zero_le _, rfl, by simpa [siteLv] using hown, hBr⟩
      case round =>
        obtain ⟨j, hj, rfl, hown1, hBr1⟩ := hrel
        have hwN : N ≤ wr.heap.size := by have := hBr1.size; omega
        by_cases hjl : j < ls.length
        · obtain ⟨b, off, rfl, hb, hc0⟩ := hS.at hjl
          have hc : ∀ i u, (ls[j].cells)[i]? = some u → wr.cell? ⟨b, off + j * 6 + i, none⟩ = some u := fun i u hu => (hBr1.cell (p := ⟨b, off + j * 6 + i, none⟩) (by rw [hN]; exact hb)).trans (hc0 i u hu)
          have x0 : wr.cell? ⟨b, off + j * 6, none⟩ = some (.string ls[j].remain) := hc 0 _ rfl
          have x1 : wr.cell? ⟨b, off + j * 6 + 1, none⟩ = some (.int .i64 ls[j].state) := hc 1 _ rfl
          have x2 : wr.cell? ⟨b, off + j * 6 + 2, none⟩ = some (.string ls[j].site) := hc 2 _ rfl
          have x3 : wr.cell? ⟨b, off + j * 6 + 3, none⟩ = some (.int .i64 ls[j].level) := hc 3 _ rfl
          have x4 : wr.cell? ⟨b, off + j * 6 + 4, none⟩ = some (.int .i64 ls[j].container) := hc 4 _ rfl
          have x5 : wr.cell? ⟨b, off + j * 6 + 5, none⟩ = some (.int .i64 ls[j].since) := hc 5 _ rfl
          have HT := Lib.hid (siteLv_take (nm := nm) (k := m) hjl)
          have hjl2 : (j : Int) < (ls.length : Int) := by omega
          have hsl := siteLv_le nm m (ls.take j)
          rw [List.length_take] at hsl
          have hus : (dn ++ siteLv nm m (ls.take j)).length ≤ 4000 := by rw [List.length_append]; omega
          clear hc hc0 hsl
          generalize ls[j] = s at *
          obtain ⟨a0, a1, a2, a3, a4, a5⟩ := s
          dsimp only at x0 x1 x2 x3 x4 x5 HT
          have HT2 : Hid (∀ X, siteLv nm m (ls.take j) ++ X = siteLv nm m (ls.take (j + 1)) → (dn ++ siteLv nm m (ls.take j)) ++ X = dn ++ siteLv nm m (ls.take (j + 1))) := fun X h => by rw [List.append_assoc, h]
          generalize hus0 : dn ++ siteLv nm m (ls.take j) = us at *
          have HU := Lib.hid hus0
          clear hus0
          cases h1 : (a2.toList == nm.toList)
          · have HE : Hid (us = dn ++ siteLv nm m (ls.take (j + 1))) := by
              show _ = _
              rw [HT.out, h1]
              simp [HU.out]
            go_wp2_with fail
            go_roundw
            case rel => exact ⟨j + 1, by omega, by go_num, by rw [← HE.out]; exact hown1, hBr1⟩
            case measure => simp [intOf]; omega
          · cases h2 : (a3 == (m : Int))
            · have HE : Hid (us = dn ++ siteLv nm m (ls.take (j + 1))) := by
                show _ = _
                rw [HT.out, h1, h2]
                simp [HU.out]
              go_wp2_with fail
              go_roundw
              case rel => exact ⟨j + 1, by omega, by go_num, by rw [← HE.out]; exact hown1, hBr1⟩
              case measure => simp [intOf]; omega
            · have HE : Hid (us ++ [⟨a0, a1, a2, a3, a4, a5⟩] = dn ++ siteLv nm m (ls.take (j + 1))) := by
                show _ = _
                rw [HT.out, h1, h2]
                simp [← HU.out]
              go_wp2_with (at_builtin; refine wpList_append_sl rfl _ _ rfl elLot lot_len lot_one (base := N) (n := us.length) (m := 1) (v := u10) rfl (hown1.alloc _) rfl (ys := [⟨a0, a1, a2, a3, a4, a5⟩]) rfl (sl_lot (t := 40) (fr := (0, 0)) (x := ⟨a0, a1, a2, a3, a4, a5⟩) (G_new _ _ _ (by first | rfl | (simp; done)))) (by simp [maxLen]; omega) (by omega) (by simp; omega) ?_; intro v' w1 h1 h2 h3)
              have hown2 : w1.ownsRow N 40 6 v' (us ++ [(⟨a0, a1, a2, a3, a4, a5⟩ : Lot)]).length ((us ++ [(⟨a0, a1, a2, a3, a4, a5⟩ : Lot)]).flatMap Lot.cells) := by simpa using h1
              have hB2 : Below N W0 w1 := below_own (B_alloc hBr1 _) (hown1.alloc _) h2
              clear h1 h2 h3
              go_wp2_with fail
              go_roundw
              case rel => exact ⟨j + 1, by omega, by go_num, by rw [← HE.out]; exact hown2, hB2⟩
              case measure => simp [intOf]; omega
        · have hje : j = ls.length := by omega
          subst hje
          rw [List.take_length] at hown1
          go_wp2_with fail
          go_roundw
          case rel => exact ⟨m + 1, by omega, by go_num, by rw [HS.out]; exact hown1, hBr1⟩
          case measure => simp [intOf]; omega
    · have hme : m = 12 := by omega
      subst hme
      go_wp2_with fail
      go_ret
      exact ⟨_, rfl, own_mono' hown (by have := hB.size; omega), ext_below (hB.trans (hBr.mono (by have := hB.size; omega)))⟩
end Go.Proofs.YtpohkolapgofdaaGreat
