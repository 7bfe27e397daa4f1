/- Walks of the reference: the lots on a day; how many burials are left. -/
/- Walks of the reference: the free levels on a day, the first one of a site. -/
/- Walks: the reference's first free level; equal lists are equal, by fields. -/
import Derived.Test.YtmiobhlgpjjbgaaLD
namespace Go.Proofs.Ytmiobhlgpjjbgaa
open Go.RowKit
attribute [local go_sem] World.cell?_alloc_mark ext_size ext_cell ext_frozen lt_add_r lt_add_r2 lt_add_r3 lt_add_r4 lt_add_r5 lt_add_r6 lt_add_r7 lt_add_r8

theorem upToE_pos {day : Int} {e : Event} {l : List Event} (h : e.day ≤ day) : upToE day (e :: l) = e :: upToE day l := by unfold upToE; rw [List.takeWhile_cons_of_pos (by simpa using h)]
theorem upToE_neg {day : Int} {e : Event} {l : List Event} (h : ¬ e.day ≤ day) : upToE day (e :: l) = [] := by unfold upToE; rw [List.takeWhile_cons_of_neg (by simpa using h)]
set_option maxRecDepth 100000 in
set_option maxHeartbeats 2000000 in
theorem rUpTo_any (es : List Event) (E : Option Addr) (en ec : Nat) (day : Int) (w : World) (hev : EventsIn w es E en) (hcap : es.length ≤ ec) :
    Calls Try.prog 87 #[.slice E en ec, .int .i64 day] w (Ret w (.slice E (upToE day es).length ec)) := by
  have hen := hev.hn
  subst hen
  have hl1 := hev.l1
  obtain ⟨N, hN⟩ : ∃ N, (upToE day es).length = N := ⟨_, rfl⟩
  rw [hN]
  have HN := Lib.hid hN
  clear hN
  go_enter Try.func87, Try.ntmps87
  go_wp2_with fail
  go_loop [5] (fun i => ∃ j : Nat, j ≤ es.length ∧ i = .int .i64 j ∧ N = j + (upToE day (es.drop j)).length) (fun i => es.length - (intOf i).toNat)
  case atStart => exact ⟨0, Nat.zero_le _, rfl, by rw [← HN.out]; simp⟩
  case round =>
    obtain ⟨j, hj, rfl, hf⟩ := hrel
    by_cases hlt : j < es.length
    · rw [List.drop_eq_getElem_cons hlt] at hf
      obtain ⟨b, off, rfl, hb, hc⟩ := hev.sl.at hlt
      have x0 : w.cell? ⟨b, off + j * 7, none⟩ = some (.int .i64 es[j].day) := hc 0 _ rfl
      have hlt2 : (j : Int) < (es.length : Int) := by omega
      clear hc
      generalize es[j] = e at *
      by_cases hd : e.day ≤ day
      · rw [upToE_pos hd, List.length_cons] at hf
        have HF := Lib.hid hf
        clear hf
        go_wp2_with fail
        go_round
        case rel => exact ⟨j + 1, by omega, by go_num, by rw [HF.out]; omega⟩
        case measure => simp [intOf]; omega
      · rw [upToE_neg hd] at hf
        simp at hf
        subst hf
        have hNc : N ≤ ec := by omega
        go_wp2_with fail
        go_ret
        exact Ret.of rfl (by repeat (first | exact B_refl | exact Below.refl _ _ | assumption | with_reducible refine B_alloc ?_ _ | with_reducible refine B_ext ?_ _ | with_reducible refine B_drew ?_ | with_reducible refine B_drewN ?_ _ | with_reducible refine B_set ?_ (by simp; omega) _))
    · have hje : j = es.length := by omega
      rw [List.drop_eq_nil_of_le (by omega)] at hf
      have hf2 : N = j := by simpa [upToE] using hf
      subst hf2
      have HE := Lib.hid hje
      have hNc : N ≤ ec := by omega
      have hnl : decide ((N : Int) < (es.length : Int)) = false := by simp; omega
      clear hf hje
      cases E with
      | none =>
        have h0 : es.length = 0 := by
          cases hq : es with
          | nil => rfl
          | cons y ys => obtain ⟨b, off, h, _⟩ := hev.sl (by rw [hq]; simp); cases h
        have HN0 := Lib.hid (show N = 0 by have := HE.out; omega)
        clear h0
        go_wp2_with fail
        go_ret
        exact Ret.of rfl (by repeat (first | exact B_refl | exact Below.refl _ _ | assumption | with_reducible refine B_alloc ?_ _ | with_reducible refine B_ext ?_ _ | with_reducible refine B_drew ?_ | with_reducible refine B_drewN ?_ _ | with_reducible refine B_set ?_ (by simp; omega) _))
      | some ad =>
        go_wp2_with fail
        go_ret
        exact Ret.of rfl (by repeat (first | exact B_refl | exact Below.refl _ _ | assumption | with_reducible refine B_alloc ?_ _ | with_reducible refine B_ext ?_ _ | with_reducible refine B_drew ?_ | with_reducible refine B_drewN ?_ _ | with_reducible refine B_set ?_ (by simp; omega) _))

set_option maxRecDepth 100000 in
set_option maxHeartbeats 2000000 in
theorem rOn_any (ss : List Site) (rs : List Rest) (A R : Option Addr) (n c rn rc : Nat) (c0 c1 c2 : Int) (es : List Event) (E : Option Addr) (en ec : Nat) (day : Int) (w : World) (hy : YardIn w ss rs A n c R rn rc) (hev : EventsIn w es E en) (hcap : es.length ≤ ec) (hroom : ∀ s ∈ ss, s.room ≤ 12) :
    Calls Try.prog 71 #[.agg #[.slice A n c, .slice R rn rc, .int .i64 c0, .int .i64 c1, .int .i64 c2], .slice E en ec, .int .i64 day] w (LotsPost w (rReplayP c0 c1 c2 ss rs (upToE day es)).1) := by
  have hl2 : (upToE day es).length ≤ es.length := (List.takeWhile_prefix _).length_le
  have hup : ∀ W, EventsIn W es E en → EventsIn W (upToE day es) E (upToE day es).length := fun W h => by
    have hpf : upToE day es <+: es := List.takeWhile_prefix _
    refine ⟨rfl, fun hp => ?_, by have := h.l1; omega, fun e he => h.sh e (hpf.mem he)⟩
    obtain ⟨b, off, hA, hlt, hc⟩ := h.sl (by omega)
    refine ⟨b, off, hA, hlt, fun k x hx => hc k x ?_⟩
    obtain ⟨post, hp⟩ := hpf
    rw [← hp, List.getElem?_append_left (List.getElem?_eq_some_iff.1 hx).1]
    exact hx
  have HU := Lib.hid hup
  clear hup
  go_enter Try.func71, Try.ntmps71
  go_wp2_with fail
  obtain ⟨W0, hW0⟩ : ∃ W0, W0 = w.alloc (.cells #[.slice A n c, .slice R rn rc, .int .i64 c0, .int .i64 c1, .int .i64 c2] 26) := ⟨_, rfl⟩
  rw [← hW0]
  have hB : Below w.heap.size w W0 := by rw [hW0]; repeat (first | exact B_refl | exact Below.refl _ _ | assumption | with_reducible refine B_alloc ?_ _ | with_reducible refine B_ext ?_ _ | with_reducible refine B_drew ?_ | with_reducible refine B_drewN ?_ _ | with_reducible refine B_set ?_ (by simp; omega) _)
  have hblk : W0.heap[w.heap.size]? = some (.cells #[.slice A n c, .slice R rn rc, .int .i64 c0, .int .i64 c1, .int .i64 c2] 26) := by rw [hW0]; exact heap_alloc_new _ _
  have hz := blk_lt hblk
  have g0 : W0.cell? ⟨w.heap.size, 0, none⟩ = some (.slice A n c) := by simp [World.cell?, hblk]
  have g1 : W0.cell? ⟨w.heap.size, 1, none⟩ = some (.slice R rn rc) := by simp [World.cell?, hblk]
  have g2 : W0.cell? ⟨w.heap.size, 2, none⟩ = some (.int .i64 c0) := by simp [World.cell?, hblk]
  have g3 : W0.cell? ⟨w.heap.size, 3, none⟩ = some (.int .i64 c1) := by simp [World.cell?, hblk]
  have g4 : W0.cell? ⟨w.heap.size, 4, none⟩ = some (.int .i64 c2) := by simp [World.cell?, hblk]
  clear hW0 hblk
  go_region_held3 (fun w' => w'.cell? ⟨w.heap.size, 0, none⟩ = some (.slice A n c) ∧ w'.cell? ⟨w.heap.size, 1, none⟩ = some (.slice R rn rc) ∧ w'.cell? ⟨w.heap.size, 2, none⟩ = some (.int .i64 c0) ∧ w'.cell? ⟨w.heap.size, 3, none⟩ = some (.int .i64 c1) ∧ w'.cell? ⟨w.heap.size, 4, none⟩ = some (.int .i64 c2))
    ((refine ⟨cell_kept hz g0 ?_, cell_kept hz g1 ?_, cell_kept hz g2 ?_, cell_kept hz g3 ?_, cell_kept hz g4 ?_⟩ <;> ((repeat (first | exact B_refl | exact Below.refl _ _ | assumption | with_reducible refine B_alloc ?_ _ | with_reducible refine B_ext ?_ _ | with_reducible refine B_drew ?_ | with_reducible refine B_drewN ?_ _ | with_reducible refine B_set ?_ (by simp; omega) _)); done)))
    (first
      | (go_at_call 87; refine (rUpTo_any es _ _ _ _ _ (hev.keep (m := w.heap.size) ?q1) hcap).mono ?_
         case q1 => repeat (first | exact B_refl | exact Below.refl _ _ | assumption | with_reducible refine B_alloc ?_ _ | with_reducible refine B_ext ?_ _ | with_reducible refine B_drew ?_ | with_reducible refine B_drewN ?_ _ | with_reducible refine B_set ?_ (by simp; omega) _)
         rintro e wq ⟨rfl, zu, rfl⟩)
      | (go_at_call 47; refine (rReplay_any ss rs _ _ _ _ _ _ _ _ _ (upToE day es) _ _ _ _ (hy.keep (m := w.heap.size) ?q1) (HU.out _ (hev.keep (m := w.heap.size) ?q2)) hroom).mono ?_
         case q1 => repeat (first | exact B_refl | exact Below.refl _ _ | assumption | with_reducible refine B_alloc ?_ _ | with_reducible refine B_ext ?_ _ | with_reducible refine B_drew ?_ | with_reducible refine B_drewN ?_ _ | with_reducible refine B_set ?_ (by simp; omega) _)
         case q2 => repeat (first | exact B_refl | exact Below.refl _ _ | assumption | with_reducible refine B_alloc ?_ _ | with_reducible refine B_ext ?_ _ | with_reducible refine B_drew ?_ | with_reducible refine B_drewN ?_ _ | with_reducible refine B_set ?_ (by simp; omega) _)
         rintro e wq ⟨v, rfl, hown, zp, rfl⟩))
  go_wp2_with fail
  go_ret
  refine ⟨_, rfl, own_mono' hown (by simp [ext_size]; have := hB.size; omega), ext_below (by repeat (first | exact B_refl | exact Below.refl _ _ | assumption | with_reducible refine B_alloc ?_ _ | with_reducible refine B_ext ?_ _ | with_reducible refine B_drew ?_ | with_reducible refine B_drewN ?_ _ | with_reducible refine B_set ?_ (by simp; omega) _))⟩

def rFreeAt (c0 c1 c2 : Int) (ls : List Lot) (s : Site) (co n : Int) : Bool := (takesP c0 c1 c2 s.kind s.depth s.step n co && !rOccP s.name n ls) && !rCovP s.kind s.name s.room n ls
def rLeftGo (c0 c1 c2 : Int) (ls : List Lot) (s : Site) (co : Int) : Nat → Int → Int → Int
  | 0, _, c => c
  | f + 1, n, c => rLeftGo c0 c1 c2 ls s co f (n + 1) (if rFreeAt c0 c1 c2 ls s co n then c + 1 else c)
def rLeftP (c0 c1 c2 : Int) (ls : List Lot) (s : Site) (co : Int) : Int := rLeftGo c0 c1 c2 ls s co s.room.toNat 0 0

set_option maxRecDepth 100000 in
set_option maxHeartbeats 2000000 in
theorem rLeft_any (ss : List Site) (rs : List Rest) (A R : Option Addr) (n c rn rc : Nat) (c0 c1 c2 : Int) (es : List Event) (E : Option Addr) (en ec : Nat) (a : ByteArray) (k so d st r co : Int) (w : World) (hy : YardIn w ss rs A n c R rn rc) (hev : EventsIn w es E en) (hroom : ∀ s ∈ ss, s.room ≤ 12) (hr : r ≤ 12) (hc1 : 0 ≤ co) (hc2 : co ≤ 2) :
    Calls Try.prog 40 #[.agg #[.slice A n c, .slice R rn rc, .int .i64 c0, .int .i64 c1, .int .i64 c2], .slice E en ec, .agg #[.string a, .int .i64 k, .int .i64 so, .int .i64 d, .int .i64 st, .int .i64 r], .int .i64 co] w (Ret w (.int .i64 (rLeftP c0 c1 c2 (rReplayP c0 c1 c2 ss rs es).1 ⟨a, k, so, d, st, r⟩ co))) := by
  have hlen : (rReplayP c0 c1 c2 ss rs es).1.length ≤ 100000 := by
    unfold rReplayP
    split
    · simp
    · rename_i hb
      have := goP_len (c0 := c0) (c1 := c1) (c2 := c2) (ss := ss) (rs := rs) es [] 0 0
      simp at hb this
      omega
  have HR := fun W h1 h2 => rReplay_any ss rs A R n c rn rc c0 c1 c2 es E en ec W h1 h2 hroom
  unfold rLeftP
  generalize rReplayP c0 c1 c2 ss rs es = p at *
  obtain ⟨ls, i0, e0⟩ := p
  dsimp only at hlen ⊢
  obtain ⟨T, hT⟩ : ∃ T, rLeftGo c0 c1 c2 ls ⟨a, k, so, d, st, r⟩ co r.toNat 0 0 = T := ⟨_, rfl⟩
  rw [hT]
  have HT := Lib.hid hT
  clear hT
  go_enter Try.func40, Try.ntmps40
  go_wp2_with (go_at_call 47; refine (HR _ (hy.keep (m := w.heap.size) (by repeat (first | exact B_refl | exact Below.refl _ _ | assumption | with_reducible refine B_alloc ?_ _ | with_reducible refine B_ext ?_ _ | with_reducible refine B_drew ?_ | with_reducible refine B_drewN ?_ _ | with_reducible refine B_set ?_ (by simp; omega) _))) (hev.keep (m := w.heap.size) (by repeat (first | exact B_refl | exact Below.refl _ _ | assumption | with_reducible refine B_alloc ?_ _ | with_reducible refine B_ext ?_ _ | with_reducible refine B_drew ?_ | with_reducible refine B_drewN ?_ _ | with_reducible refine B_set ?_ (by simp; omega) _)))).mono ?_; intro e wq hq; obtain ⟨A', c', z, rfl, rfl, hl, hlc⟩ := hq.form hlen; clear hq)
  generalize hW0 : World.ext ((w.alloc (.cells #[.slice A n c, .slice R rn rc, .int .i64 c0, .int .i64 c1, .int .i64 c2] 26)).alloc (.cells #[.string a, .int .i64 k, .int .i64 so, .int .i64 d, .int .i64 st, .int .i64 r] 32)) z = W0 at *
  have hB : Below w.heap.size w W0 := by rw [← hW0]; repeat (first | exact B_refl | exact Below.refl _ _ | assumption | with_reducible refine B_alloc ?_ _ | with_reducible refine B_ext ?_ _ | with_reducible refine B_drew ?_ | with_reducible refine B_drewN ?_ _ | with_reducible refine B_set ?_ (by simp; omega) _)
  have hblk : W0.heap[w.heap.size]? = some (.cells #[.slice A n c, .slice R rn rc, .int .i64 c0, .int .i64 c1, .int .i64 c2] 26) := by rw [← hW0]; (repeat (first | with_reducible exact G_new _ _ _ (by simp) | with_reducible exact G_new _ _ _ (by simp [ext_size]) | with_reducible refine G_drew ?_ | with_reducible refine G_ext ?_ | with_reducible refine G_alloc ?_))
  have hblk1 : W0.heap[w.heap.size + 1]? = some (.cells #[.string a, .int .i64 k, .int .i64 so, .int .i64 d, .int .i64 st, .int .i64 r] 32) := by rw [← hW0]; (repeat (first | with_reducible exact G_new _ _ _ (by simp) | with_reducible exact G_new _ _ _ (by simp [ext_size]) | with_reducible refine G_drew ?_ | with_reducible refine G_ext ?_ | with_reducible refine G_alloc ?_))
  have hz := blk_lt hblk
  have hz1 := blk_lt hblk1
  have g0 : W0.cell? ⟨w.heap.size, 0, none⟩ = some (.slice A n c) := by simp [World.cell?, hblk]
  have g1 : W0.cell? ⟨w.heap.size, 1, none⟩ = some (.slice R rn rc) := by simp [World.cell?, hblk]
  have g2 : W0.cell? ⟨w.heap.size, 2, none⟩ = some (.int .i64 c0) := by simp [World.cell?, hblk]
  have g3 : W0.cell? ⟨w.heap.size, 3, none⟩ = some (.int .i64 c1) := by simp [World.cell?, hblk]
  have g4 : W0.cell? ⟨w.heap.size, 4, none⟩ = some (.int .i64 c2) := by simp [World.cell?, hblk]
  have q0 : W0.cell? ⟨w.heap.size + 1, 0, none⟩ = some (.string a) := by simp [World.cell?, hblk1]
  have q1 : W0.cell? ⟨w.heap.size + 1, 1, none⟩ = some (.int .i64 k) := by simp [World.cell?, hblk1]
  have q2 : W0.cell? ⟨w.heap.size + 1, 2, none⟩ = some (.int .i64 so) := by simp [World.cell?, hblk1]
  have q3 : W0.cell? ⟨w.heap.size + 1, 3, none⟩ = some (.int .i64 d) := by simp [World.cell?, hblk1]
  have q4 : W0.cell? ⟨w.heap.size + 1, 4, none⟩ = some (.int .i64 st) := by simp [World.cell?, hblk1]
  have q5 : W0.cell? ⟨w.heap.size + 1, 5, none⟩ = some (.int .i64 r) := by simp [World.cell?, hblk1]
  clear hW0 hblk hblk1 HR hy hev
  go_loopw [12, 13] (fun cn i wr => ∃ (j : Nat) (x : Int), (j : Int) ≤ 12 ∧ i = .int .i64 j ∧ cn = .int .i64 x ∧ 0 ≤ x ∧ x ≤ (j : Int) ∧ T = rLeftGo c0 c1 c2 ls ⟨a, k, so, d, st, r⟩ co (r - j).toNat j x ∧ ∃ z, wr = W0.ext z) (fun _ i _ => (r - intOf i).toNat)
  case atStart => exact ⟨0, 0, by omega, rfl, rfl, Int.le_refl _, Int.le_refl _, by rw [← HT.out]; simp, ext_below (Below.refl _ _)⟩
  case round =>
    obtain ⟨j, x, hj, rfl, rfl, hx0, hx1, hf, z, rfl⟩ := hrel
    by_cases hlt : (j : Int) < r
    · obtain ⟨f, hfu⟩ : ∃ f, (r - j).toNat = f + 1 := ⟨(r - j).toNat - 1, by omega⟩
      rw [hfu, rLeftGo] at hf
      have hf1 : (r - ((j + 1 : Nat) : Int)).toNat = f := by omega
      have HF := Lib.hid hf
      clear hf
      cases ht : takesP c0 c1 c2 k d st (j : Int) co
      · have HFA : Hid (rFreeAt c0 c1 c2 ls ⟨a, k, so, d, st, r⟩ co (j : Int) = false) := by show _ = _; simp [rFreeAt, ht]
        go_wp2_with (go_at_call 32; refine (rTakes_any _ _ _ _ _ _ _ _ _ _ _ _ _ _ _ _ _ _ hc1 hc2).mono ?_; rintro e wq ⟨rfl, zq, rfl⟩; rw [ht])
        go_roundw
        case rel => exact ⟨j + 1, x, by omega, by go_num, rfl, hx0, by omega, by rw [HF.out, HFA.out, hf1]; simp, ext_below (by repeat (first | exact B_refl | exact Below.refl _ _ | assumption | with_reducible refine B_alloc ?_ _ | with_reducible refine B_ext ?_ _ | with_reducible refine B_drew ?_ | with_reducible refine B_drewN ?_ _ | with_reducible refine B_set ?_ (by simp; omega) _))⟩
        case measure => simp [intOf]; omega
      · cases ho : rOccP a (j : Int) ls
        · cases hv : rCovP k a r (j : Int) ls
          · have HFA : Hid (rFreeAt c0 c1 c2 ls ⟨a, k, so, d, st, r⟩ co (j : Int) = true) := by show _ = _; simp [rFreeAt, ht, ho, hv]
            go_wp2_with (first
              | (go_at_call 32; refine (rTakes_any _ _ _ _ _ _ _ _ _ _ _ _ _ _ _ _ _ _ hc1 hc2).mono ?_; rintro e wq ⟨rfl, zq, rfl⟩; rw [ht])
              | (go_at_call 73; refine (rOcc_any ls _ _ _ _ _ _ (hl.keep (m := W0.heap.size) (by repeat (first | exact B_refl | exact Below.refl _ _ | assumption | with_reducible refine B_alloc ?_ _ | with_reducible refine B_ext ?_ _ | with_reducible refine B_drew ?_ | with_reducible refine B_drewN ?_ _ | with_reducible refine B_set ?_ (by simp; omega) _)))).mono ?_; rintro e wq ⟨rfl, zq, rfl⟩; rw [ho])
              | (go_at_call 74; refine (rCov_any ls _ _ _ _ _ _ _ _ _ _ _ (hl.keep (m := W0.heap.size) (by repeat (first | exact B_refl | exact Below.refl _ _ | assumption | with_reducible refine B_alloc ?_ _ | with_reducible refine B_ext ?_ _ | with_reducible refine B_drew ?_ | with_reducible refine B_drewN ?_ _ | with_reducible refine B_set ?_ (by simp; omega) _))) (by omega) (by omega) (by omega)).mono ?_; rintro e wq ⟨rfl, zq, rfl⟩; rw [hv]))
            go_roundw
            case rel => exact ⟨j + 1, x + 1, by omega, by go_num, rfl, by omega, by omega, by rw [HF.out, HFA.out, hf1]; simp, ext_below (by repeat (first | exact B_refl | exact Below.refl _ _ | assumption | with_reducible refine B_alloc ?_ _ | with_reducible refine B_ext ?_ _ | with_reducible refine B_drew ?_ | with_reducible refine B_drewN ?_ _ | with_reducible refine B_set ?_ (by simp; omega) _))⟩
            case measure => simp [intOf]; omega
          · have HFA : Hid (rFreeAt c0 c1 c2 ls ⟨a, k, so, d, st, r⟩ co (j : Int) = false) := by show _ = _; simp [rFreeAt, hv]
            go_wp2_with (first
              | (go_at_call 32; refine (rTakes_any _ _ _ _ _ _ _ _ _ _ _ _ _ _ _ _ _ _ hc1 hc2).mono ?_; rintro e wq ⟨rfl, zq, rfl⟩; rw [ht])
              | (go_at_call 73; refine (rOcc_any ls _ _ _ _ _ _ (hl.keep (m := W0.heap.size) (by repeat (first | exact B_refl | exact Below.refl _ _ | assumption | with_reducible refine B_alloc ?_ _ | with_reducible refine B_ext ?_ _ | with_reducible refine B_drew ?_ | with_reducible refine B_drewN ?_ _ | with_reducible refine B_set ?_ (by simp; omega) _)))).mono ?_; rintro e wq ⟨rfl, zq, rfl⟩; rw [ho])
              | (go_at_call 74; refine (rCov_any ls _ _ _ _ _ _ _ _ _ _ _ (hl.keep (m := W0.heap.size) (by repeat (first | exact B_refl | exact Below.refl _ _ | assumption | with_reducible refine B_alloc ?_ _ | with_reducible refine B_ext ?_ _ | with_reducible refine B_drew ?_ | with_reducible refine B_drewN ?_ _ | with_reducible refine B_set ?_ (by simp; omega) _))) (by omega) (by omega) (by omega)).mono ?_; rintro e wq ⟨rfl, zq, rfl⟩; rw [hv]))
            go_roundw
            case rel => exact ⟨j + 1, x, by omega, by go_num, rfl, hx0, by omega, by rw [HF.out, HFA.out, hf1]; simp, ext_below (by repeat (first | exact B_refl | exact Below.refl _ _ | assumption | with_reducible refine B_alloc ?_ _ | with_reducible refine B_ext ?_ _ | with_reducible refine B_drew ?_ | with_reducible refine B_drewN ?_ _ | with_reducible refine B_set ?_ (by simp; omega) _))⟩
            case measure => simp [intOf]; omega
        · have HFA : Hid (rFreeAt c0 c1 c2 ls ⟨a, k, so, d, st, r⟩ co (j : Int) = false) := by show _ = _; simp [rFreeAt, ho]
          go_wp2_with (first
            | (go_at_call 32; refine (rTakes_any _ _ _ _ _ _ _ _ _ _ _ _ _ _ _ _ _ _ hc1 hc2).mono ?_; rintro e wq ⟨rfl, zq, rfl⟩; rw [ht])
            | (go_at_call 73; refine (rOcc_any ls _ _ _ _ _ _ (hl.keep (m := W0.heap.size) (by repeat (first | exact B_refl | exact Below.refl _ _ | assumption | with_reducible refine B_alloc ?_ _ | with_reducible refine B_ext ?_ _ | with_reducible refine B_drew ?_ | with_reducible refine B_drewN ?_ _ | with_reducible refine B_set ?_ (by simp; omega) _)))).mono ?_; rintro e wq ⟨rfl, zq, rfl⟩; rw [ho]))
          go_roundw
          case rel => exact ⟨j + 1, x, by omega, by go_num, rfl, hx0, by omega, by rw [HF.out, HFA.out, hf1]; simp, ext_below (by repeat (first | exact B_refl | exact Below.refl _ _ | assumption | with_reducible refine B_alloc ?_ _ | with_reducible refine B_ext ?_ _ | with_reducible refine B_drew ?_ | with_reducible refine B_drewN ?_ _ | with_reducible refine B_set ?_ (by simp; omega) _))⟩
          case measure => simp [intOf]; omega
    · have hfu : (r - j).toNat = 0 := by omega
      rw [hfu, rLeftGo] at hf
      subst hf
      go_wp2_with fail
      go_ret
      exact Ret.of rfl (by repeat (first | exact B_refl | exact Below.refl _ _ | assumption | with_reducible refine B_alloc ?_ _ | with_reducible refine B_ext ?_ _ | with_reducible refine B_drew ?_ | with_reducible refine B_drewN ?_ _ | with_reducible refine B_set ?_ (by simp; omega) _))
end Go.Proofs.Ytmiobhlgpjjbgaa
namespace Go.Proofs.Ytmiobhlgpjjbgaa
open Go.RowKit
attribute [local go_sem] World.cell?_alloc_mark ext_size ext_cell ext_frozen lt_add_r lt_add_r2 lt_add_r3 lt_add_r4 lt_add_r5 lt_add_r6 lt_add_r7 lt_add_r8

def freeBy (f : Int → Int) (m : Nat) : List Int := ((List.range m).filter fun (l : Nat) => f (l : Int) == 0).map fun (l : Nat) => (l : Int)
theorem freeBy_succ (f : Int → Int) (m : Nat) : freeBy f (m + 1) = freeBy f m ++ (if f (m : Int) == 0 then [(m : Int)] else []) := by
  unfold freeBy
  rw [List.range_succ, List.filter_append, List.map_append]
  congr 1
  cases h : (f (m : Int) == 0) <;> simp [h]
theorem freeBy_len (f : Int → Int) (m : Nat) : (freeBy f m).length ≤ m := by
  unfold freeBy
  rw [List.length_map]
  refine Nat.le_trans (List.length_filter_le _ _) (by simp)
def rFreeS (c0 c1 c2 : Int) (ss : List Site) (ls : List Lot) (co : Int) (s : Site) : List Berth := (freeBy (fun l => rPlaceP c0 c1 c2 ss ls s.name l co) s.room.toNat).map fun l => ⟨s.name, l⟩
def rFreeP (c0 c1 c2 : Int) (ss : List Site) (ls : List Lot) (co : Int) : List Berth := ss.flatMap (rFreeS c0 c1 c2 ss ls co)
theorem rFreeS_len {c0 c1 c2 : Int} {ss : List Site} {ls : List Lot} {co : Int} {s : Site} (h : s.room ≤ 12) : (rFreeS c0 c1 c2 ss ls co s).length ≤ 12 := by
  unfold rFreeS
  rw [List.length_map]
  exact Nat.le_trans (freeBy_len _ _) (by omega)
theorem flat_le {α β : Type} {f : α → List β} {n : Nat} : ∀ {l : List α}, (∀ x ∈ l, (f x).length ≤ n) → (l.flatMap f).length ≤ l.length * n
  | [], _ => by simp
  | x :: l, h => by
    rw [List.flatMap_cons, List.length_append, List.length_cons, Nat.succ_mul]
    have h1 := h x (by simp)
    have h2 := flat_le (f := f) (n := n) (l := l) fun y hy => h y (by simp [hy])
    omega
/-- A slice of places of the call's own comes back. -/
def BerthsPost (w : World) (l : List Berth) (e : Ending) (w' : World) : Prop :=
  ∃ v, e = .returned v ∧ w'.ownsRow w.heap.size 54 2 v l.length (l.flatMap Berth.cells) ∧ ∃ z, w' = w.ext z

set_option maxRecDepth 100000 in
set_option maxHeartbeats 2000000 in
theorem rFree_any (ss : List Site) (rs : List Rest) (A R : Option Addr) (n c rn rc : Nat) (c0 c1 c2 : Int) (es : List Event) (E : Option Addr) (en ec : Nat) (co day : Int) (w : World) (hy : YardIn w ss rs A n c R rn rc) (hev : EventsIn w es E en) (hcap : es.length ≤ ec) (hroom : ∀ s ∈ ss, s.room ≤ 12) (hs60 : ss.length ≤ 60) (hes : es.length ≤ 300) (hc1 : 0 ≤ co) (hc2 : co ≤ 2) :
    Calls Try.prog 38 #[.agg #[.slice A n c, .slice R rn rc, .int .i64 c0, .int .i64 c1, .int .i64 c2], .slice E en ec, .int .i64 co, .int .i64 day] w (BerthsPost w (rFreeP c0 c1 c2 ss (rReplayP c0 c1 c2 ss rs (upToE day es)).1 co)) := by
  have hyn := hy.hn
  subst hyn
  have hlen : (rReplayP c0 c1 c2 ss rs (upToE day es)).1.length ≤ 100000 := by
    unfold rReplayP
    split
    · simp
    · rename_i hb
      have := goP_len (c0 := c0) (c1 := c1) (c2 := c2) (ss := ss) (rs := rs) (upToE day es) [] 0 0
      simp at hb this
      omega
  have HO := fun W h1 h2 => rOn_any ss rs A R ss.length c rn rc c0 c1 c2 es E en ec day W h1 h2 hcap hroom
  generalize (rReplayP c0 c1 c2 ss rs (upToE day es)).1 = ls at *
  have hr2 : ∀ s ∈ ss, s.room ≤ 100000 := fun s hs => by have := hroom s hs; omega
  have HRM := Lib.hid hroom
  have HLS := Lib.hid (fun j => flat_le (f := rFreeS c0 c1 c2 ss ls co) (n := 12) (l := ss.take j) fun s hs => rFreeS_len (hroom s (List.mem_of_mem_take hs)))
  clear hroom
  go_enter Try.func38, Try.ntmps38
  go_wp2_with (go_at_call 71; refine (HO _ (hy.keep (m := w.heap.size) (by repeat (first | exact B_refl | exact Below.refl _ _ | assumption | with_reducible refine B_alloc ?_ _ | with_reducible refine B_ext ?_ _ | with_reducible refine B_drew ?_ | with_reducible refine B_drewN ?_ _ | with_reducible refine B_set ?_ (by simp; omega) _))) (hev.keep (m := w.heap.size) (by repeat (first | exact B_refl | exact Below.refl _ _ | assumption | with_reducible refine B_alloc ?_ _ | with_reducible refine B_ext ?_ _ | with_reducible refine B_drew ?_ | with_reducible refine B_drewN ?_ _ | with_reducible refine B_set ?_ (by simp; omega) _)))).mono ?_; rintro e wq ⟨v, rfl, hown, z, rfl⟩; obtain ⟨A', c', rfl, hS, hlc⟩ := own_sl lot_len hown; clear hown)
  generalize hW0 : World.ext (w.alloc (.cells #[.slice A ss.length c, .slice R rn rc, .int .i64 c0, .int .i64 c1, .int .i64 c2] 26)) z = W0 at *
  have hB : Below w.heap.size w W0 := by rw [← hW0]; repeat (first | exact B_refl | exact Below.refl _ _ | assumption | with_reducible refine B_alloc ?_ _ | with_reducible refine B_ext ?_ _ | with_reducible refine B_drew ?_ | with_reducible refine B_drewN ?_ _ | with_reducible refine B_set ?_ (by simp; omega) _)
  have hblk : W0.heap[w.heap.size]? = some (.cells #[.slice A ss.length c, .slice R rn rc, .int .i64 c0, .int .i64 c1, .int .i64 c2] 26) := by rw [← hW0]; (repeat (first | with_reducible exact G_new _ _ _ (by simp) | with_reducible exact G_new _ _ _ (by simp [ext_size]) | with_reducible refine G_drew ?_ | with_reducible refine G_ext ?_ | with_reducible refine G_alloc ?_))
  have hl : LotsIn W0 ls A' ls.length := ⟨rfl, hS, hlen⟩
  have hy0 := hy.keep hB
  have hz := blk_lt hblk
  obtain ⟨N, hN⟩ : ∃ N, N = W0.heap.size := ⟨_, rfl⟩
  clear hW0 HO hS hev
  go_loopw [10, 11] (fun v i wr => ∃ j : Nat, j ≤ ss.length ∧ i = .int .i64 j ∧ wr.ownsRow N 54 2 v ((ss.take j).flatMap (rFreeS c0 c1 c2 ss ls co)).length (((ss.take j).flatMap (rFreeS c0 c1 c2 ss ls co)).flatMap Berth.cells) ∧ Below N W0 wr) (fun _ i _ => ss.length - (intOf i).toNat)
  case atStart => exact ⟨0, Nat.zero_le _, rfl, World.ownsRow_nil _ _ _ _, Below.refl _ _⟩
  case round =>
    obtain ⟨j, hj, rfl, hown, hBr⟩ := hrel
    have hwN : N ≤ wr.heap.size := by have := hBr.size; omega
    by_cases hlt : j < ss.length
    · obtain ⟨b, off, rfl, hb, hc0⟩ := hy0.sl.at hlt
      have hlt2 : (j : Int) < (ss.length : Int) := by omega
      have hj0 : (0 : Int) ≤ (j : Int) := by omega
      have hT : ss.take (j + 1) = ss.take j ++ [ss[j]] := List.take_succ_eq_append_getElem hlt
      have HT := Lib.hid hT
      have hrm := HRM.out _ (List.getElem_mem hlt)
      have hdl := HLS.out j
      rw [List.length_take] at hdl
      have x0 : W0.cell? ⟨b, off + j * 6, none⟩ = some (.string ss[j].name) := hc0 0 _ rfl
      have x5 : W0.cell? ⟨b, off + j * 6 + 5, none⟩ = some (.int .i64 ss[j].room) := hc0 5 _ rfl
      clear hc0 hT
      have HJ := Lib.hid hlt
      generalize ss[j] = s at *
      obtain ⟨a, k, so, d, st, r⟩ := s
      dsimp only at x0 x5 hrm
      generalize hdn : (ss.take j).flatMap (rFreeS c0 c1 c2 ss ls co) = dn at *
      have hdl2 : dn.length ≤ 1000 := by omega
      have HDN := Lib.hid hdn
      clear hdn hdl
      have k0 := (hBr.block w.heap.size (by omega)).trans hblk
      have g0 : wr.cell? ⟨w.heap.size, 0, none⟩ = some (.slice (some ⟨b, off, none⟩) ss.length c) := by simp [World.cell?, k0]
      clear k0
      obtain ⟨wo, rfl⟩ : ∃ wo : World, wo = wr := ⟨_, rfl⟩
      go_wp2_with fail
      clear g0
      go_loopw [10, 12] (fun v i wr => ∃ m : Nat, (m : Int) ≤ 12 ∧ m ≤ r.toNat ∧ i = .int .i64 m ∧ wr.ownsRow N 54 2 v (dn ++ (freeBy (fun l => rPlaceP c0 c1 c2 ss ls a l co) m).map fun l => (⟨a, l⟩ : Berth)).length ((dn ++ (freeBy (fun l => rPlaceP c0 c1 c2 ss ls a l co) m).map fun l => (⟨a, l⟩ : Berth)).flatMap Berth.cells) ∧ Below N W0 wr) (fun _ i _ => r.toNat - (intOf i).toNat)
      case atStart => exact ⟨0, by omega, Nat.zero_le _, rfl, by simpa [freeBy] using hown, hBr⟩
      case round =>
        obtain ⟨m, hm12, hmr, rfl, hown1, hBr1⟩ := hrel
        have hwN1 : N ≤ wr.heap.size := by have := hBr1.size; omega
        have k0 := (hBr1.block w.heap.size (by omega)).trans hblk
        have g0 : wr.cell? ⟨w.heap.size, 0, none⟩ = some (.slice (some ⟨b, off, none⟩) ss.length c) := by simp [World.cell?, k0]
        have g1 : wr.cell? ⟨w.heap.size, 1, none⟩ = some (.slice R rn rc) := by simp [World.cell?, k0]
        have g2 : wr.cell? ⟨w.heap.size, 2, none⟩ = some (.int .i64 c0) := by simp [World.cell?, k0]
        have g3 : wr.cell? ⟨w.heap.size, 3, none⟩ = some (.int .i64 c1) := by simp [World.cell?, k0]
        have g4 : wr.cell? ⟨w.heap.size, 4, none⟩ = some (.int .i64 c2) := by simp [World.cell?, k0]
        have y0 := (hBr1.cell (p := ⟨b, off + j * 6, none⟩) (show b < N by omega)).trans x0
        have y5 := (hBr1.cell (p := ⟨b, off + j * 6 + 5, none⟩) (show b < N by omega)).trans x5
        have hbw : b < wr.heap.size := by omega
        have hzw : w.heap.size < wr.heap.size := by omega
        have hfl := freeBy_len (fun l => rPlaceP c0 c1 c2 ss ls a l co) m
        clear k0
        by_cases hmlt : m < r.toNat
        · have hm2 : (m : Int) < r := by omega
          have HFS := Lib.hid (freeBy_succ (fun l => rPlaceP c0 c1 c2 ss ls a l co) m)
          generalize hfq : freeBy (fun l => rPlaceP c0 c1 c2 ss ls a l co) m = fq at *
          have HFQ := Lib.hid hfq
          clear hfq
          cases hp : (rPlaceP c0 c1 c2 ss ls a (m : Int) co == 0)
          · have HPN := Lib.hid hp
            go_wp2_with fail
            (refine wp_region_ext_lit (by kernel_rfl) (by kernel_rfl) ?_
             repeat (first | go_big_quiet_skip | (go_big_quiet_want; go_big_quiet_op; first | go_big_quiet_on | (apply Exists.intro; refine ⟨fun _ => ?_, ?_⟩; (go_at_call 72; exact quietx (rPlace_any ss rs _ _ _ _ _ _ _ _ _ ls _ _ _ _ _ _ _ ((hy0.keep hBr1 (by omega)).keep (m := wr.heap.size) (by repeat (first | exact B_refl | exact Below.refl _ _ | assumption | with_reducible refine B_alloc ?_ _ | with_reducible refine B_ext ?_ _ | with_reducible refine B_drew ?_ | with_reducible refine B_drewN ?_ _ | with_reducible refine B_set ?_ (by simp; omega) _))) ((hl.keep hBr1 (by omega)).keep (m := wr.heap.size) (by repeat (first | exact B_refl | exact Below.refl _ _ | assumption | with_reducible refine B_alloc ?_ _ | with_reducible refine B_ext ?_ _ | with_reducible refine B_drew ?_ | with_reducible refine B_drewN ?_ _ | with_reducible refine B_set ?_ (by simp; omega) _))) hr2 (by omega) (by omega) hc1 hc2)); go_big_quiet_on)))
             refine wpQuiet_nil ?_
             rintro _ ⟨zq, rfl⟩)
            go_wp2_with fail
            go_roundw
            case rel => exact ⟨m + 1, by omega, by omega, by go_num, by rw [HFS.out]; simp only [HPN.out, Bool.false_eq_true, if_false, List.append_nil]; exact own_ext hown1 _, B_ext hBr1 _⟩
            case measure => simp [intOf]; omega
          · have HPN := Lib.hid hp
            go_wp2_with fail
            (refine wp_region_ext_lit (by kernel_rfl) (by kernel_rfl) ?_
             repeat (first | go_big_quiet_skip | (go_big_quiet_want; go_big_quiet_op; first | go_big_quiet_on | (apply Exists.intro; refine ⟨fun _ => ?_, ?_⟩; (go_at_call 72; exact quietx (rPlace_any ss rs _ _ _ _ _ _ _ _ _ ls _ _ _ _ _ _ _ ((hy0.keep hBr1 (by omega)).keep (m := wr.heap.size) (by repeat (first | exact B_refl | exact Below.refl _ _ | assumption | with_reducible refine B_alloc ?_ _ | with_reducible refine B_ext ?_ _ | with_reducible refine B_drew ?_ | with_reducible refine B_drewN ?_ _ | with_reducible refine B_set ?_ (by simp; omega) _))) ((hl.keep hBr1 (by omega)).keep (m := wr.heap.size) (by repeat (first | exact B_refl | exact Below.refl _ _ | assumption | with_reducible refine B_alloc ?_ _ | with_reducible refine B_ext ?_ _ | with_reducible refine B_drew ?_ | with_reducible refine B_drewN ?_ _ | with_reducible refine B_set ?_ (by simp; omega) _))) hr2 (by omega) (by omega) hc1 hc2)); go_big_quiet_on)))
             refine wpQuiet_nil ?_
             rintro _ ⟨zq, rfl⟩)
            go_wp2_with (at_builtin; refine wpList_append_sl rfl _ _ rfl elBerth berth_len berth_one (base := N) (m := 1) (v := u10) rfl ((own_ext hown1 _).alloc _) rfl (ys := [⟨a, (m : Int)⟩]) rfl (sl_berth (t := 54) (fr := (0, 0)) (G_new _ _ _ (by simp [ext_size]))) (by simp [maxLen]; omega) (by simp; omega) (by simp [ext_size]; omega) ?_; intro v' w1 h1 h2 h3)
            have hown2 : w1.ownsRow N 54 2 v' ((dn ++ fq.map fun l => (⟨a, l⟩ : Berth)) ++ [(⟨a, (m : Int)⟩ : Berth)]).length (((dn ++ fq.map fun l => (⟨a, l⟩ : Berth)) ++ [(⟨a, (m : Int)⟩ : Berth)]).flatMap Berth.cells) := by
              rw [List.flatMap_append, List.length_append]; exact h1
            have hB2 : Below N W0 w1 := below_own (B_alloc (B_ext hBr1 _) _) ((own_ext hown1 _).alloc _) h2
            clear h1 h2 h3
            go_wp2_with fail
            go_roundw
            case rel => exact ⟨m + 1, by omega, by omega, by go_num, by rw [HFS.out]; simp only [HPN.out, if_true, List.map_append, List.map_cons, List.map_nil, ← List.append_assoc]; exact hown2, hB2⟩
            case measure => simp [intOf]; omega
        · have hmr2 : m = r.toNat := by omega
          have hnl : ¬ ((m : Int) < r) := by omega
          have hown3 : wr.ownsRow N 54 2 u10 ((ss.take (j + 1)).flatMap (rFreeS c0 c1 c2 ss ls co)).length (((ss.take (j + 1)).flatMap (rFreeS c0 c1 c2 ss ls co)).flatMap Berth.cells) := by
            rw [HT.out, List.flatMap_append, HDN.out, List.flatMap_singleton, rFreeS]
            dsimp only
            rw [← hmr2]
            exact hown1
          clear hown1 hmr2
          go_wp2_with fail
          go_roundw
          case rel => exact ⟨j + 1, by omega, by go_num, hown3, hBr1⟩
          case measure => simp [intOf]; omega
    · have hje : j = ss.length := by omega
      subst hje
      rw [List.take_length] at hown
      have k0 := (hBr.block w.heap.size (by omega)).trans hblk
      have g0 : wr.cell? ⟨w.heap.size, 0, none⟩ = some (.slice A ss.length c) := by simp [World.cell?, k0]
      clear k0
      go_wp2_with fail
      go_ret
      exact ⟨_, rfl, own_mono' hown (by omega), ext_below (hB.trans (hBr.mono (by omega)))⟩
end Go.Proofs.Ytmiobhlgpjjbgaa
namespace Go.Proofs.Ytmiobhlgpjjbgaa
open Go.RowKit
attribute [local go_sem] World.cell?_alloc_mark ext_size ext_cell ext_frozen lt_add_r lt_add_r2 lt_add_r3 lt_add_r4 lt_add_r5 lt_add_r6 lt_add_r7 lt_add_r8

def rFirstP (fr : List Berth) (nm : ByteArray) (lv : Int) : Int := match fr.find? fun b => b.site.toList == nm.toList && decide (lv ≤ b.level) with | none => -1 | some b => b.level
set_option maxRecDepth 100000 in
set_option maxHeartbeats 2000000 in
theorem rFirst_any (ss : List Site) (rs : List Rest) (A R : Option Addr) (n c rn rc : Nat) (c0 c1 c2 : Int) (es : List Event) (E : Option Addr) (en ec : Nat) (nm : ByteArray) (lv co day : Int) (w : World) (hy : YardIn w ss rs A n c R rn rc) (hev : EventsIn w es E en) (hcap : es.length ≤ ec) (hroom : ∀ s ∈ ss, s.room ≤ 12) (hs60 : ss.length ≤ 60) (hes : es.length ≤ 300) (hc1 : 0 ≤ co) (hc2 : co ≤ 2) :
    Calls Try.prog 39 #[.agg #[.slice A n c, .slice R rn rc, .int .i64 c0, .int .i64 c1, .int .i64 c2], .slice E en ec, .agg #[.string nm, .int .i64 lv], .int .i64 co, .int .i64 day] w (Ret w (.int .i64 (rFirstP (rFreeP c0 c1 c2 ss (rReplayP c0 c1 c2 ss rs (upToE day es)).1 co) nm lv))) := by
  have HF := fun W h1 h2 => rFree_any ss rs A R n c rn rc c0 c1 c2 es E en ec co day W h1 h2 hcap hroom hs60 hes hc1 hc2
  have hfl : (rFreeP c0 c1 c2 ss (rReplayP c0 c1 c2 ss rs (upToE day es)).1 co).length ≤ 1000 := by
    have := flat_le (f := rFreeS c0 c1 c2 ss (rReplayP c0 c1 c2 ss rs (upToE day es)).1 co) (n := 12) (l := ss) fun s hs => rFreeS_len (hroom s hs)
    unfold rFreeP
    omega
  generalize rFreeP c0 c1 c2 ss (rReplayP c0 c1 c2 ss rs (upToE day es)).1 co = fr at *
  obtain ⟨T, hT⟩ : ∃ T, rFirstP fr nm lv = T := ⟨_, rfl⟩
  rw [hT]
  have HT := Lib.hid hT
  clear hT
  go_enter Try.func39, Try.ntmps39
  go_wp2_with (go_at_call 38; refine (HF _ (hy.keep (m := w.heap.size) (by repeat (first | exact B_refl | exact Below.refl _ _ | assumption | with_reducible refine B_alloc ?_ _ | with_reducible refine B_ext ?_ _ | with_reducible refine B_drew ?_ | with_reducible refine B_drewN ?_ _ | with_reducible refine B_set ?_ (by simp; omega) _))) (hev.keep (m := w.heap.size) (by repeat (first | exact B_refl | exact Below.refl _ _ | assumption | with_reducible refine B_alloc ?_ _ | with_reducible refine B_ext ?_ _ | with_reducible refine B_drew ?_ | with_reducible refine B_drewN ?_ _ | with_reducible refine B_set ?_ (by simp; omega) _)))).mono ?_; rintro e wq ⟨v, rfl, hown, z, rfl⟩; obtain ⟨A', c', rfl, hS, hlc⟩ := own_sl berth_len hown; clear hown)
  generalize hW0 : World.ext ((w.alloc (.cells #[.slice A n c, .slice R rn rc, .int .i64 c0, .int .i64 c1, .int .i64 c2] 26)).alloc (.cells #[.string nm, .int .i64 lv] 54)) z = W0 at *
  have hB : Below w.heap.size w W0 := by rw [← hW0]; repeat (first | exact B_refl | exact Below.refl _ _ | assumption | with_reducible refine B_alloc ?_ _ | with_reducible refine B_ext ?_ _ | with_reducible refine B_drew ?_ | with_reducible refine B_drewN ?_ _ | with_reducible refine B_set ?_ (by simp; omega) _)
  have hblk1 : W0.heap[w.heap.size + 1]? = some (.cells #[.string nm, .int .i64 lv] 54) := by rw [← hW0]; (repeat (first | with_reducible exact G_new _ _ _ (by simp) | with_reducible exact G_new _ _ _ (by simp [ext_size]) | with_reducible refine G_drew ?_ | with_reducible refine G_ext ?_ | with_reducible refine G_alloc ?_))
  have hz1 := blk_lt hblk1
  have q0 : W0.cell? ⟨w.heap.size + 1, 0, none⟩ = some (.string nm) := by simp [World.cell?, hblk1]
  have q1 : W0.cell? ⟨w.heap.size + 1, 1, none⟩ = some (.int .i64 lv) := by simp [World.cell?, hblk1]
  clear hW0 hblk1 HF hy hev
  go_loopw [12] (fun i wr => ∃ j : Nat, j ≤ fr.length ∧ i = .int .i64 j ∧ T = rFirstP (fr.drop j) nm lv ∧ ∃ z, wr = W0.ext z) (fun i _ => fr.length - (intOf i).toNat)
  case atStart => exact ⟨0, Nat.zero_le _, rfl, HT.out.symm, ext_below (Below.refl _ _)⟩
  case round =>
    obtain ⟨j, hj, rfl, hf, z, rfl⟩ := hrel
    by_cases hlt : j < fr.length
    · rw [List.drop_eq_getElem_cons hlt, rFirstP, List.find?_cons] at hf
      obtain ⟨b, off, rfl, hb, hc⟩ := hS.at hlt
      have x0 : W0.cell? ⟨b, off + j * 2, none⟩ = some (.string fr[j].site) := hc 0 _ rfl
      have x1 : W0.cell? ⟨b, off + j * 2 + 1, none⟩ = some (.int .i64 fr[j].level) := hc 1 _ rfl
      have hlt2 : (j : Int) < (fr.length : Int) := by omega
      have hj0 : (0 : Int) ≤ (j : Int) := by omega
      clear hc
      generalize fr[j] = x at *
      obtain ⟨xs, xl⟩ := x
      dsimp only at x0 x1 hf
      cases hs : (xs.toList == nm.toList)
      · rw [hs] at hf
        have HF := Lib.hid hf
        clear hf
        go_wp2_with fail
        (refine wp_region_ext_lit (by kernel_rfl) (by kernel_rfl) ?_
         repeat (first | go_big_quiet_skip | (go_big_quiet_want; go_big_quiet_op; first | go_big_quiet_on | (apply Exists.intro; refine ⟨fun _ => ?_, ?_⟩; (fail); go_big_quiet_on)))
         refine wpQuiet_nil ?_
         rintro _ ⟨zq, rfl⟩)
        go_wp2_with fail
        go_roundw
        case rel => exact ⟨j + 1, by omega, by go_num, HF.out, ext_below (by repeat (first | exact B_refl | exact Below.refl _ _ | assumption | with_reducible refine B_alloc ?_ _ | with_reducible refine B_ext ?_ _ | with_reducible refine B_drew ?_ | with_reducible refine B_drewN ?_ _ | with_reducible refine B_set ?_ (by simp; omega) _))⟩
        case measure => simp [intOf]; omega
      · by_cases hl : lv ≤ xl
        · rw [hs, decide_eq_true hl] at hf
          have HF := Lib.hid hf
          clear hf
          go_wp2_with fail
          (refine wp_region_ext_lit (by kernel_rfl) (by kernel_rfl) ?_
           repeat (first | go_big_quiet_skip | (go_big_quiet_want; go_big_quiet_op; first | go_big_quiet_on | (apply Exists.intro; refine ⟨fun _ => ?_, ?_⟩; (fail); go_big_quiet_on)))
           refine wpQuiet_nil ?_
           rintro _ ⟨zq, rfl⟩)
          go_wp2_with fail
          go_ret
          exact Ret.of (int_eq (by rw [HF.out]; rfl)) (by repeat (first | exact B_refl | exact Below.refl _ _ | assumption | with_reducible refine B_alloc ?_ _ | with_reducible refine B_ext ?_ _ | with_reducible refine B_drew ?_ | with_reducible refine B_drewN ?_ _ | with_reducible refine B_set ?_ (by simp; omega) _))
        · rw [hs, decide_eq_false hl] at hf
          have HF := Lib.hid hf
          clear hf
          go_wp2_with fail
          (refine wp_region_ext_lit (by kernel_rfl) (by kernel_rfl) ?_
           repeat (first | go_big_quiet_skip | (go_big_quiet_want; go_big_quiet_op; first | go_big_quiet_on | (apply Exists.intro; refine ⟨fun _ => ?_, ?_⟩; (fail); go_big_quiet_on)))
           refine wpQuiet_nil ?_
           rintro _ ⟨zq, rfl⟩)
          go_wp2_with fail
          go_roundw
          case rel => exact ⟨j + 1, by omega, by go_num, HF.out, ext_below (by repeat (first | exact B_refl | exact Below.refl _ _ | assumption | with_reducible refine B_alloc ?_ _ | with_reducible refine B_ext ?_ _ | with_reducible refine B_drew ?_ | with_reducible refine B_drewN ?_ _ | with_reducible refine B_set ?_ (by simp; omega) _))⟩
          case measure => simp [intOf]; omega
    · rw [List.drop_eq_nil_of_le (by omega)] at hf
      have HF := Lib.hid hf
      clear hf
      go_wp2_with fail
      go_ret
      exact Ret.of (int_eq (by rw [HF.out]; rfl)) (by repeat (first | exact B_refl | exact Below.refl _ _ | assumption | with_reducible refine B_alloc ?_ _ | with_reducible refine B_ext ?_ _ | with_reducible refine B_drew ?_ | with_reducible refine B_drewN ?_ _ | with_reducible refine B_set ?_ (by simp; omega) _))

set_option maxRecDepth 100000 in
set_option maxHeartbeats 2000000 in
theorem sameBerths_any (xs : List Berth) (P Q : Option Addr) (pc qc : Nat) (w : World) (hp : Sl w 2 Berth.cells P xs) (hq : Sl w 2 Berth.cells Q xs) (hl : xs.length ≤ 100000) :
    Calls Try.prog 37 #[.slice P xs.length pc, .slice Q xs.length qc] w (Ret w (.bool true)) := by
  go_enter Try.func37, Try.ntmps37
  go_wp2_with fail
  go_loopw [5] (fun i wr => ∃ j : Nat, j ≤ xs.length ∧ i = .int .i64 j ∧ ∃ z, wr = w.ext z) (fun i _ => xs.length - (intOf i).toNat)
  case atStart => exact ⟨0, Nat.zero_le _, rfl, ext_below (Below.refl _ _)⟩
  case round =>
    obtain ⟨j, hj, rfl, z, rfl⟩ := hrel
    by_cases hlt : j < xs.length
    · obtain ⟨b, off, rfl, hb, hc⟩ := hp.at hlt
      obtain ⟨b', off', rfl, hb', hc'⟩ := hq.at hlt
      have hlt2 : (j : Int) < (xs.length : Int) := by omega
      have hj0 : (0 : Int) ≤ (j : Int) := by omega
      generalize xs[j] = x at *
      have x0 : w.cell? ⟨b, off + j * 2, none⟩ = some (.string x.site) := hc 0 _ rfl
      have y0 : w.cell? ⟨b', off' + j * 2, none⟩ = some (.string x.site) := hc' 0 _ rfl
      have x1 : w.cell? ⟨b, off + j * 2 + 1, none⟩ = some (.int .i64 x.level) := hc 1 _ rfl
      have y1 : w.cell? ⟨b', off' + j * 2 + 1, none⟩ = some (.int .i64 x.level) := hc' 1 _ rfl
      clear hc hc'
      go_wp2_with fail
      (refine wp_region_ext_lit (by kernel_rfl) (by kernel_rfl) ?_
       repeat (first | go_big_quiet_skip | (go_big_quiet_want; go_big_quiet_op; first | go_big_quiet_on | (apply Exists.intro; refine ⟨fun _ => ?_, ?_⟩; (fail); go_big_quiet_on)))
       refine wpQuiet_nil ?_
       rintro _ ⟨zq, rfl⟩)
      go_wp2_with fail
      go_roundw
      case rel => exact ⟨j + 1, by omega, by go_num, ext_below (by repeat (first | exact B_refl | exact Below.refl _ _ | assumption | with_reducible refine B_alloc ?_ _ | with_reducible refine B_ext ?_ _ | with_reducible refine B_drew ?_ | with_reducible refine B_drewN ?_ _ | with_reducible refine B_set ?_ (by simp; omega) _))⟩
      case measure => simp [intOf]; omega
    · have hnl : ¬ ((j : Int) < (xs.length : Int)) := by omega
      go_wp2_with fail
      go_ret
      exact Ret.of rfl (by repeat (first | exact B_refl | exact Below.refl _ _ | assumption | with_reducible refine B_alloc ?_ _ | with_reducible refine B_ext ?_ _ | with_reducible refine B_drew ?_ | with_reducible refine B_drewN ?_ _ | with_reducible refine B_set ?_ (by simp; omega) _))
set_option maxRecDepth 100000 in
set_option maxHeartbeats 2000000 in
theorem sameLots_any (xs : List Lot) (P Q : Option Addr) (pc qc : Nat) (w : World) (hp : Sl w 6 Lot.cells P xs) (hq : Sl w 6 Lot.cells Q xs) (hl : xs.length ≤ 100000) :
    Calls Try.prog 48 #[.slice P xs.length pc, .slice Q xs.length qc] w (Ret w (.bool true)) := by
  go_enter Try.func48, Try.ntmps48
  go_wp2_with fail
  go_loopw [5] (fun i wr => ∃ j : Nat, j ≤ xs.length ∧ i = .int .i64 j ∧ ∃ z, wr = w.ext z) (fun i _ => xs.length - (intOf i).toNat)
  case atStart => exact ⟨0, Nat.zero_le _, rfl, ext_below (Below.refl _ _)⟩
  case round =>
    obtain ⟨j, hj, rfl, z, rfl⟩ := hrel
    by_cases hlt : j < xs.length
    · obtain ⟨b, off, rfl, hb, hc⟩ := hp.at hlt
      obtain ⟨b', off', rfl, hb', hc'⟩ := hq.at hlt
      have hlt2 : (j : Int) < (xs.length : Int) := by omega
      have hj0 : (0 : Int) ≤ (j : Int) := by omega
      generalize xs[j] = x at *
      have x0 : w.cell? ⟨b, off + j * 6, none⟩ = some (.string x.remain) := hc 0 _ rfl
      have y0 : w.cell? ⟨b', off' + j * 6, none⟩ = some (.string x.remain) := hc' 0 _ rfl
      have x1 : w.cell? ⟨b, off + j * 6 + 1, none⟩ = some (.int .i64 x.state) := hc 1 _ rfl
      have y1 : w.cell? ⟨b', off' + j * 6 + 1, none⟩ = some (.int .i64 x.state) := hc' 1 _ rfl
      have x2 : w.cell? ⟨b, off + j * 6 + 2, none⟩ = some (.string x.site) := hc 2 _ rfl
      have y2 : w.cell? ⟨b', off' + j * 6 + 2, none⟩ = some (.string x.site) := hc' 2 _ rfl
      have x3 : w.cell? ⟨b, off + j * 6 + 3, none⟩ = some (.int .i64 x.level) := hc 3 _ rfl
      have y3 : w.cell? ⟨b', off' + j * 6 + 3, none⟩ = some (.int .i64 x.level) := hc' 3 _ rfl
      have x4 : w.cell? ⟨b, off + j * 6 + 4, none⟩ = some (.int .i64 x.container) := hc 4 _ rfl
      have y4 : w.cell? ⟨b', off' + j * 6 + 4, none⟩ = some (.int .i64 x.container) := hc' 4 _ rfl
      have x5 : w.cell? ⟨b, off + j * 6 + 5, none⟩ = some (.int .i64 x.since) := hc 5 _ rfl
      have y5 : w.cell? ⟨b', off' + j * 6 + 5, none⟩ = some (.int .i64 x.since) := hc' 5 _ rfl
      clear hc hc'
      go_wp2_with fail
      (refine wp_region_ext_lit (by kernel_rfl) (by kernel_rfl) ?_
       repeat (first | go_big_quiet_skip | (go_big_quiet_want; go_big_quiet_op; first | go_big_quiet_on | (apply Exists.intro; refine ⟨fun _ => ?_, ?_⟩; (fail); go_big_quiet_on)))
       refine wpQuiet_nil ?_
       rintro _ ⟨zq, rfl⟩)
      go_wp2_with fail
      go_roundw
      case rel => exact ⟨j + 1, by omega, by go_num, ext_below (by repeat (first | exact B_refl | exact Below.refl _ _ | assumption | with_reducible refine B_alloc ?_ _ | with_reducible refine B_ext ?_ _ | with_reducible refine B_drew ?_ | with_reducible refine B_drewN ?_ _ | with_reducible refine B_set ?_ (by simp; omega) _))⟩
      case measure => simp [intOf]; omega
    · have hnl : ¬ ((j : Int) < (xs.length : Int)) := by omega
      go_wp2_with fail
      go_ret
      exact Ret.of rfl (by repeat (first | exact B_refl | exact Below.refl _ _ | assumption | with_reducible refine B_alloc ?_ _ | with_reducible refine B_ext ?_ _ | with_reducible refine B_drew ?_ | with_reducible refine B_drewN ?_ _ | with_reducible refine B_set ?_ (by simp; omega) _))
set_option maxRecDepth 100000 in
set_option maxHeartbeats 2000000 in
theorem sameStays_any (xs : List Stay) (P Q : Option Addr) (pc qc : Nat) (w : World) (hp : Sl w 7 Stay.cells P xs) (hq : Sl w 7 Stay.cells Q xs) (hl : xs.length ≤ 100000) :
    Calls Try.prog 44 #[.slice P xs.length pc, .slice Q xs.length qc] w (Ret w (.bool true)) := by
  go_enter Try.func44, Try.ntmps44
  go_wp2_with fail
  go_loopw [5] (fun i wr => ∃ j : Nat, j ≤ xs.length ∧ i = .int .i64 j ∧ ∃ z, wr = w.ext z) (fun i _ => xs.length - (intOf i).toNat)
  case atStart => exact ⟨0, Nat.zero_le _, rfl, ext_below (Below.refl _ _)⟩
  case round =>
    obtain ⟨j, hj, rfl, z, rfl⟩ := hrel
    by_cases hlt : j < xs.length
    · obtain ⟨b, off, rfl, hb, hc⟩ := hp.at hlt
      obtain ⟨b', off', rfl, hb', hc'⟩ := hq.at hlt
      have hlt2 : (j : Int) < (xs.length : Int) := by omega
      have hj0 : (0 : Int) ≤ (j : Int) := by omega
      generalize xs[j] = x at *
      have x0 : w.cell? ⟨b, off + j * 7, none⟩ = some (.string x.lot.remain) := hc 0 _ rfl
      have y0 : w.cell? ⟨b', off' + j * 7, none⟩ = some (.string x.lot.remain) := hc' 0 _ rfl
      have x1 : w.cell? ⟨b, off + j * 7 + 1, none⟩ = some (.int .i64 x.lot.state) := hc 1 _ rfl
      have y1 : w.cell? ⟨b', off' + j * 7 + 1, none⟩ = some (.int .i64 x.lot.state) := hc' 1 _ rfl
      have x2 : w.cell? ⟨b, off + j * 7 + 2, none⟩ = some (.string x.lot.site) := hc 2 _ rfl
      have y2 : w.cell? ⟨b', off' + j * 7 + 2, none⟩ = some (.string x.lot.site) := hc' 2 _ rfl
      have x3 : w.cell? ⟨b, off + j * 7 + 3, none⟩ = some (.int .i64 x.lot.level) := hc 3 _ rfl
      have y3 : w.cell? ⟨b', off' + j * 7 + 3, none⟩ = some (.int .i64 x.lot.level) := hc' 3 _ rfl
      have x4 : w.cell? ⟨b, off + j * 7 + 4, none⟩ = some (.int .i64 x.lot.container) := hc 4 _ rfl
      have y4 : w.cell? ⟨b', off' + j * 7 + 4, none⟩ = some (.int .i64 x.lot.container) := hc' 4 _ rfl
      have x5 : w.cell? ⟨b, off + j * 7 + 5, none⟩ = some (.int .i64 x.lot.since) := hc 5 _ rfl
      have y5 : w.cell? ⟨b', off' + j * 7 + 5, none⟩ = some (.int .i64 x.lot.since) := hc' 5 _ rfl
      have x6 : w.cell? ⟨b, off + j * 7 + 6, none⟩ = some (.int .i64 x.till) := hc 6 _ rfl
      have y6 : w.cell? ⟨b', off' + j * 7 + 6, none⟩ = some (.int .i64 x.till) := hc' 6 _ rfl
      clear hc hc'
      go_wp2_with fail
      (refine wp_region_ext_lit (by kernel_rfl) (by kernel_rfl) ?_
       repeat (first | go_big_quiet_skip | (go_big_quiet_want; go_big_quiet_op; first | go_big_quiet_on | (apply Exists.intro; refine ⟨fun _ => ?_, ?_⟩; (fail); go_big_quiet_on)))
       refine wpQuiet_nil ?_
       rintro _ ⟨zq, rfl⟩)
      go_wp2_with fail
      go_roundw
      case rel => exact ⟨j + 1, by omega, by go_num, ext_below (by repeat (first | exact B_refl | exact Below.refl _ _ | assumption | with_reducible refine B_alloc ?_ _ | with_reducible refine B_ext ?_ _ | with_reducible refine B_drew ?_ | with_reducible refine B_drewN ?_ _ | with_reducible refine B_set ?_ (by simp; omega) _))⟩
      case measure => simp [intOf]; omega
    · have hnl : ¬ ((j : Int) < (xs.length : Int)) := by omega
      go_wp2_with fail
      go_ret
      exact Ret.of rfl (by repeat (first | exact B_refl | exact Below.refl _ _ | assumption | with_reducible refine B_alloc ?_ _ | with_reducible refine B_ext ?_ _ | with_reducible refine B_drew ?_ | with_reducible refine B_drewN ?_ _ | with_reducible refine B_set ?_ (by simp; omega) _))
set_option maxRecDepth 100000 in
set_option maxHeartbeats 2000000 in
theorem sameEvents_any (xs : List Event) (P Q : Option Addr) (pc qc : Nat) (w : World) (hp : Sl w 7 Event.cells P xs) (hq : Sl w 7 Event.cells Q xs) (hl : xs.length ≤ 100000) :
    Calls Try.prog 50 #[.slice P xs.length pc, .slice Q xs.length qc] w (Ret w (.bool true)) := by
  go_enter Try.func50, Try.ntmps50
  go_wp2_with fail
  go_loopw [5] (fun i wr => ∃ j : Nat, j ≤ xs.length ∧ i = .int .i64 j ∧ ∃ z, wr = w.ext z) (fun i _ => xs.length - (intOf i).toNat)
  case atStart => exact ⟨0, Nat.zero_le _, rfl, ext_below (Below.refl _ _)⟩
  case round =>
    obtain ⟨j, hj, rfl, z, rfl⟩ := hrel
    by_cases hlt : j < xs.length
    · obtain ⟨b, off, rfl, hb, hc⟩ := hp.at hlt
      obtain ⟨b', off', rfl, hb', hc'⟩ := hq.at hlt
      have hlt2 : (j : Int) < (xs.length : Int) := by omega
      have hj0 : (0 : Int) ≤ (j : Int) := by omega
      generalize xs[j] = x at *
      have x0 : w.cell? ⟨b, off + j * 7, none⟩ = some (.int .i64 x.day) := hc 0 _ rfl
      have y0 : w.cell? ⟨b', off' + j * 7, none⟩ = some (.int .i64 x.day) := hc' 0 _ rfl
      have x1 : w.cell? ⟨b, off + j * 7 + 1, none⟩ = some (.int .i64 x.kind) := hc 1 _ rfl
      have y1 : w.cell? ⟨b', off' + j * 7 + 1, none⟩ = some (.int .i64 x.kind) := hc' 1 _ rfl
      have x2 : w.cell? ⟨b, off + j * 7 + 2, none⟩ = some (.string x.site) := hc 2 _ rfl
      have y2 : w.cell? ⟨b', off' + j * 7 + 2, none⟩ = some (.string x.site) := hc' 2 _ rfl
      have x3 : w.cell? ⟨b, off + j * 7 + 3, none⟩ = some (.int .i64 x.level) := hc 3 _ rfl
      have y3 : w.cell? ⟨b', off' + j * 7 + 3, none⟩ = some (.int .i64 x.level) := hc' 3 _ rfl
      have x4 : w.cell? ⟨b, off + j * 7 + 4, none⟩ = some (.string x.remain) := hc 4 _ rfl
      have y4 : w.cell? ⟨b', off' + j * 7 + 4, none⟩ = some (.string x.remain) := hc' 4 _ rfl
      have x5 : w.cell? ⟨b, off + j * 7 + 5, none⟩ = some (.int .i64 x.container) := hc 5 _ rfl
      have y5 : w.cell? ⟨b', off' + j * 7 + 5, none⟩ = some (.int .i64 x.container) := hc' 5 _ rfl
      have x6 : w.cell? ⟨b, off + j * 7 + 6, none⟩ = some (.bool x.order) := hc 6 _ rfl
      have y6 : w.cell? ⟨b', off' + j * 7 + 6, none⟩ = some (.bool x.order) := hc' 6 _ rfl
      clear hc hc'
      go_wp2_with fail
      (refine wp_region_ext_lit (by kernel_rfl) (by kernel_rfl) ?_
       repeat (first | go_big_quiet_skip | (go_big_quiet_want; go_big_quiet_op; first | go_big_quiet_on | (apply Exists.intro; refine ⟨fun _ => ?_, ?_⟩; (fail); go_big_quiet_on)))
       refine wpQuiet_nil ?_
       rintro _ ⟨zq, rfl⟩)
      go_wp2_with fail
      go_roundw
      case rel => exact ⟨j + 1, by omega, by go_num, ext_below (by repeat (first | exact B_refl | exact Below.refl _ _ | assumption | with_reducible refine B_alloc ?_ _ | with_reducible refine B_ext ?_ _ | with_reducible refine B_drew ?_ | with_reducible refine B_drewN ?_ _ | with_reducible refine B_set ?_ (by simp; omega) _))⟩
      case measure => simp [intOf]; omega
    · have hnl : ¬ ((j : Int) < (xs.length : Int)) := by omega
      go_wp2_with fail
      go_ret
      exact Ret.of rfl (by repeat (first | exact B_refl | exact Below.refl _ _ | assumption | with_reducible refine B_alloc ?_ _ | with_reducible refine B_ext ?_ _ | with_reducible refine B_drew ?_ | with_reducible refine B_drewN ?_ _ | with_reducible refine B_set ?_ (by simp; omega) _))
end Go.Proofs.Ytmiobhlgpjjbgaa
