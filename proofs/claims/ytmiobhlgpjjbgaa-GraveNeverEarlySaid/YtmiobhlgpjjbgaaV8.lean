/- Walk: the law GraveNeverEarly. -/
import Derived.Test.YtmiobhlgpjjbgaaQ7
import Derived.Test.YtmiobhlgpjjbgaaR3
import Derived.Test.YtmiobhlgpjjbgaaH4
import Derived.Test.YtmiobhlgpjjbgaaL3
namespace Go.Proofs.Ytmiobhlgpjjbgaa
open Go.RowKit
attribute [local go_sem] World.cell?_alloc_mark ext_size ext_cell ext_frozen lt_add_r lt_add_r2 lt_add_r3 lt_add_r4 lt_add_r5 lt_add_r6 lt_add_r7 lt_add_r8

theorem take_in {w : World} {es : List Event} {A : Option Addr} {n : Nat} (h : EventsIn w es A n) (i : Nat) (hi : i ≤ es.length) : EventsIn w (es.take i) A i := by
  refine ⟨by simp; omega, fun hl => ?_, by have := h.l1; simp; omega, fun e he => h.sh e (List.mem_of_mem_take he)⟩
  obtain ⟨b, off, hA, hb, hc⟩ := h.sl (by simp at hl; omega)
  refine ⟨b, off, hA, hb, fun k x hx j u hu => hc k x ?_ j u hu⟩
  rw [List.getElem?_take] at hx
  split at hx
  · exact hx
  · cases hx
set_option maxRecDepth 100000 in
set_option maxHeartbeats 2000000 in
theorem graveNeverEarly_any (ss : List Site) (rs : List Rest) (A R : Option Addr) (n c rn rc : Nat) (c0 c1 c2 : Int) (es : List Event) (E : Option Addr) (en ec : Nat) (w : World) (hy : YardRaw w ss rs A n c R rn rc) (hev : EventsRaw w es E en) (hcap : es.length ≤ ec) :
    Calls Try.prog 11 #[.agg #[.slice A n c, .slice R rn rc, .int .i64 c0, .int .i64 c1, .int .i64 c2], .slice E en ec] w (Ret w (.bool true)) := by
  go_enter Try.func11, Try.ntmps11
  cases hsm : smallP ss rs
  · go_wp2_with (first
                  | (go_at_call 12; refine (awake_any _).mono ?_; rintro e wq ⟨rfl, za, rfl⟩)
                  | (go_at_call 13; refine (small_any ss rs _ _ _ _ _ _ _ _ _ _ (hy.keep (m := w.heap.size) (by repeat (first | exact B_refl | exact Below.refl _ _ | assumption | with_reducible refine B_alloc ?_ _ | with_reducible refine B_ext ?_ _ | with_reducible refine B_drew ?_ | with_reducible refine B_drewN ?_ _ | with_reducible refine B_set ?_ (by simp; omega) _)))).mono ?_; rintro e wq ⟨rfl, zs, rfl⟩; rw [hsm])
                  | (go_at_call 19; refine (few_any es _ _ _ _ (hev.keep (m := w.heap.size) (by repeat (first | exact B_refl | exact Below.refl _ _ | assumption | with_reducible refine B_alloc ?_ _ | with_reducible refine B_ext ?_ _ | with_reducible refine B_drew ?_ | with_reducible refine B_drewN ?_ _ | with_reducible refine B_set ?_ (by simp; omega) _)))).mono ?_; rintro e wq ⟨rfl, zf, rfl⟩; rw [hfw])
                  | (go_at_call 18; refine (rCheckYard_any' ss rs _ _ _ _ _ _ _ _ _ _ (hyi.keep (m := w.heap.size) (by repeat (first | exact B_refl | exact Below.refl _ _ | assumption | with_reducible refine B_alloc ?_ _ | with_reducible refine B_ext ?_ _ | with_reducible refine B_drew ?_ | with_reducible refine B_drewN ?_ _ | with_reducible refine B_set ?_ (by simp; omega) _)))).mono ?_; rintro e wq ⟨rfl, zr, rfl⟩; rw [HCY.out])
                  | (go_at_call 46; refine (HRP _ (hyi.keep (m := w.heap.size) (by repeat (first | exact B_refl | exact Below.refl _ _ | assumption | with_reducible refine B_alloc ?_ _ | with_reducible refine B_ext ?_ _ | with_reducible refine B_drew ?_ | with_reducible refine B_drewN ?_ _ | with_reducible refine B_set ?_ (by simp; omega) _))) (hei.keep (m := w.heap.size) (by repeat (first | exact B_refl | exact Below.refl _ _ | assumption | with_reducible refine B_alloc ?_ _ | with_reducible refine B_ext ?_ _ | with_reducible refine B_drew ?_ | with_reducible refine B_drewN ?_ _ | with_reducible refine B_set ?_ (by simp; omega) _)))).mono ?_; rintro e wq ⟨A2, k2, rfl, _, zp, rfl⟩))
    go_ret
    exact Ret.of rfl (by repeat (first | exact B_refl | exact Below.refl _ _ | assumption | with_reducible refine B_alloc ?_ _ | with_reducible refine B_ext ?_ _ | with_reducible refine B_drew ?_ | with_reducible refine B_drewN ?_ _ | with_reducible refine B_set ?_ (by simp; omega) _))
  obtain ⟨hyi, hyl1, hyl2⟩ := small_yard hy hsm
  cases hfw : fewP es
  · go_wp2_with (first
                  | (go_at_call 12; refine (awake_any _).mono ?_; rintro e wq ⟨rfl, za, rfl⟩)
                  | (go_at_call 13; refine (small_any ss rs _ _ _ _ _ _ _ _ _ _ (hy.keep (m := w.heap.size) (by repeat (first | exact B_refl | exact Below.refl _ _ | assumption | with_reducible refine B_alloc ?_ _ | with_reducible refine B_ext ?_ _ | with_reducible refine B_drew ?_ | with_reducible refine B_drewN ?_ _ | with_reducible refine B_set ?_ (by simp; omega) _)))).mono ?_; rintro e wq ⟨rfl, zs, rfl⟩; rw [hsm])
                  | (go_at_call 19; refine (few_any es _ _ _ _ (hev.keep (m := w.heap.size) (by repeat (first | exact B_refl | exact Below.refl _ _ | assumption | with_reducible refine B_alloc ?_ _ | with_reducible refine B_ext ?_ _ | with_reducible refine B_drew ?_ | with_reducible refine B_drewN ?_ _ | with_reducible refine B_set ?_ (by simp; omega) _)))).mono ?_; rintro e wq ⟨rfl, zf, rfl⟩; rw [hfw])
                  | (go_at_call 18; refine (rCheckYard_any' ss rs _ _ _ _ _ _ _ _ _ _ (hyi.keep (m := w.heap.size) (by repeat (first | exact B_refl | exact Below.refl _ _ | assumption | with_reducible refine B_alloc ?_ _ | with_reducible refine B_ext ?_ _ | with_reducible refine B_drew ?_ | with_reducible refine B_drewN ?_ _ | with_reducible refine B_set ?_ (by simp; omega) _)))).mono ?_; rintro e wq ⟨rfl, zr, rfl⟩; rw [HCY.out])
                  | (go_at_call 46; refine (HRP _ (hyi.keep (m := w.heap.size) (by repeat (first | exact B_refl | exact Below.refl _ _ | assumption | with_reducible refine B_alloc ?_ _ | with_reducible refine B_ext ?_ _ | with_reducible refine B_drew ?_ | with_reducible refine B_drewN ?_ _ | with_reducible refine B_set ?_ (by simp; omega) _))) (hei.keep (m := w.heap.size) (by repeat (first | exact B_refl | exact Below.refl _ _ | assumption | with_reducible refine B_alloc ?_ _ | with_reducible refine B_ext ?_ _ | with_reducible refine B_drew ?_ | with_reducible refine B_drewN ?_ _ | with_reducible refine B_set ?_ (by simp; omega) _)))).mono ?_; rintro e wq ⟨A2, k2, rfl, _, zp, rfl⟩))
    go_ret
    exact Ret.of rfl (by repeat (first | exact B_refl | exact Below.refl _ _ | assumption | with_reducible refine B_alloc ?_ _ | with_reducible refine B_ext ?_ _ | with_reducible refine B_drew ?_ | with_reducible refine B_drewN ?_ _ | with_reducible refine B_set ?_ (by simp; omega) _))
  obtain ⟨hei, hel1, hel2⟩ := few_events hev hfw
  have hen := hei.hn
  subst hen
  obtain ⟨Y, hY⟩ : ∃ Y, checkYardP ss rs c0 c1 c2 = Y := ⟨_, rfl⟩
  have HCY := Lib.hid hY
  cases hY0 : (Y != 0)
  rotate_left
  · clear hY
    go_wp2_with (first
                  | (go_at_call 12; refine (awake_any _).mono ?_; rintro e wq ⟨rfl, za, rfl⟩)
                  | (go_at_call 13; refine (small_any ss rs _ _ _ _ _ _ _ _ _ _ (hy.keep (m := w.heap.size) (by repeat (first | exact B_refl | exact Below.refl _ _ | assumption | with_reducible refine B_alloc ?_ _ | with_reducible refine B_ext ?_ _ | with_reducible refine B_drew ?_ | with_reducible refine B_drewN ?_ _ | with_reducible refine B_set ?_ (by simp; omega) _)))).mono ?_; rintro e wq ⟨rfl, zs, rfl⟩; rw [hsm])
                  | (go_at_call 19; refine (few_any es _ _ _ _ (hev.keep (m := w.heap.size) (by repeat (first | exact B_refl | exact Below.refl _ _ | assumption | with_reducible refine B_alloc ?_ _ | with_reducible refine B_ext ?_ _ | with_reducible refine B_drew ?_ | with_reducible refine B_drewN ?_ _ | with_reducible refine B_set ?_ (by simp; omega) _)))).mono ?_; rintro e wq ⟨rfl, zf, rfl⟩; rw [hfw])
                  | (go_at_call 18; refine (rCheckYard_any' ss rs _ _ _ _ _ _ _ _ _ _ (hyi.keep (m := w.heap.size) (by repeat (first | exact B_refl | exact Below.refl _ _ | assumption | with_reducible refine B_alloc ?_ _ | with_reducible refine B_ext ?_ _ | with_reducible refine B_drew ?_ | with_reducible refine B_drewN ?_ _ | with_reducible refine B_set ?_ (by simp; omega) _)))).mono ?_; rintro e wq ⟨rfl, zr, rfl⟩; rw [HCY.out])
                  | (go_at_call 46; refine (HRP _ (hyi.keep (m := w.heap.size) (by repeat (first | exact B_refl | exact Below.refl _ _ | assumption | with_reducible refine B_alloc ?_ _ | with_reducible refine B_ext ?_ _ | with_reducible refine B_drew ?_ | with_reducible refine B_drewN ?_ _ | with_reducible refine B_set ?_ (by simp; omega) _))) (hei.keep (m := w.heap.size) (by repeat (first | exact B_refl | exact Below.refl _ _ | assumption | with_reducible refine B_alloc ?_ _ | with_reducible refine B_ext ?_ _ | with_reducible refine B_drew ?_ | with_reducible refine B_drewN ?_ _ | with_reducible refine B_set ?_ (by simp; omega) _)))).mono ?_; rintro e wq ⟨A2, k2, rfl, _, zp, rfl⟩))
    go_ret
    exact Ret.of rfl (by repeat (first | exact B_refl | exact Below.refl _ _ | assumption | with_reducible refine B_alloc ?_ _ | with_reducible refine B_ext ?_ _ | with_reducible refine B_drew ?_ | with_reducible refine B_drewN ?_ _ | with_reducible refine B_set ?_ (by simp; omega) _))
  have hY1 : Y = 0 := by simpa using hY0
  subst hY1
  have HRP := fun W h1 h2 => gReplay_any all_any ss rs A R n c rn rc c0 c1 c2 es E es.length ec W h1 h2
  have hX : (replayW c0 c1 c2 ss rs es).2.1 ≤ es.length ∧ ∀ j e, j < (replayW c0 c1 c2 ss rs es).2.1 → es[j]? = some e →
      (e.kind ≠ 0 → ∃ t, whereR (onDayR ss rs (bk0 A n c R rn rc c0 c1 c2) (es.take j) e.day) e.remain = (t, 0) ∧ t.state ≠ 2 ∧ t.state ≠ 3) ∧
      (e.kind = 1 ∨ e.kind = 3 ∨ e.kind = 4 → e.order = false → ∃ d, restOverR ss rs (readP ss rs (bk0 A n c R rn rc c0 c1 c2) (es.take j)) e.remain = (d, 0) ∧ d ≤ e.day) := by
    by_cases hbig : 300 < (es.length : Int)
    · have : replayW c0 c1 c2 ss rs es = ([], 0, 8) := by
        unfold replayW rReplayP
        rw [if_neg (by simp [hY]), if_pos (by simpa using hbig)]
      rw [this]
      exact ⟨Nat.zero_le _, fun j e hj => absurd hj (Nat.not_lt_zero _)⟩
    · have h2 := (replay_play (A := A) (R := R) (n := n) (c := c) (rn := rn) (rc := rc) hY hbig).2
      rw [← h2]
      exact ⟨by have := (play_ge (ss := ss) (rs := rs) es (bk0 A n c R rn rc c0 c1 c2) 0).2; omega, fun j e hj he => early_at A R n c rn rc hY hbig hj he⟩
  have HX := Lib.hid hX.2
  have hcnt := hX.1
  clear hX hY
  generalize replayW c0 c1 c2 ss rs es = X at *
  obtain ⟨ls, cnt, er⟩ := X
  dsimp only at HX hcnt HRP
  have hc1 : decide ((cnt : Int) < 0) = false := by simp
  have hc2 : decide (es.length < cnt) = false := by simp; omega
  have hc3 : decide ((es.length : Int) < (cnt : Int)) = false := by simp; omega
  go_wp2_with (first
                | (go_at_call 12; refine (awake_any _).mono ?_; rintro e wq ⟨rfl, za, rfl⟩)
                | (go_at_call 13; refine (small_any ss rs _ _ _ _ _ _ _ _ _ _ (hy.keep (m := w.heap.size) (by repeat (first | exact B_refl | exact Below.refl _ _ | assumption | with_reducible refine B_alloc ?_ _ | with_reducible refine B_ext ?_ _ | with_reducible refine B_drew ?_ | with_reducible refine B_drewN ?_ _ | with_reducible refine B_set ?_ (by simp; omega) _)))).mono ?_; rintro e wq ⟨rfl, zs, rfl⟩; rw [hsm])
                | (go_at_call 19; refine (few_any es _ _ _ _ (hev.keep (m := w.heap.size) (by repeat (first | exact B_refl | exact Below.refl _ _ | assumption | with_reducible refine B_alloc ?_ _ | with_reducible refine B_ext ?_ _ | with_reducible refine B_drew ?_ | with_reducible refine B_drewN ?_ _ | with_reducible refine B_set ?_ (by simp; omega) _)))).mono ?_; rintro e wq ⟨rfl, zf, rfl⟩; rw [hfw])
                | (go_at_call 18; refine (rCheckYard_any' ss rs _ _ _ _ _ _ _ _ _ _ (hyi.keep (m := w.heap.size) (by repeat (first | exact B_refl | exact Below.refl _ _ | assumption | with_reducible refine B_alloc ?_ _ | with_reducible refine B_ext ?_ _ | with_reducible refine B_drew ?_ | with_reducible refine B_drewN ?_ _ | with_reducible refine B_set ?_ (by simp; omega) _)))).mono ?_; rintro e wq ⟨rfl, zr, rfl⟩; rw [HCY.out])
                | (go_at_call 46; refine (HRP _ (hyi.keep (m := w.heap.size) (by repeat (first | exact B_refl | exact Below.refl _ _ | assumption | with_reducible refine B_alloc ?_ _ | with_reducible refine B_ext ?_ _ | with_reducible refine B_drew ?_ | with_reducible refine B_drewN ?_ _ | with_reducible refine B_set ?_ (by simp; omega) _))) (hei.keep (m := w.heap.size) (by repeat (first | exact B_refl | exact Below.refl _ _ | assumption | with_reducible refine B_alloc ?_ _ | with_reducible refine B_ext ?_ _ | with_reducible refine B_drew ?_ | with_reducible refine B_drewN ?_ _ | with_reducible refine B_set ?_ (by simp; omega) _)))).mono ?_; rintro e wq ⟨A2, k2, rfl, _, zp, rfl⟩))
  generalize hW0 : World.ext (World.ext (World.ext (World.ext (World.ext (w.alloc (.cells #[.slice A n c, .slice R rn rc, .int .i64 c0, .int .i64 c1, .int .i64 c2] 26)) za) zs) zf) zr) zp = W0
  have hB : Below w.heap.size w W0 := by rw [← hW0]; repeat (first | exact B_refl | exact Below.refl _ _ | assumption | with_reducible refine B_alloc ?_ _ | with_reducible refine B_ext ?_ _ | with_reducible refine B_drew ?_ | with_reducible refine B_drewN ?_ _ | with_reducible refine B_set ?_ (by simp; omega) _)
  have hblk : W0.heap[w.heap.size]? = some (.cells #[.slice A n c, .slice R rn rc, .int .i64 c0, .int .i64 c1, .int .i64 c2] 26) := by rw [← hW0]; (repeat (first | with_reducible exact G_new _ _ _ (by simp) | with_reducible exact G_new _ _ _ (by simp [ext_size]) | with_reducible refine G_drew ?_ | with_reducible refine G_ext ?_ | with_reducible refine G_alloc ?_))
  have hz := blk_lt hblk
  have g0 : W0.cell? ⟨w.heap.size, 0, none⟩ = some (.slice A n c) := by simp [World.cell?, hblk]
  have g1 : W0.cell? ⟨w.heap.size, 1, none⟩ = some (.slice R rn rc) := by simp [World.cell?, hblk]
  have g2 : W0.cell? ⟨w.heap.size, 2, none⟩ = some (.int .i64 c0) := by simp [World.cell?, hblk]
  have g3 : W0.cell? ⟨w.heap.size, 3, none⟩ = some (.int .i64 c1) := by simp [World.cell?, hblk]
  have g4 : W0.cell? ⟨w.heap.size, 4, none⟩ = some (.int .i64 c2) := by simp [World.cell?, hblk]
  clear hW0 hblk hsm hfw HCY HRP hy hev
  have hecap : (es.length : Int) ≤ (ec : Int) := by omega
  go_loopw [8, 9, 10, 11, 12, 13] (fun i _ _ _ _ _ wr => ∃ j : Nat, j ≤ cnt ∧ i = .int .i64 j ∧ ∃ z, wr = W0.ext z) (fun i _ _ _ _ _ _ => cnt - (intOf i).toNat)
  case atStart => exact ⟨0, Nat.zero_le _, rfl, ext_below (Below.refl _ _)⟩
  case round =>
    obtain ⟨j, hj, rfl, z, rfl⟩ := hrel
    by_cases hlt : j < cnt
    · have hjl : j < es.length := by omega
      obtain ⟨b, off, rfl, hb, hc⟩ := (hei.sl.keep (n := w.heap.size) hB).at hjl
      have hx := HX.out j es[j] hlt (List.getElem?_eq_getElem hjl)
      generalize es[j] = ev at *
      obtain ⟨dy, kd, si, lv, rm, co, od⟩ := ev
      have x0 : W0.cell? ⟨b, off + j * 7, none⟩ = some (.int .i64 dy) := hc 0 _ rfl
      have x1 : W0.cell? ⟨b, off + j * 7 + 1, none⟩ = some (.int .i64 kd) := hc 1 _ rfl
      have x2 : W0.cell? ⟨b, off + j * 7 + 2, none⟩ = some (.string si) := hc 2 _ rfl
      have x3 : W0.cell? ⟨b, off + j * 7 + 3, none⟩ = some (.int .i64 lv) := hc 3 _ rfl
      have x4 : W0.cell? ⟨b, off + j * 7 + 4, none⟩ = some (.string rm) := hc 4 _ rfl
      have x5 : W0.cell? ⟨b, off + j * 7 + 5, none⟩ = some (.int .i64 co) := hc 5 _ rfl
      have x6 : W0.cell? ⟨b, off + j * 7 + 6, none⟩ = some (.bool od) := hc 6 _ rfl
      dsimp only at hx
      have HXX := Lib.hid hx
      clear hc hx
      have hlt2 : (j : Int) < (cnt : Int) := by omega
      have hlt3 : (j : Int) < (es.length : Int) := by omega
      have hj0 : (0 : Int) ≤ (j : Int) := by omega
      have hj5 : (j : Int) ≤ (ec : Int) := by omega
      by_cases hk0 : kd = 0
      · subst hk0
        go_wp2_with fail
        go_roundw
        case rel => exact ⟨j + 1, by omega, by go_num, ext_below (by repeat (first | exact B_refl | exact Below.refl _ _ | assumption | with_reducible refine B_alloc ?_ _ | with_reducible refine B_ext ?_ _ | with_reducible refine B_drew ?_ | with_reducible refine B_drewN ?_ _ | with_reducible refine B_set ?_ (by simp; omega) _))⟩
        case measure => simp [intOf]; omega
      · obtain ⟨⟨trm, tst, tsi, tlv, tco, tsc⟩, ht, hs2, hs3⟩ := HXX.out.1 hk0
        dsimp only at hs2 hs3
        have HT := Lib.hid ht
        have hs2' : (tst == 2) = false := by simpa using hs2
        have hs3' : (tst == 3) = false := by simpa using hs3
        have hk0' : (kd != 0) = true := by simpa using hk0
        clear ht
        go_wp2_with fail
        generalize hW2 : World.alloc (W0.ext z) (.cells #[.int .i64 dy, .int .i64 kd, .string si, .int .i64 lv, .string rm, .int .i64 co, .bool od] 80) = W2
        have hB2 : Below w.heap.size w W2 := by rw [← hW2]; repeat (first | exact B_refl | exact Below.refl _ _ | assumption | with_reducible refine B_alloc ?_ _ | with_reducible refine B_ext ?_ _ | with_reducible refine B_drew ?_ | with_reducible refine B_drewN ?_ _ | with_reducible refine B_set ?_ (by simp; omega) _)
        have hB02 : Below W0.heap.size W0 W2 := by rw [← hW2]; repeat (first | exact B_refl | exact Below.refl _ _ | assumption | with_reducible refine B_alloc ?_ _ | with_reducible refine B_ext ?_ _ | with_reducible refine B_drew ?_ | with_reducible refine B_drewN ?_ _ | with_reducible refine B_set ?_ (by simp; omega) _)
        have hE2 : W2.heap[W0.heap.size + z.os.size]? = some (.cells #[.int .i64 dy, .int .i64 kd, .string si, .int .i64 lv, .string rm, .int .i64 co, .bool od] 80) := by rw [← hW2]; exact G_new _ _ _ (by simp [ext_size])
        have hEl := blk_lt hE2
        generalize W0.heap.size + z.os.size = NB at *
        have k0 := cell_kept hz g0 hB02
        have k1 := cell_kept hz g1 hB02
        have k2' := cell_kept hz g2 hB02
        have k3 := cell_kept hz g3 hB02
        have k4 := cell_kept hz g4 hB02
        have jz : w.heap.size < W2.heap.size := Nat.lt_of_lt_of_le hz hB02.size
        have e0 : W2.cell? ⟨NB, 0, none⟩ = some (.int .i64 dy) := by simp [World.cell?, hE2]
        have e1 : W2.cell? ⟨NB, 1, none⟩ = some (.int .i64 kd) := by simp [World.cell?, hE2]
        have e4 : W2.cell? ⟨NB, 4, none⟩ = some (.string rm) := by simp [World.cell?, hE2]
        have e6 : W2.cell? ⟨NB, 6, none⟩ = some (.bool od) := by simp [World.cell?, hE2]
        have hyj : YardIn W2 ss rs A n c R rn rc := hyi.keep (m := w.heap.size) hB2
        have hej : EventsIn W2 (es.take j) (some ⟨b, off, none⟩) j := (take_in hei j (by omega)).keep (m := w.heap.size) hB2
        clear hE2
        refine wp_region_let2 12 1 _ _ (.cells #[.string ⟨#[]⟩, .int .i64 0, .string ⟨#[]⟩, .int .i64 0, .int .i64 0, .int .i64 0] 47) (.cells #[.string trm, .int .i64 tst, .string tsi, .int .i64 tlv, .int .i64 tco, .int .i64 tsc] 47) (by kernel_rfl) (by kernel_rfl) rfl rfl ?hrun ?_
        case hrun => intro a W; kernel_rfl
        simp only [List.take_succ_cons, List.take_zero]
        repeat (refine wpGrow_step (fun K hK => ?_); simp only [grow]; go_simp; first | (refine hK _ ?_; clear hK K) | (apply Exists.intro; refine ⟨fun _ => ?_, hK _ ?_⟩; ((go_at_call 23; refine quietg (v := .tuple #[.agg #[.string trm, .int .i64 tst, .string tsi, .int .i64 tlv, .int .i64 tco, .int .i64 tsc], .int .i64 0]) ?_; refine (gWhere_any ss rs A R n c rn rc c0 c1 c2 (es.take j) (some ⟨b, off, none⟩) j ec rm dy _ (hyj.keep (m := W2.heap.size) (below_ext _ _)) (hej.keep (m := W2.heap.size) (below_ext _ _))).mono ?_; rintro e wq ⟨rfl, zq, rfl⟩; rw [HT.out]; exact ⟨rfl, zq, rfl⟩)); clear hK K))
        refine wpGrow_nil ⟨?hstore, ?hlast⟩
        case hstore =>
          intro W B hb
          have f0 : W.cell? ⟨B, 0, none⟩ = some (.string ⟨#[]⟩) := by simp [World.cell?, hb]
          have f1 : W.cell? ⟨B, 1, none⟩ = some (.int .i64 0) := by simp [World.cell?, hb]
          have f2 : W.cell? ⟨B, 2, none⟩ = some (.string ⟨#[]⟩) := by simp [World.cell?, hb]
          have f3 : W.cell? ⟨B, 3, none⟩ = some (.int .i64 0) := by simp [World.cell?, hb]
          have f4 : W.cell? ⟨B, 4, none⟩ = some (.int .i64 0) := by simp [World.cell?, hb]
          have f5 : W.cell? ⟨B, 5, none⟩ = some (.int .i64 0) := by simp [World.cell?, hb]
          have fz : ∀ j, W.frozen? ⟨B, j, none⟩ = false := fun j => by simp [World.frozen?, hb]
          go_simp
          with_reducible exact ⟨G_set6 hb, grown_set6 _ _ _ _ _ _ _ _⟩
        case hlast =>
          rintro B2 W ⟨z2, hW⟩ hBz hb2
          simp only [List.drop_succ_cons, List.drop_zero]
          subst hW
          have hbz := blk_lt hb2
          have t1 : (W2.ext z2).cell? ⟨B2, 1, none⟩ = some (.int .i64 tst) := by simp [World.cell?, hb2]
          have HR2 := fun W h1 h2 => gRestOver_any ss rs A R n c rn rc c0 c1 c2 (es.take j) (some ⟨b, off, none⟩) j ec rm W h1 h2
          clear hb2
          have hBW : Below W0.heap.size W0 (W2.ext z2) := hB02.trans ((below_ext W2 z2).mono hB02.size)
          by_cases hk : kd = 1 ∨ kd = 3 ∨ kd = 4
          · have hkk : ((kd != 1) = true ∧ (kd != 3) = true ∧ (kd != 4) = false) ∨ ((kd != 1) = true ∧ (kd != 3) = false) ∨ (kd != 1) = false := by
              rcases hk with rfl | rfl | rfl <;> simp
            have HK := Lib.hid hk
            clear hk
            cases od
            · obtain ⟨d, hd, hdd⟩ := HXX.out.2 HK.out rfl
              rw [hd] at HR2
              have hdd2 : decide (dy < d) = false := by simpa using hdd
              clear hd hdd
              rcases hkk with ⟨q1, q2, q3⟩ | ⟨q1, q2⟩ | q1
              · go_wp2_with fail
                (refine wp_region_ext_lit (by kernel_rfl) (by kernel_rfl) ?_
                 repeat (first | go_big_quiet_skip | (go_big_quiet_want; go_big_quiet_op; first | go_big_quiet_on | (apply Exists.intro; refine ⟨fun _ => ?_, ?_⟩; (go_at_call 52; exact quietx (v := .tuple #[.int .i64 d, .int .i64 0]) (HR2 _ (hyj.keep (m := W2.heap.size) (by repeat (first | exact B_refl | exact Below.refl _ _ | assumption | with_reducible refine B_alloc ?_ _ | with_reducible refine B_ext ?_ _ | with_reducible refine B_drew ?_ | with_reducible refine B_drewN ?_ _ | with_reducible refine B_set ?_ (by simp; omega) _))) (hej.keep (m := W2.heap.size) (by repeat (first | exact B_refl | exact Below.refl _ _ | assumption | with_reducible refine B_alloc ?_ _ | with_reducible refine B_ext ?_ _ | with_reducible refine B_drew ?_ | with_reducible refine B_drewN ?_ _ | with_reducible refine B_set ?_ (by simp; omega) _))))); go_big_quiet_on)))
                 refine wpQuiet_nil ?_
                 rintro _ ⟨zq, rfl⟩)
                go_wp2_with fail
                go_roundw
                case rel => exact ⟨j + 1, by omega, by go_num, ext_below (by repeat (first | exact B_refl | exact Below.refl _ _ | assumption | with_reducible refine B_alloc ?_ _ | with_reducible refine B_ext ?_ _ | with_reducible refine B_drew ?_ | with_reducible refine B_drewN ?_ _ | with_reducible refine B_set ?_ (by simp; omega) _))⟩
                case measure => simp [intOf]; omega
              · go_wp2_with fail
                (refine wp_region_ext_lit (by kernel_rfl) (by kernel_rfl) ?_
                 repeat (first | go_big_quiet_skip | (go_big_quiet_want; go_big_quiet_op; first | go_big_quiet_on | (apply Exists.intro; refine ⟨fun _ => ?_, ?_⟩; (go_at_call 52; exact quietx (v := .tuple #[.int .i64 d, .int .i64 0]) (HR2 _ (hyj.keep (m := W2.heap.size) (by repeat (first | exact B_refl | exact Below.refl _ _ | assumption | with_reducible refine B_alloc ?_ _ | with_reducible refine B_ext ?_ _ | with_reducible refine B_drew ?_ | with_reducible refine B_drewN ?_ _ | with_reducible refine B_set ?_ (by simp; omega) _))) (hej.keep (m := W2.heap.size) (by repeat (first | exact B_refl | exact Below.refl _ _ | assumption | with_reducible refine B_alloc ?_ _ | with_reducible refine B_ext ?_ _ | with_reducible refine B_drew ?_ | with_reducible refine B_drewN ?_ _ | with_reducible refine B_set ?_ (by simp; omega) _))))); go_big_quiet_on)))
                 refine wpQuiet_nil ?_
                 rintro _ ⟨zq, rfl⟩)
                go_wp2_with fail
                go_roundw
                case rel => exact ⟨j + 1, by omega, by go_num, ext_below (by repeat (first | exact B_refl | exact Below.refl _ _ | assumption | with_reducible refine B_alloc ?_ _ | with_reducible refine B_ext ?_ _ | with_reducible refine B_drew ?_ | with_reducible refine B_drewN ?_ _ | with_reducible refine B_set ?_ (by simp; omega) _))⟩
                case measure => simp [intOf]; omega
              · go_wp2_with fail
                (refine wp_region_ext_lit (by kernel_rfl) (by kernel_rfl) ?_
                 repeat (first | go_big_quiet_skip | (go_big_quiet_want; go_big_quiet_op; first | go_big_quiet_on | (apply Exists.intro; refine ⟨fun _ => ?_, ?_⟩; (go_at_call 52; exact quietx (v := .tuple #[.int .i64 d, .int .i64 0]) (HR2 _ (hyj.keep (m := W2.heap.size) (by repeat (first | exact B_refl | exact Below.refl _ _ | assumption | with_reducible refine B_alloc ?_ _ | with_reducible refine B_ext ?_ _ | with_reducible refine B_drew ?_ | with_reducible refine B_drewN ?_ _ | with_reducible refine B_set ?_ (by simp; omega) _))) (hej.keep (m := W2.heap.size) (by repeat (first | exact B_refl | exact Below.refl _ _ | assumption | with_reducible refine B_alloc ?_ _ | with_reducible refine B_ext ?_ _ | with_reducible refine B_drew ?_ | with_reducible refine B_drewN ?_ _ | with_reducible refine B_set ?_ (by simp; omega) _))))); go_big_quiet_on)))
                 refine wpQuiet_nil ?_
                 rintro _ ⟨zq, rfl⟩)
                go_wp2_with fail
                go_roundw
                case rel => exact ⟨j + 1, by omega, by go_num, ext_below (by repeat (first | exact B_refl | exact Below.refl _ _ | assumption | with_reducible refine B_alloc ?_ _ | with_reducible refine B_ext ?_ _ | with_reducible refine B_drew ?_ | with_reducible refine B_drewN ?_ _ | with_reducible refine B_set ?_ (by simp; omega) _))⟩
                case measure => simp [intOf]; omega
            · clear HR2
              rcases hkk with ⟨q1, q2, q3⟩ | ⟨q1, q2⟩ | q1
              · go_wp2_with fail
                go_roundw
                case rel => exact ⟨j + 1, by omega, by go_num, ext_below (by repeat (first | exact B_refl | exact Below.refl _ _ | assumption | with_reducible refine B_alloc ?_ _ | with_reducible refine B_ext ?_ _ | with_reducible refine B_drew ?_ | with_reducible refine B_drewN ?_ _ | with_reducible refine B_set ?_ (by simp; omega) _))⟩
                case measure => simp [intOf]; omega
              · go_wp2_with fail
                go_roundw
                case rel => exact ⟨j + 1, by omega, by go_num, ext_below (by repeat (first | exact B_refl | exact Below.refl _ _ | assumption | with_reducible refine B_alloc ?_ _ | with_reducible refine B_ext ?_ _ | with_reducible refine B_drew ?_ | with_reducible refine B_drewN ?_ _ | with_reducible refine B_set ?_ (by simp; omega) _))⟩
                case measure => simp [intOf]; omega
              · go_wp2_with fail
                go_roundw
                case rel => exact ⟨j + 1, by omega, by go_num, ext_below (by repeat (first | exact B_refl | exact Below.refl _ _ | assumption | with_reducible refine B_alloc ?_ _ | with_reducible refine B_ext ?_ _ | with_reducible refine B_drew ?_ | with_reducible refine B_drewN ?_ _ | with_reducible refine B_set ?_ (by simp; omega) _))⟩
                case measure => simp [intOf]; omega
          · have q1 : (kd != 1) = true := by simp; omega
            have q2 : (kd != 3) = true := by simp; omega
            have q3 : (kd != 4) = true := by simp; omega
            clear HR2
            go_wp2_with fail
            go_roundw
            case rel => exact ⟨j + 1, by omega, by go_num, ext_below (by repeat (first | exact B_refl | exact Below.refl _ _ | assumption | with_reducible refine B_alloc ?_ _ | with_reducible refine B_ext ?_ _ | with_reducible refine B_drew ?_ | with_reducible refine B_drewN ?_ _ | with_reducible refine B_set ?_ (by simp; omega) _))⟩
            case measure => simp [intOf]; omega
    · go_wp2_with fail
      go_ret
      exact Ret.of rfl (by repeat (first | exact B_refl | exact Below.refl _ _ | assumption | with_reducible refine B_alloc ?_ _ | with_reducible refine B_ext ?_ _ | with_reducible refine B_drew ?_ | with_reducible refine B_drewN ?_ _ | with_reducible refine B_set ?_ (by simp; omega) _))
end Go.Proofs.Ytmiobhlgpjjbgaa
