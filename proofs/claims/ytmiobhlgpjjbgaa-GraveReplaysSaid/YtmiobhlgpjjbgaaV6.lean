/- Walk: the law GraveReplays. -/
import Derived.Test.YtmiobhlgpjjbgaaQ9
import Derived.Test.YtmiobhlgpjjbgaaH4
import Derived.Test.YtmiobhlgpjjbgaaL3
import Derived.Test.YtmiobhlgpjjbgaaLH
namespace Go.Proofs.Ytmiobhlgpjjbgaa
open Go.RowKit
attribute [local go_sem] World.cell?_alloc_mark ext_size ext_cell ext_frozen lt_add_r lt_add_r2 lt_add_r3 lt_add_r4 lt_add_r5 lt_add_r6 lt_add_r7 lt_add_r8


theorem addW_len (c0 c1 c2 : Int) (ss : List Site) (rs : List Rest) (es : List Event) (ev : Event) : (rAddP c0 c1 c2 ss rs es ev).1.length ≤ es.length + 1 := by
  unfold rAddP
  split <;> simp

set_option maxRecDepth 100000 in
set_option maxHeartbeats 2000000 in
theorem graveReplays_any (ss : List Site) (rs : List Rest) (A R : Option Addr) (n c rn rc : Nat) (c0 c1 c2 : Int) (es : List Event) (E : Option Addr) (en ec : Nat) (dy kd : Int) (si : ByteArray) (lv : Int) (rm : ByteArray) (co : Int) (od : Bool) (w : World) (hy : YardRaw w ss rs A n c R rn rc) (hev : EventsRaw w es E en) :
    Calls Try.prog 9 #[.agg #[.slice A n c, .slice R rn rc, .int .i64 c0, .int .i64 c1, .int .i64 c2], .slice E en ec, .agg #[.int .i64 dy, .int .i64 kd, .string si, .int .i64 lv, .string rm, .int .i64 co, .bool od]] w (Ret w (.bool true)) := by
  have h1 := hy.hn
  have h2 := hy.hrn
  subst h1 h2
  go_enter Try.func9, Try.ntmps9
  cases hsm : smallP ss rs
  · go_wp2_with (first
                  | (go_at_call 12; refine (awake_any _).mono ?_; rintro e wq ⟨rfl, za, rfl⟩)
                  | (go_at_call 13; refine (small_any ss rs _ _ _ _ _ _ _ _ _ _ (hy.keep (m := w.heap.size) (by repeat (first | exact B_refl | exact Below.refl _ _ | assumption | with_reducible refine B_alloc ?_ _ | with_reducible refine B_ext ?_ _ | with_reducible refine B_drew ?_ | with_reducible refine B_drewN ?_ _ | with_reducible refine B_set ?_ (by simp; omega) _)))).mono ?_; rintro e wq ⟨rfl, zs, rfl⟩; rw [hsm])
                  | (go_at_call 19; refine (few_any es _ _ _ _ (hev.keep (m := w.heap.size) (by repeat (first | exact B_refl | exact Below.refl _ _ | assumption | with_reducible refine B_alloc ?_ _ | with_reducible refine B_ext ?_ _ | with_reducible refine B_drew ?_ | with_reducible refine B_drewN ?_ _ | with_reducible refine B_set ?_ (by simp; omega) _)))).mono ?_; rintro e wq ⟨rfl, zf, rfl⟩; rw [hfw]))
    go_ret
    exact Ret.of rfl (by repeat (first | exact B_refl | exact Below.refl _ _ | assumption | with_reducible refine B_alloc ?_ _ | with_reducible refine B_ext ?_ _ | with_reducible refine B_drew ?_ | with_reducible refine B_drewN ?_ _ | with_reducible refine B_set ?_ (by simp; omega) _))
  obtain ⟨hyi, hyl1, hyl2⟩ := small_yard hy hsm
  cases hfw : fewP es
  · go_wp2_with (first
                  | (go_at_call 12; refine (awake_any _).mono ?_; rintro e wq ⟨rfl, za, rfl⟩)
                  | (go_at_call 13; refine (small_any ss rs _ _ _ _ _ _ _ _ _ _ (hy.keep (m := w.heap.size) (by repeat (first | exact B_refl | exact Below.refl _ _ | assumption | with_reducible refine B_alloc ?_ _ | with_reducible refine B_ext ?_ _ | with_reducible refine B_drew ?_ | with_reducible refine B_drewN ?_ _ | with_reducible refine B_set ?_ (by simp; omega) _)))).mono ?_; rintro e wq ⟨rfl, zs, rfl⟩; rw [hsm])
                  | (go_at_call 19; refine (few_any es _ _ _ _ (hev.keep (m := w.heap.size) (by repeat (first | exact B_refl | exact Below.refl _ _ | assumption | with_reducible refine B_alloc ?_ _ | with_reducible refine B_ext ?_ _ | with_reducible refine B_drew ?_ | with_reducible refine B_drewN ?_ _ | with_reducible refine B_set ?_ (by simp; omega) _)))).mono ?_; rintro e wq ⟨rfl, zf, rfl⟩; rw [hfw]))
    go_ret
    exact Ret.of rfl (by repeat (first | exact B_refl | exact Below.refl _ _ | assumption | with_reducible refine B_alloc ?_ _ | with_reducible refine B_ext ?_ _ | with_reducible refine B_drew ?_ | with_reducible refine B_drewN ?_ _ | with_reducible refine B_set ?_ (by simp; omega) _))
  obtain ⟨hei, hel1, hel2⟩ := few_events hev hfw
  have hen := hei.hn
  subst hen
  by_cases hn1 : 30 < (si.size : Int)
  · go_wp2_with (first
                  | (go_at_call 12; refine (awake_any _).mono ?_; rintro e wq ⟨rfl, za, rfl⟩)
                  | (go_at_call 13; refine (small_any ss rs _ _ _ _ _ _ _ _ _ _ (hy.keep (m := w.heap.size) (by repeat (first | exact B_refl | exact Below.refl _ _ | assumption | with_reducible refine B_alloc ?_ _ | with_reducible refine B_ext ?_ _ | with_reducible refine B_drew ?_ | with_reducible refine B_drewN ?_ _ | with_reducible refine B_set ?_ (by simp; omega) _)))).mono ?_; rintro e wq ⟨rfl, zs, rfl⟩; rw [hsm])
                  | (go_at_call 19; refine (few_any es _ _ _ _ (hev.keep (m := w.heap.size) (by repeat (first | exact B_refl | exact Below.refl _ _ | assumption | with_reducible refine B_alloc ?_ _ | with_reducible refine B_ext ?_ _ | with_reducible refine B_drew ?_ | with_reducible refine B_drewN ?_ _ | with_reducible refine B_set ?_ (by simp; omega) _)))).mono ?_; rintro e wq ⟨rfl, zf, rfl⟩; rw [hfw]))
    go_ret
    exact Ret.of rfl (by repeat (first | exact B_refl | exact Below.refl _ _ | assumption | with_reducible refine B_alloc ?_ _ | with_reducible refine B_ext ?_ _ | with_reducible refine B_drew ?_ | with_reducible refine B_drewN ?_ _ | with_reducible refine B_set ?_ (by simp; omega) _))
  by_cases hn2 : 30 < (rm.size : Int)
  · go_wp2_with (first
                  | (go_at_call 12; refine (awake_any _).mono ?_; rintro e wq ⟨rfl, za, rfl⟩)
                  | (go_at_call 13; refine (small_any ss rs _ _ _ _ _ _ _ _ _ _ (hy.keep (m := w.heap.size) (by repeat (first | exact B_refl | exact Below.refl _ _ | assumption | with_reducible refine B_alloc ?_ _ | with_reducible refine B_ext ?_ _ | with_reducible refine B_drew ?_ | with_reducible refine B_drewN ?_ _ | with_reducible refine B_set ?_ (by simp; omega) _)))).mono ?_; rintro e wq ⟨rfl, zs, rfl⟩; rw [hsm])
                  | (go_at_call 19; refine (few_any es _ _ _ _ (hev.keep (m := w.heap.size) (by repeat (first | exact B_refl | exact Below.refl _ _ | assumption | with_reducible refine B_alloc ?_ _ | with_reducible refine B_ext ?_ _ | with_reducible refine B_drew ?_ | with_reducible refine B_drewN ?_ _ | with_reducible refine B_set ?_ (by simp; omega) _)))).mono ?_; rintro e wq ⟨rfl, zf, rfl⟩; rw [hfw]))
    go_ret
    exact Ret.of rfl (by repeat (first | exact B_refl | exact Below.refl _ _ | assumption | with_reducible refine B_alloc ?_ _ | with_reducible refine B_ext ?_ _ | with_reducible refine B_drew ?_ | with_reducible refine B_drewN ?_ _ | with_reducible refine B_set ?_ (by simp; omega) _))
  have hsi : si.size ≤ 100000 := by omega
  have hrm : rm.size ≤ 100000 := by omega
  have hc63 : ss.length ≤ 100000 := by omega
  have hc43 : rs.length ≤ 100000 := by omega
  have hel3 : es.length ≤ 100000 := by omega
  have HRP := fun A n c R rn rc E ec W h1 h2 => gReplay_any all_any ss rs A R n c rn rc c0 c1 c2 es E es.length ec W h1 h2
  have HAD := fun A n c R rn rc E ec W h1 h2 => gAdd_w ss rs A R n c rn rc c0 c1 c2 es E es.length ec dy kd si lv rm co od W h1 h2 hsi hrm
  generalize hRP0 : replayW c0 c1 c2 ss rs es = p1 at HRP
  generalize hAD0 : addW c0 c1 c2 ss rs es ⟨dy, kd, si, lv, rm, co, od⟩ = p2 at HAD
  have hRP := Lib.hid hRP0
  have hAD := Lib.hid hAD0
  have hSI := Lib.hid hsi
  have hRM := Lib.hid hrm
  clear hRP0 hAD0 hsi hrm
  obtain ⟨ls, cnt, er⟩ := p1
  obtain ⟨al, ae⟩ := p2
  go_wp2_with (first
                | (first
                    | (go_at_call 12; refine (awake_any _).mono ?_; rintro e wq ⟨rfl, za, rfl⟩)
                    | (go_at_call 13; refine (small_any ss rs _ _ _ _ _ _ _ _ _ _ (hy.keep (m := w.heap.size) (by repeat (first | exact B_refl | exact Below.refl _ _ | assumption | with_reducible refine B_alloc ?_ _ | with_reducible refine B_ext ?_ _ | with_reducible refine B_drew ?_ | with_reducible refine B_drewN ?_ _ | with_reducible refine B_set ?_ (by simp; omega) _)))).mono ?_; rintro e wq ⟨rfl, zs, rfl⟩; rw [hsm])
                    | (go_at_call 19; refine (few_any es _ _ _ _ (hev.keep (m := w.heap.size) (by repeat (first | exact B_refl | exact Below.refl _ _ | assumption | with_reducible refine B_alloc ?_ _ | with_reducible refine B_ext ?_ _ | with_reducible refine B_drew ?_ | with_reducible refine B_drewN ?_ _ | with_reducible refine B_set ?_ (by simp; omega) _)))).mono ?_; rintro e wq ⟨rfl, zf, rfl⟩; rw [hfw]))
                | (go_at_call 17; refine (copyYard_any ss rs _ _ _ _ _ _ _ _ _ _ (hyi.keep (m := w.heap.size) (by repeat (first | exact B_refl | exact Below.refl _ _ | assumption | with_reducible refine B_alloc ?_ _ | with_reducible refine B_ext ?_ _ | with_reducible refine B_drew ?_ | with_reducible refine B_drewN ?_ _ | with_reducible refine B_set ?_ (by simp; omega) _)))).mono ?_; intro e wq hq; obtain ⟨A2, k2, R2, r2, rfl, hy2, zc1, rfl⟩ := hq.form hc63 hc43 hyi.sh; clear hq)
                | (go_at_call 34; refine (copyEvents_any es E es.length ec _ (hei.keep (m := w.heap.size) (by repeat (first | exact B_refl | exact Below.refl _ _ | assumption | with_reducible refine B_alloc ?_ _ | with_reducible refine B_ext ?_ _ | with_reducible refine B_drew ?_ | with_reducible refine B_drewN ?_ _ | with_reducible refine B_set ?_ (by simp; omega) _)))).mono ?_; intro e wq hq; obtain ⟨E2, k3, ze1, rfl, rfl, he2⟩ := hq.form hel3 hei.sh; clear hq)
                | (go_at_call 46; refine (HRP _ _ _ _ _ _ _ _ _ (hy2.keep (by repeat (first | exact B_refl | exact Below.refl _ _ | assumption | with_reducible refine B_alloc ?_ _ | with_reducible refine B_ext ?_ _ | with_reducible refine B_drew ?_ | with_reducible refine B_drewN ?_ _ | with_reducible refine B_set ?_ (by simp; omega) _))) (he2.keep (by repeat (first | exact B_refl | exact Below.refl _ _ | assumption | with_reducible refine B_alloc ?_ _ | with_reducible refine B_ext ?_ _ | with_reducible refine B_drew ?_ | with_reducible refine B_drewN ?_ _ | with_reducible refine B_set ?_ (by simp; omega) _)))).mono ?_; rintro e wq ⟨F, fc, rfl, hSF, zd1, rfl⟩))
  clear hy2 he2
  generalize hW0 : World.ext (World.ext (World.ext (World.ext (World.ext (World.ext ((w.alloc (.cells #[.slice A ss.length c, .slice R rs.length rc, .int .i64 c0, .int .i64 c1, .int .i64 c2] 26)).alloc (.cells #[.int .i64 dy, .int .i64 kd, .string si, .int .i64 lv, .string rm, .int .i64 co, .bool od] 80)) za) zs) zf) zc1) ze1) zd1 = W0 at *
  have hB : Below w.heap.size w W0 := by rw [← hW0]; repeat (first | exact B_refl | exact Below.refl _ _ | assumption | with_reducible refine B_alloc ?_ _ | with_reducible refine B_ext ?_ _ | with_reducible refine B_drew ?_ | with_reducible refine B_drewN ?_ _ | with_reducible refine B_set ?_ (by simp; omega) _)
  have hblk : W0.heap[w.heap.size]? = some (.cells #[.slice A ss.length c, .slice R rs.length rc, .int .i64 c0, .int .i64 c1, .int .i64 c2] 26) := by rw [← hW0]; (repeat (first | with_reducible exact G_new _ _ _ (by simp) | with_reducible exact G_new _ _ _ (by simp [ext_size]) | with_reducible refine G_drew ?_ | with_reducible refine G_ext ?_ | with_reducible refine G_alloc ?_))
  have hblk1 : W0.heap[w.heap.size + 1]? = some (.cells #[.int .i64 dy, .int .i64 kd, .string si, .int .i64 lv, .string rm, .int .i64 co, .bool od] 80) := by rw [← hW0]; (repeat (first | with_reducible exact G_new _ _ _ (by simp) | with_reducible exact G_new _ _ _ (by simp [ext_size]) | with_reducible refine G_drew ?_ | with_reducible refine G_ext ?_ | with_reducible refine G_alloc ?_))
  have hz := blk_lt hblk
  have hz1 := blk_lt hblk1
  have g0 : W0.cell? ⟨w.heap.size, 0, none⟩ = some (.slice A ss.length c) := by simp [World.cell?, hblk]
  have g1 : W0.cell? ⟨w.heap.size, 1, none⟩ = some (.slice R rs.length rc) := by simp [World.cell?, hblk]
  have g2 : W0.cell? ⟨w.heap.size, 2, none⟩ = some (.int .i64 c0) := by simp [World.cell?, hblk]
  have g3 : W0.cell? ⟨w.heap.size, 3, none⟩ = some (.int .i64 c1) := by simp [World.cell?, hblk]
  have g4 : W0.cell? ⟨w.heap.size, 4, none⟩ = some (.int .i64 c2) := by simp [World.cell?, hblk]
  have e0 : W0.cell? ⟨w.heap.size + 1, 0, none⟩ = some (.int .i64 dy) := by simp [World.cell?, hblk1]
  have e1 : W0.cell? ⟨w.heap.size + 1, 1, none⟩ = some (.int .i64 kd) := by simp [World.cell?, hblk1]
  have e2 : W0.cell? ⟨w.heap.size + 1, 2, none⟩ = some (.string si) := by simp [World.cell?, hblk1]
  have e3 : W0.cell? ⟨w.heap.size + 1, 3, none⟩ = some (.int .i64 lv) := by simp [World.cell?, hblk1]
  have e4 : W0.cell? ⟨w.heap.size + 1, 4, none⟩ = some (.string rm) := by simp [World.cell?, hblk1]
  have e5 : W0.cell? ⟨w.heap.size + 1, 5, none⟩ = some (.int .i64 co) := by simp [World.cell?, hblk1]
  have e6 : W0.cell? ⟨w.heap.size + 1, 6, none⟩ = some (.bool od) := by simp [World.cell?, hblk1]
  clear hW0 hblk hblk1 hsm hfw hy hev hn1 hn2
  go_region_held3 (fun w' => w'.cell? ⟨w.heap.size, 0, none⟩ = some (.slice A ss.length c) ∧ w'.cell? ⟨w.heap.size, 1, none⟩ = some (.slice R rs.length rc) ∧ w'.cell? ⟨w.heap.size, 2, none⟩ = some (.int .i64 c0) ∧ w'.cell? ⟨w.heap.size, 3, none⟩ = some (.int .i64 c1) ∧ w'.cell? ⟨w.heap.size, 4, none⟩ = some (.int .i64 c2) ∧
                     w'.cell? ⟨w.heap.size + 1, 0, none⟩ = some (.int .i64 dy) ∧ w'.cell? ⟨w.heap.size + 1, 1, none⟩ = some (.int .i64 kd) ∧ w'.cell? ⟨w.heap.size + 1, 2, none⟩ = some (.string si) ∧ w'.cell? ⟨w.heap.size + 1, 3, none⟩ = some (.int .i64 lv) ∧ w'.cell? ⟨w.heap.size + 1, 4, none⟩ = some (.string rm) ∧ w'.cell? ⟨w.heap.size + 1, 5, none⟩ = some (.int .i64 co) ∧ w'.cell? ⟨w.heap.size + 1, 6, none⟩ = some (.bool od))
                    ((refine ⟨cell_kept hz g0 ?_, cell_kept hz g1 ?_, cell_kept hz g2 ?_, cell_kept hz g3 ?_, cell_kept hz g4 ?_, cell_kept hz1 e0 ?_, cell_kept hz1 e1 ?_, cell_kept hz1 e2 ?_, cell_kept hz1 e3 ?_, cell_kept hz1 e4 ?_, cell_kept hz1 e5 ?_, cell_kept hz1 e6 ?_⟩ <;> ((repeat (first | exact B_refl | exact Below.refl _ _ | assumption | with_reducible refine B_alloc ?_ _ | with_reducible refine B_ext ?_ _ | with_reducible refine B_drew ?_ | with_reducible refine B_drewN ?_ _ | with_reducible refine B_set ?_ (by simp; omega) _)); done)))
    (first
      | (go_at_call 17; refine (copyYard_any ss rs _ _ _ _ _ _ _ _ _ _ (hyi.keep (m := w.heap.size) ?q1)).mono ?_
         case q1 => repeat (first | exact B_refl | exact Below.refl _ _ | assumption | with_reducible refine B_alloc ?_ _ | with_reducible refine B_ext ?_ _ | with_reducible refine B_drew ?_ | with_reducible refine B_drewN ?_ _ | with_reducible refine B_set ?_ (by simp; omega) _)
         intro e wq hq; obtain ⟨A2, k2, R2, r2, rfl, hy2, zc2, rfl⟩ := hq.form hc63 hc43 hyi.sh; clear hq)
      | (go_at_call 34; refine (copyEvents_any es E es.length ec _ (hei.keep (m := w.heap.size) ?q1)).mono ?_
         case q1 => repeat (first | exact B_refl | exact Below.refl _ _ | assumption | with_reducible refine B_alloc ?_ _ | with_reducible refine B_ext ?_ _ | with_reducible refine B_drew ?_ | with_reducible refine B_drewN ?_ _ | with_reducible refine B_set ?_ (by simp; omega) _)
         intro e wq hq; obtain ⟨E2, k3, ze2, rfl, rfl, he2⟩ := hq.form hel3 hei.sh; clear hq)
      | (go_at_call 41; refine (HAD _ _ _ _ _ _ _ _ _ (hy2.keep ?q1) (he2.keep ?q2)).mono ?_
         case q1 => repeat (first | exact B_refl | exact Below.refl _ _ | assumption | with_reducible refine B_alloc ?_ _ | with_reducible refine B_ext ?_ _ | with_reducible refine B_drew ?_ | with_reducible refine B_drewN ?_ _ | with_reducible refine B_set ?_ (by simp; omega) _)
         case q2 => repeat (first | exact B_refl | exact Below.refl _ _ | assumption | with_reducible refine B_alloc ?_ _ | with_reducible refine B_ext ?_ _ | with_reducible refine B_drew ?_ | with_reducible refine B_drewN ?_ _ | with_reducible refine B_set ?_ (by simp; omega) _)
         rintro e wq ⟨v2, rfl, hown2, zd2, rfl⟩
         dsimp only at hown2
         obtain ⟨G, gc, rfl, hSG, _⟩ := own_sl event_len hown2
         clear hown2))
  generalize hW1 : World.ext (World.ext (World.ext (World.drew W0) zc2) ze2) zd2 = W1
  have hB1 : Below w.heap.size w W1 := by rw [← hW1]; repeat (first | exact B_refl | exact Below.refl _ _ | assumption | with_reducible refine B_alloc ?_ _ | with_reducible refine B_ext ?_ _ | with_reducible refine B_drew ?_ | with_reducible refine B_drewN ?_ _ | with_reducible refine B_set ?_ (by simp; omega) _)
  have hB01 : Below W0.heap.size W0 W1 := by rw [← hW1]; repeat (first | exact B_refl | exact Below.refl _ _ | assumption | with_reducible refine B_alloc ?_ _ | with_reducible refine B_ext ?_ _ | with_reducible refine B_drew ?_ | with_reducible refine B_drewN ?_ _ | with_reducible refine B_set ?_ (by simp; omega) _)
  have hSF1 : Sl W1 6 Lot.cells F ls := hSF.keep (by rw [← hW1]; repeat (first | exact B_refl | exact Below.refl _ _ | assumption | with_reducible refine B_alloc ?_ _ | with_reducible refine B_ext ?_ _ | with_reducible refine B_drew ?_ | with_reducible refine B_drewN ?_ _ | with_reducible refine B_set ?_ (by simp; omega) _)) (Nat.le_refl _)
  have hSG1 : Sl W1 7 Event.cells G al := hSG.keep (by rw [← hW1]; repeat (first | exact B_refl | exact Below.refl _ _ | assumption | with_reducible refine B_alloc ?_ _ | with_reducible refine B_ext ?_ _ | with_reducible refine B_drew ?_ | with_reducible refine B_drewN ?_ _ | with_reducible refine B_set ?_ (by simp; omega) _)) (Nat.le_refl _)
  have k0 := cell_kept hz g0 hB01
  have k1 := cell_kept hz g1 hB01
  have k2 := cell_kept hz g2 hB01
  have k3 := cell_kept hz g3 hB01
  have k4 := cell_kept hz g4 hB01
  have f0 := cell_kept hz1 e0 hB01
  have f1 := cell_kept hz1 e1 hB01
  have f2 := cell_kept hz1 e2 hB01
  have f3 := cell_kept hz1 e3 hB01
  have f4 := cell_kept hz1 e4 hB01
  have f5 := cell_kept hz1 e5 hB01
  have f6 := cell_kept hz1 e6 hB01
  have j0 : w.heap.size < W1.heap.size := Nat.lt_of_lt_of_le hz hB01.size
  have j1 : w.heap.size + 1 < W1.heap.size := Nat.lt_of_lt_of_le hz1 hB01.size
  clear hW1 hB01 g0 g1 g2 g3 g4 e0 e1 e2 e3 e4 e5 e6 hz hz1 hB hSF hSG HRP HAD
  replace hRP := hRP.out
  replace hAD := hAD.out
  obtain ⟨Y, hY⟩ : ∃ Y, checkYardP ss rs c0 c1 c2 = Y := ⟨_, rfl⟩
  have HCY := Lib.hid hY
  unfold replayW at hRP
  unfold addW at hAD
  cases hY0 : (Y != 0)
  rotate_left
  · have hc : rCheckP c0 c1 c2 ss rs es = Y := by unfold rCheckP; rw [hY, if_pos hY0]
    rw [hY, if_pos hY0] at hRP
    rw [hc, if_pos hY0] at hAD
    obtain ⟨rfl, h4⟩ := Prod.mk.inj hRP
    obtain ⟨rfl, rfl⟩ := Prod.mk.inj h4
    obtain ⟨rfl, rfl⟩ := Prod.mk.inj hAD
    clear hRP hAD h4 hY hc
    go_wp2_with (first
                  | (go_at_call 18; refine (rCheckYard_any' ss rs _ _ _ _ _ _ _ _ _ _ (hyi.keep (m := w.heap.size) (by repeat (first | exact B_refl | exact Below.refl _ _ | assumption | with_reducible refine B_alloc ?_ _ | with_reducible refine B_ext ?_ _ | with_reducible refine B_drew ?_ | with_reducible refine B_drewN ?_ _ | with_reducible refine B_set ?_ (by simp; omega) _)))).mono ?_; rintro e wq ⟨rfl, zr, rfl⟩; rw [HCY.out])
                  | (go_at_call 47; refine (HRR _ (hyi.keep (m := w.heap.size) (by repeat (first | exact B_refl | exact Below.refl _ _ | assumption | with_reducible refine B_alloc ?_ _ | with_reducible refine B_ext ?_ _ | with_reducible refine B_drew ?_ | with_reducible refine B_drewN ?_ _ | with_reducible refine B_set ?_ (by simp; omega) _))) (hei.keep (m := w.heap.size) (by repeat (first | exact B_refl | exact Below.refl _ _ | assumption | with_reducible refine B_alloc ?_ _ | with_reducible refine B_ext ?_ _ | with_reducible refine B_drew ?_ | with_reducible refine B_drewN ?_ _ | with_reducible refine B_set ?_ (by simp; omega) _)))).mono ?_; rintro e wq ⟨v3, rfl, hown3, zt, rfl⟩; obtain ⟨F2, fc2, rfl, hSF2, _⟩ := own_sl lot_len hown3; clear hown3)
                  | (go_at_call 48; refine (sameLots_any ls _ _ _ _ _ (hSF1.keep (n := W1.heap.size) (by repeat (first | exact B_refl | exact Below.refl _ _ | assumption | with_reducible refine B_alloc ?_ _ | with_reducible refine B_ext ?_ _ | with_reducible refine B_drew ?_ | with_reducible refine B_drewN ?_ _ | with_reducible refine B_set ?_ (by simp; omega) _))) hSF2 hfl).mono ?_; rintro e wq ⟨rfl, zu, rfl⟩)
                  | (go_at_call 49; refine (HRA _ (hyi.keep (m := w.heap.size) (by repeat (first | exact B_refl | exact Below.refl _ _ | assumption | with_reducible refine B_alloc ?_ _ | with_reducible refine B_ext ?_ _ | with_reducible refine B_drew ?_ | with_reducible refine B_drewN ?_ _ | with_reducible refine B_set ?_ (by simp; omega) _))) (hei.keep (m := w.heap.size) (by repeat (first | exact B_refl | exact Below.refl _ _ | assumption | with_reducible refine B_alloc ?_ _ | with_reducible refine B_ext ?_ _ | with_reducible refine B_drew ?_ | with_reducible refine B_drewN ?_ _ | with_reducible refine B_set ?_ (by simp; omega) _)))).mono ?_; rintro e wq ⟨v4, rfl, hown4, zv, rfl⟩; obtain ⟨G2, gc2, rfl, hSG2, _⟩ := own_sl event_len hown4; clear hown4)
                  | (go_at_call 50; refine (sameEvents_any zl _ _ _ _ _ (hSG1.keep (n := W1.heap.size) (by repeat (first | exact B_refl | exact Below.refl _ _ | assumption | with_reducible refine B_alloc ?_ _ | with_reducible refine B_ext ?_ _ | with_reducible refine B_drew ?_ | with_reducible refine B_drewN ?_ _ | with_reducible refine B_set ?_ (by simp; omega) _))) hSG2 hal).mono ?_; rintro e wq ⟨rfl, zw, rfl⟩))
    go_ret
    exact Ret.of rfl (by repeat (first | exact B_refl | exact Below.refl _ _ | assumption | with_reducible refine B_alloc ?_ _ | with_reducible refine B_ext ?_ _ | with_reducible refine B_drew ?_ | with_reducible refine B_drewN ?_ _ | with_reducible refine B_set ?_ (by simp; omega) _))
  have hY1 : Y = 0 := by simpa using hY0
  subst hY1
  have hrooms := yard_rooms hY
  have hc : rCheckP c0 c1 c2 ss rs es = (rReplayP c0 c1 c2 ss rs es).2.2 := by unfold rCheckP; rw [hY, if_neg (by simp)]
  rw [hY, if_neg (by simp)] at hRP
  rw [hc, hRP] at hAD
  dsimp only at hAD
  have HRR := fun W h1 h2 => rReplay_any ss rs A R ss.length c rs.length rc c0 c1 c2 es E es.length ec W h1 h2 hrooms
  have HRA := fun W h1 h2 => rAdd_any ss rs A R ss.length c rs.length rc c0 c1 c2 es E es.length ec dy kd si lv rm co od W h1 h2 hrooms (by omega) hSI.out hRM.out
  have hfl : ls.length ≤ 100000 := by
    have h5 : (rReplayP c0 c1 c2 ss rs es).1.length ≤ es.length := by
      unfold rReplayP
      split
      · exact Nat.zero_le _
      · have := goP_len (c0 := c0) (c1 := c1) (c2 := c2) (ss := ss) (rs := rs) es [] 0 0
        simpa using this
    rw [hRP] at h5
    dsimp only at h5
    omega
  have h6 := addW_len c0 c1 c2 ss rs es ⟨dy, kd, si, lv, rm, co, od⟩
  generalize rAddP c0 c1 c2 ss rs es ⟨dy, kd, si, lv, rm, co, od⟩ = Z at *
  obtain ⟨zl, ze⟩ := Z
  dsimp only at h6
  rw [hRP] at HRR
  clear hY hc hRP
  cases hq : (er != 0)
  · have her : er = 0 := by simpa using hq
    subst her
    rw [if_neg (by simp)] at hAD
    obtain ⟨rfl, rfl⟩ := Prod.mk.inj hAD
    have hal : zl.length ≤ 100000 := by omega
    clear h6 hAD hq
    go_wp2_with (first
                  | (go_at_call 18; refine (rCheckYard_any' ss rs _ _ _ _ _ _ _ _ _ _ (hyi.keep (m := w.heap.size) (by repeat (first | exact B_refl | exact Below.refl _ _ | assumption | with_reducible refine B_alloc ?_ _ | with_reducible refine B_ext ?_ _ | with_reducible refine B_drew ?_ | with_reducible refine B_drewN ?_ _ | with_reducible refine B_set ?_ (by simp; omega) _)))).mono ?_; rintro e wq ⟨rfl, zr, rfl⟩; rw [HCY.out])
                  | (go_at_call 47; refine (HRR _ (hyi.keep (m := w.heap.size) (by repeat (first | exact B_refl | exact Below.refl _ _ | assumption | with_reducible refine B_alloc ?_ _ | with_reducible refine B_ext ?_ _ | with_reducible refine B_drew ?_ | with_reducible refine B_drewN ?_ _ | with_reducible refine B_set ?_ (by simp; omega) _))) (hei.keep (m := w.heap.size) (by repeat (first | exact B_refl | exact Below.refl _ _ | assumption | with_reducible refine B_alloc ?_ _ | with_reducible refine B_ext ?_ _ | with_reducible refine B_drew ?_ | with_reducible refine B_drewN ?_ _ | with_reducible refine B_set ?_ (by simp; omega) _)))).mono ?_; rintro e wq ⟨v3, rfl, hown3, zt, rfl⟩; obtain ⟨F2, fc2, rfl, hSF2, _⟩ := own_sl lot_len hown3; clear hown3)
                  | (go_at_call 48; refine (sameLots_any ls _ _ _ _ _ (hSF1.keep (n := W1.heap.size) (by repeat (first | exact B_refl | exact Below.refl _ _ | assumption | with_reducible refine B_alloc ?_ _ | with_reducible refine B_ext ?_ _ | with_reducible refine B_drew ?_ | with_reducible refine B_drewN ?_ _ | with_reducible refine B_set ?_ (by simp; omega) _))) hSF2 hfl).mono ?_; rintro e wq ⟨rfl, zu, rfl⟩)
                  | (go_at_call 49; refine (HRA _ (hyi.keep (m := w.heap.size) (by repeat (first | exact B_refl | exact Below.refl _ _ | assumption | with_reducible refine B_alloc ?_ _ | with_reducible refine B_ext ?_ _ | with_reducible refine B_drew ?_ | with_reducible refine B_drewN ?_ _ | with_reducible refine B_set ?_ (by simp; omega) _))) (hei.keep (m := w.heap.size) (by repeat (first | exact B_refl | exact Below.refl _ _ | assumption | with_reducible refine B_alloc ?_ _ | with_reducible refine B_ext ?_ _ | with_reducible refine B_drew ?_ | with_reducible refine B_drewN ?_ _ | with_reducible refine B_set ?_ (by simp; omega) _)))).mono ?_; rintro e wq ⟨v4, rfl, hown4, zv, rfl⟩; obtain ⟨G2, gc2, rfl, hSG2, _⟩ := own_sl event_len hown4; clear hown4)
                  | (go_at_call 50; refine (sameEvents_any zl _ _ _ _ _ (hSG1.keep (n := W1.heap.size) (by repeat (first | exact B_refl | exact Below.refl _ _ | assumption | with_reducible refine B_alloc ?_ _ | with_reducible refine B_ext ?_ _ | with_reducible refine B_drew ?_ | with_reducible refine B_drewN ?_ _ | with_reducible refine B_set ?_ (by simp; omega) _))) hSG2 hal).mono ?_; rintro e wq ⟨rfl, zw, rfl⟩))
    go_ret
    exact Ret.of rfl (by repeat (first | exact B_refl | exact Below.refl _ _ | assumption | with_reducible refine B_alloc ?_ _ | with_reducible refine B_ext ?_ _ | with_reducible refine B_drew ?_ | with_reducible refine B_drewN ?_ _ | with_reducible refine B_set ?_ (by simp; omega) _))
  · rw [if_pos hq] at hAD
    obtain ⟨rfl, rfl⟩ := Prod.mk.inj hAD
    clear h6 hAD HRA
    go_wp2_with (first
                  | (go_at_call 18; refine (rCheckYard_any' ss rs _ _ _ _ _ _ _ _ _ _ (hyi.keep (m := w.heap.size) (by repeat (first | exact B_refl | exact Below.refl _ _ | assumption | with_reducible refine B_alloc ?_ _ | with_reducible refine B_ext ?_ _ | with_reducible refine B_drew ?_ | with_reducible refine B_drewN ?_ _ | with_reducible refine B_set ?_ (by simp; omega) _)))).mono ?_; rintro e wq ⟨rfl, zr, rfl⟩; rw [HCY.out])
                  | (go_at_call 47; refine (HRR _ (hyi.keep (m := w.heap.size) (by repeat (first | exact B_refl | exact Below.refl _ _ | assumption | with_reducible refine B_alloc ?_ _ | with_reducible refine B_ext ?_ _ | with_reducible refine B_drew ?_ | with_reducible refine B_drewN ?_ _ | with_reducible refine B_set ?_ (by simp; omega) _))) (hei.keep (m := w.heap.size) (by repeat (first | exact B_refl | exact Below.refl _ _ | assumption | with_reducible refine B_alloc ?_ _ | with_reducible refine B_ext ?_ _ | with_reducible refine B_drew ?_ | with_reducible refine B_drewN ?_ _ | with_reducible refine B_set ?_ (by simp; omega) _)))).mono ?_; rintro e wq ⟨v3, rfl, hown3, zt, rfl⟩; obtain ⟨F2, fc2, rfl, hSF2, _⟩ := own_sl lot_len hown3; clear hown3)
                  | (go_at_call 48; refine (sameLots_any ls _ _ _ _ _ (hSF1.keep (n := W1.heap.size) (by repeat (first | exact B_refl | exact Below.refl _ _ | assumption | with_reducible refine B_alloc ?_ _ | with_reducible refine B_ext ?_ _ | with_reducible refine B_drew ?_ | with_reducible refine B_drewN ?_ _ | with_reducible refine B_set ?_ (by simp; omega) _))) hSF2 hfl).mono ?_; rintro e wq ⟨rfl, zu, rfl⟩)
                  | (go_at_call 49; refine (HRA _ (hyi.keep (m := w.heap.size) (by repeat (first | exact B_refl | exact Below.refl _ _ | assumption | with_reducible refine B_alloc ?_ _ | with_reducible refine B_ext ?_ _ | with_reducible refine B_drew ?_ | with_reducible refine B_drewN ?_ _ | with_reducible refine B_set ?_ (by simp; omega) _))) (hei.keep (m := w.heap.size) (by repeat (first | exact B_refl | exact Below.refl _ _ | assumption | with_reducible refine B_alloc ?_ _ | with_reducible refine B_ext ?_ _ | with_reducible refine B_drew ?_ | with_reducible refine B_drewN ?_ _ | with_reducible refine B_set ?_ (by simp; omega) _)))).mono ?_; rintro e wq ⟨v4, rfl, hown4, zv, rfl⟩; obtain ⟨G2, gc2, rfl, hSG2, _⟩ := own_sl event_len hown4; clear hown4)
                  | (go_at_call 50; refine (sameEvents_any zl _ _ _ _ _ (hSG1.keep (n := W1.heap.size) (by repeat (first | exact B_refl | exact Below.refl _ _ | assumption | with_reducible refine B_alloc ?_ _ | with_reducible refine B_ext ?_ _ | with_reducible refine B_drew ?_ | with_reducible refine B_drewN ?_ _ | with_reducible refine B_set ?_ (by simp; omega) _))) hSG2 hal).mono ?_; rintro e wq ⟨rfl, zw, rfl⟩))
    go_ret
    exact Ret.of rfl (by repeat (first | exact B_refl | exact Below.refl _ _ | assumption | with_reducible refine B_alloc ?_ _ | with_reducible refine B_ext ?_ _ | with_reducible refine B_drew ?_ | with_reducible refine B_drewN ?_ _ | with_reducible refine B_set ?_ (by simp; omega) _))
end Go.Proofs.Ytmiobhlgpjjbgaa
