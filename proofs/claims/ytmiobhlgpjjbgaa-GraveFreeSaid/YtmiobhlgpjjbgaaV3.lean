/- Walk: the law GraveFree. -/
import Derived.Test.YtmiobhlgpjjbgaaQ5
import Derived.Test.YtmiobhlgpjjbgaaL3
import Derived.Test.YtmiobhlgpjjbgaaX1
namespace Go.Proofs.Ytmiobhlgpjjbgaa
open Go.RowKit
attribute [local go_sem] World.cell?_alloc_mark ext_size ext_cell ext_frozen lt_add_r lt_add_r2 lt_add_r3 lt_add_r4 lt_add_r5 lt_add_r6 lt_add_r7 lt_add_r8


theorem gFree_w (ss : List Site) (rs : List Rest) (A R : Option Addr) (n c rn rc : Nat) (c0 c1 c2 : Int) (es : List Event) (L : Option Addr) (ln lc : Nat) (co day : Int) (w : World) (hy : YardIn w ss rs A n c R rn rc) (hev : EventsIn w es L ln) :
    Calls Try.prog 33 #[.agg #[.slice A n c, .slice R rn rc, .int .i64 c0, .int .i64 c1, .int .i64 c2], .slice L ln lc, .int .i64 co, .int .i64 day] w (ListPost w 54 2
      ((freeW c0 c1 c2 ss rs es co day).1.flatMap Berth.cells, (freeW c0 c1 c2 ss rs es co day).1.length) (freeW c0 c1 c2 ss rs es co day).2) := by
  rw [← freeR_w ss rs A R n c rn rc c0 c1 c2 es co day]
  exact gFree_any ss rs A R n c rn rc c0 c1 c2 es L ln lc co day w hy hev
theorem gFirst_w (ss : List Site) (rs : List Rest) (A R : Option Addr) (n c rn rc : Nat) (c0 c1 c2 : Int) (es : List Event) (L : Option Addr) (ln lc : Nat) (nm : ByteArray) (lv co day : Int) (w : World) (hy : YardIn w ss rs A n c R rn rc) (hev : EventsIn w es L ln) :
    Calls Try.prog 35 #[.agg #[.slice A n c, .slice R rn rc, .int .i64 c0, .int .i64 c1, .int .i64 c2], .slice L ln lc, .agg #[.string nm, .int .i64 lv], .int .i64 co, .int .i64 day] w (Ret w (ret2 (firstW c0 c1 c2 ss rs es nm lv co day))) := by
  rw [← firstR_w ss rs A R n c rn rc c0 c1 c2 es nm lv co day]
  exact gFirst_any ss rs A R n c rn rc c0 c1 c2 es L ln lc nm lv co day w hy hev
theorem gLeft_w (ss : List Site) (rs : List Rest) (A R : Option Addr) (n c rn rc : Nat) (c0 c1 c2 : Int) (es : List Event) (L : Option Addr) (ln lc : Nat) (nm : ByteArray) (co : Int) (w : World) (hy : YardIn w ss rs A n c R rn rc) (hev : EventsIn w es L ln) :
    Calls Try.prog 36 #[.agg #[.slice A n c, .slice R rn rc, .int .i64 c0, .int .i64 c1, .int .i64 c2], .slice L ln lc, .string nm, .int .i64 co] w (Ret w (ret2 (leftW c0 c1 c2 ss rs es nm co))) := by
  rw [← leftR_w ss rs A R n c rn rc c0 c1 c2 es nm co]
  exact gLeft_any ss rs A R n c rn rc c0 c1 c2 es L ln lc nm co w hy hev

set_option maxRecDepth 100000 in
set_option maxHeartbeats 2000000 in
theorem graveFree_any (ss : List Site) (rs : List Rest) (A R : Option Addr) (n c rn rc : Nat) (c0 c1 c2 : Int) (es : List Event) (E : Option Addr) (en ec : Nat) (si : ByteArray) (lv co day : Int) (w : World) (hy : YardRaw w ss rs A n c R rn rc) (hev : EventsRaw w es E en) (hcap : es.length ≤ ec) :
    Calls Try.prog 6 #[.agg #[.slice A n c, .slice R rn rc, .int .i64 c0, .int .i64 c1, .int .i64 c2], .slice E en ec, .agg #[.string si, .int .i64 lv, .int .i64 co, .int .i64 day]] w (Ret w (.bool true)) := by
  have h1 := hy.hn
  have h2 := hy.hrn
  subst h1 h2
  go_enter Try.func6, Try.ntmps6
  cases hsm : smallP ss rs
  · go_wp2_with (first
                  | (go_at_call 12; refine (awake_any _).mono ?_; rintro e wq ⟨rfl, za, rfl⟩)
                  | (go_at_call 13; refine (small_any ss rs _ _ _ _ _ _ _ _ _ _ (hy.keep (m := w.heap.size) (by repeat (first | exact B_refl | exact Below.refl _ _ | assumption | with_reducible refine B_alloc ?_ _ | with_reducible refine B_ext ?_ _ | with_reducible refine B_drew ?_ | with_reducible refine B_drewN ?_ _ | with_reducible refine B_set ?_ (by simp; omega) _)))).mono ?_; rintro e wq ⟨rfl, zs, rfl⟩; rw [hsm])
                  | (go_at_call 19; refine (few_any es _ _ _ _ (hev.keep (m := w.heap.size) (by repeat (first | exact B_refl | exact Below.refl _ _ | assumption | with_reducible refine B_alloc ?_ _ | with_reducible refine B_ext ?_ _ | with_reducible refine B_drew ?_ | with_reducible refine B_drewN ?_ _ | with_reducible refine B_set ?_ (by simp; omega) _)))).mono ?_; rintro e wq ⟨rfl, zf, rfl⟩; rw [hfw]))
    go_ret
    exact Ret.of rfl (by repeat (first | exact B_refl | exact Below.refl _ _ | assumption | with_reducible refine B_alloc ?_ _ | with_reducible refine B_ext ?_ _ | with_reducible refine B_drew ?_ | with_reducible refine B_drewN ?_ _ | with_reducible refine B_set ?_ (by simp; omega) _))
  obtain ⟨hyi, hyl1, hyl2⟩ := small_yard hy hsm
  cases hfw : fewP es
  · go_wp2_with (first
                  | (go_at_call 12; refine (awake_any _).mono ?_; rintro e wq ⟨rfl, za, rfl⟩)
                  | (go_at_call 13; refine (small_any ss rs _ _ _ _ _ _ _ _ _ _ (hy.keep (m := w.heap.size) (by repeat (first | exact B_refl | exact Below.refl _ _ | assumption | with_reducible refine B_alloc ?_ _ | with_reducible refine B_ext ?_ _ | with_reducible refine B_drew ?_ | with_reducible refine B_drewN ?_ _ | with_reducible refine B_set ?_ (by simp; omega) _)))).mono ?_; rintro e wq ⟨rfl, zs, rfl⟩; rw [hsm])
                  | (go_at_call 19; refine (few_any es _ _ _ _ (hev.keep (m := w.heap.size) (by repeat (first | exact B_refl | exact Below.refl _ _ | assumption | with_reducible refine B_alloc ?_ _ | with_reducible refine B_ext ?_ _ | with_reducible refine B_drew ?_ | with_reducible refine B_drewN ?_ _ | with_reducible refine B_set ?_ (by simp; omega) _)))).mono ?_; rintro e wq ⟨rfl, zf, rfl⟩; rw [hfw]))
    go_ret
    exact Ret.of rfl (by repeat (first | exact B_refl | exact Below.refl _ _ | assumption | with_reducible refine B_alloc ?_ _ | with_reducible refine B_ext ?_ _ | with_reducible refine B_drew ?_ | with_reducible refine B_drewN ?_ _ | with_reducible refine B_set ?_ (by simp; omega) _))
  obtain ⟨hei, hel1, hel2⟩ := few_events hev hfw
  have hen := hei.hn
  subst hen
  by_cases hnl : 30 < (si.size : Int)
  · go_wp2_with (first
                  | (go_at_call 12; refine (awake_any _).mono ?_; rintro e wq ⟨rfl, za, rfl⟩)
                  | (go_at_call 13; refine (small_any ss rs _ _ _ _ _ _ _ _ _ _ (hy.keep (m := w.heap.size) (by repeat (first | exact B_refl | exact Below.refl _ _ | assumption | with_reducible refine B_alloc ?_ _ | with_reducible refine B_ext ?_ _ | with_reducible refine B_drew ?_ | with_reducible refine B_drewN ?_ _ | with_reducible refine B_set ?_ (by simp; omega) _)))).mono ?_; rintro e wq ⟨rfl, zs, rfl⟩; rw [hsm])
                  | (go_at_call 19; refine (few_any es _ _ _ _ (hev.keep (m := w.heap.size) (by repeat (first | exact B_refl | exact Below.refl _ _ | assumption | with_reducible refine B_alloc ?_ _ | with_reducible refine B_ext ?_ _ | with_reducible refine B_drew ?_ | with_reducible refine B_drewN ?_ _ | with_reducible refine B_set ?_ (by simp; omega) _)))).mono ?_; rintro e wq ⟨rfl, zf, rfl⟩; rw [hfw]))
    go_ret
    exact Ret.of rfl (by repeat (first | exact B_refl | exact Below.refl _ _ | assumption | with_reducible refine B_alloc ?_ _ | with_reducible refine B_ext ?_ _ | with_reducible refine B_drew ?_ | with_reducible refine B_drewN ?_ _ | with_reducible refine B_set ?_ (by simp; omega) _))
  have hc63 : ss.length ≤ 100000 := by omega
  have hc43 : rs.length ≤ 100000 := by omega
  have hel3 : es.length ≤ 100000 := by omega
  have HCAP := Lib.hid hcap
  clear hcap
  have HFR := fun A n c R rn rc E ec W h1 h2 => gFree_w ss rs A R n c rn rc c0 c1 c2 es E es.length ec co day W h1 h2
  have HFF := fun A n c R rn rc E ec W h1 h2 => gFirst_w ss rs A R n c rn rc c0 c1 c2 es E es.length ec si lv co day W h1 h2
  have HLF := fun A n c R rn rc E ec W h1 h2 => gLeft_w ss rs A R n c rn rc c0 c1 c2 es E es.length ec si co W h1 h2
  generalize hFL0 : freeW c0 c1 c2 ss rs es co day = p1 at HFR
  generalize hFF0 : firstW c0 c1 c2 ss rs es si lv co day = p2 at HFF
  generalize hLF0 : leftW c0 c1 c2 ss rs es si co = p3 at HLF
  have hFL := Lib.hid hFL0
  have hFF := Lib.hid hFF0
  have hLF := Lib.hid hLF0
  clear hFL0 hFF0 hLF0
  obtain ⟨fl, fe⟩ := p1
  obtain ⟨n0, f0⟩ := p2
  obtain ⟨m0, e0⟩ := p3
  go_wp2_with (first
                | (go_at_call 12; refine (awake_any _).mono ?_; rintro e wq ⟨rfl, za, rfl⟩)
                | (go_at_call 13; refine (small_any ss rs _ _ _ _ _ _ _ _ _ _ (hy.keep (m := w.heap.size) (by repeat (first | exact B_refl | exact Below.refl _ _ | assumption | with_reducible refine B_alloc ?_ _ | with_reducible refine B_ext ?_ _ | with_reducible refine B_drew ?_ | with_reducible refine B_drewN ?_ _ | with_reducible refine B_set ?_ (by simp; omega) _)))).mono ?_; rintro e wq ⟨rfl, zs, rfl⟩; rw [hsm])
                | (go_at_call 19; refine (few_any es _ _ _ _ (hev.keep (m := w.heap.size) (by repeat (first | exact B_refl | exact Below.refl _ _ | assumption | with_reducible refine B_alloc ?_ _ | with_reducible refine B_ext ?_ _ | with_reducible refine B_drew ?_ | with_reducible refine B_drewN ?_ _ | with_reducible refine B_set ?_ (by simp; omega) _)))).mono ?_; rintro e wq ⟨rfl, zf, rfl⟩; rw [hfw]))
  generalize hW0 : World.ext (World.ext (World.ext ((w.alloc (.cells #[.slice A ss.length c, .slice R rs.length rc, .int .i64 c0, .int .i64 c1, .int .i64 c2] 26)).alloc (.cells #[.string si, .int .i64 lv, .int .i64 co, .int .i64 day] 66)) za) zs) zf = W0
  have hB : Below w.heap.size w W0 := by rw [← hW0]; repeat (first | exact B_refl | exact Below.refl _ _ | assumption | with_reducible refine B_alloc ?_ _ | with_reducible refine B_ext ?_ _ | with_reducible refine B_drew ?_ | with_reducible refine B_drewN ?_ _ | with_reducible refine B_set ?_ (by simp; omega) _)
  have hblk : W0.heap[w.heap.size]? = some (.cells #[.slice A ss.length c, .slice R rs.length rc, .int .i64 c0, .int .i64 c1, .int .i64 c2] 26) := by rw [← hW0]; (repeat (first | with_reducible exact G_new _ _ _ (by simp) | with_reducible exact G_new _ _ _ (by simp [ext_size]) | with_reducible refine G_drew ?_ | with_reducible refine G_ext ?_ | with_reducible refine G_alloc ?_))
  have hblk1 : W0.heap[w.heap.size + 1]? = some (.cells #[.string si, .int .i64 lv, .int .i64 co, .int .i64 day] 66) := by rw [← hW0]; (repeat (first | with_reducible exact G_new _ _ _ (by simp) | with_reducible exact G_new _ _ _ (by simp [ext_size]) | with_reducible refine G_drew ?_ | with_reducible refine G_ext ?_ | with_reducible refine G_alloc ?_))
  have hz := blk_lt hblk
  have hz1 := blk_lt hblk1
  have g0 : W0.cell? ⟨w.heap.size, 0, none⟩ = some (.slice A ss.length c) := by simp [World.cell?, hblk]
  have g1 : W0.cell? ⟨w.heap.size, 1, none⟩ = some (.slice R rs.length rc) := by simp [World.cell?, hblk]
  have g2 : W0.cell? ⟨w.heap.size, 2, none⟩ = some (.int .i64 c0) := by simp [World.cell?, hblk]
  have g3 : W0.cell? ⟨w.heap.size, 3, none⟩ = some (.int .i64 c1) := by simp [World.cell?, hblk]
  have g4 : W0.cell? ⟨w.heap.size, 4, none⟩ = some (.int .i64 c2) := by simp [World.cell?, hblk]
  have g5 : W0.cell? ⟨w.heap.size + 1, 0, none⟩ = some (.string si) := by simp [World.cell?, hblk1]
  have g6 : W0.cell? ⟨w.heap.size + 1, 1, none⟩ = some (.int .i64 lv) := by simp [World.cell?, hblk1]
  have g7 : W0.cell? ⟨w.heap.size + 1, 2, none⟩ = some (.int .i64 co) := by simp [World.cell?, hblk1]
  have g8 : W0.cell? ⟨w.heap.size + 1, 3, none⟩ = some (.int .i64 day) := by simp [World.cell?, hblk1]
  clear hW0 hblk hblk1 hsm hfw hy hev hnl
  go_region_held3 (fun w' => w'.cell? ⟨w.heap.size, 0, none⟩ = some (.slice A ss.length c) ∧ w'.cell? ⟨w.heap.size, 1, none⟩ = some (.slice R rs.length rc) ∧ w'.cell? ⟨w.heap.size, 2, none⟩ = some (.int .i64 c0) ∧ w'.cell? ⟨w.heap.size, 3, none⟩ = some (.int .i64 c1) ∧ w'.cell? ⟨w.heap.size, 4, none⟩ = some (.int .i64 c2) ∧ w'.cell? ⟨w.heap.size + 1, 0, none⟩ = some (.string si) ∧ w'.cell? ⟨w.heap.size + 1, 1, none⟩ = some (.int .i64 lv) ∧ w'.cell? ⟨w.heap.size + 1, 2, none⟩ = some (.int .i64 co) ∧ w'.cell? ⟨w.heap.size + 1, 3, none⟩ = some (.int .i64 day))
                    ((refine ⟨cell_kept hz g0 ?_, cell_kept hz g1 ?_, cell_kept hz g2 ?_, cell_kept hz g3 ?_, cell_kept hz g4 ?_, cell_kept hz1 g5 ?_, cell_kept hz1 g6 ?_, cell_kept hz1 g7 ?_, cell_kept hz1 g8 ?_⟩ <;> ((repeat (first | exact B_refl | exact Below.refl _ _ | assumption | with_reducible refine B_alloc ?_ _ | with_reducible refine B_ext ?_ _ | with_reducible refine B_drew ?_ | with_reducible refine B_drewN ?_ _ | with_reducible refine B_set ?_ (by simp; omega) _)); done)))
    (first
      | (go_at_call 17; refine (copyYard_any ss rs _ _ _ _ _ _ _ _ _ _ (hyi.keep (m := w.heap.size) ?q1)).mono ?_
         case q1 => repeat (first | exact B_refl | exact Below.refl _ _ | assumption | with_reducible refine B_alloc ?_ _ | with_reducible refine B_ext ?_ _ | with_reducible refine B_drew ?_ | with_reducible refine B_drewN ?_ _ | with_reducible refine B_set ?_ (by simp; omega) _)
         intro e wq hq; obtain ⟨A2, k2, R2, r2, rfl, hy2, zc1, rfl⟩ := hq.form hc63 hc43 hyi.sh; clear hq)
      | (go_at_call 34; refine (copyEvents_any es E es.length ec _ (hei.keep (m := w.heap.size) ?q1)).mono ?_
         case q1 => repeat (first | exact B_refl | exact Below.refl _ _ | assumption | with_reducible refine B_alloc ?_ _ | with_reducible refine B_ext ?_ _ | with_reducible refine B_drew ?_ | with_reducible refine B_drewN ?_ _ | with_reducible refine B_set ?_ (by simp; omega) _)
         intro e wq hq; obtain ⟨E2, k3, ze1, rfl, rfl, he2⟩ := hq.form hel3 hei.sh; clear hq)
      | (go_at_call 33; refine (HFR _ _ _ _ _ _ _ _ _ (hy2.keep ?q1) (he2.keep ?q2)).mono ?_
         case q1 => repeat (first | exact B_refl | exact Below.refl _ _ | assumption | with_reducible refine B_alloc ?_ _ | with_reducible refine B_ext ?_ _ | with_reducible refine B_drew ?_ | with_reducible refine B_drewN ?_ _ | with_reducible refine B_set ?_ (by simp; omega) _)
         case q2 => repeat (first | exact B_refl | exact Below.refl _ _ | assumption | with_reducible refine B_alloc ?_ _ | with_reducible refine B_ext ?_ _ | with_reducible refine B_drew ?_ | with_reducible refine B_drewN ?_ _ | with_reducible refine B_set ?_ (by simp; omega) _)
         rintro e wq ⟨v, rfl, hown1, zd1, rfl⟩
         dsimp only at hown1
         obtain ⟨F, fc, rfl, hSF, _⟩ := own_sl berth_len hown1
         clear hown1))
  go_wp2_with fail
  go_region_held3 (fun w' => w'.cell? ⟨w.heap.size, 0, none⟩ = some (.slice A ss.length c) ∧ w'.cell? ⟨w.heap.size, 1, none⟩ = some (.slice R rs.length rc) ∧ w'.cell? ⟨w.heap.size, 2, none⟩ = some (.int .i64 c0) ∧ w'.cell? ⟨w.heap.size, 3, none⟩ = some (.int .i64 c1) ∧ w'.cell? ⟨w.heap.size, 4, none⟩ = some (.int .i64 c2) ∧ w'.cell? ⟨w.heap.size + 1, 0, none⟩ = some (.string si) ∧ w'.cell? ⟨w.heap.size + 1, 1, none⟩ = some (.int .i64 lv) ∧ w'.cell? ⟨w.heap.size + 1, 2, none⟩ = some (.int .i64 co) ∧ w'.cell? ⟨w.heap.size + 1, 3, none⟩ = some (.int .i64 day))
                    ((refine ⟨cell_kept hz g0 ?_, cell_kept hz g1 ?_, cell_kept hz g2 ?_, cell_kept hz g3 ?_, cell_kept hz g4 ?_, cell_kept hz1 g5 ?_, cell_kept hz1 g6 ?_, cell_kept hz1 g7 ?_, cell_kept hz1 g8 ?_⟩ <;> ((repeat (first | exact B_refl | exact Below.refl _ _ | assumption | with_reducible refine B_alloc ?_ _ | with_reducible refine B_ext ?_ _ | with_reducible refine B_drew ?_ | with_reducible refine B_drewN ?_ _ | with_reducible refine B_set ?_ (by simp; omega) _)); done)))
    (first
      | (go_at_call 17; refine (copyYard_any ss rs _ _ _ _ _ _ _ _ _ _ (hyi.keep (m := w.heap.size) ?q1)).mono ?_
         case q1 => repeat (first | exact B_refl | exact Below.refl _ _ | assumption | with_reducible refine B_alloc ?_ _ | with_reducible refine B_ext ?_ _ | with_reducible refine B_drew ?_ | with_reducible refine B_drewN ?_ _ | with_reducible refine B_set ?_ (by simp; omega) _)
         intro e wq hq; obtain ⟨A2, k2, R2, r2, rfl, hy2, zc2, rfl⟩ := hq.form hc63 hc43 hyi.sh; clear hq)
      | (go_at_call 34; refine (copyEvents_any es E es.length ec _ (hei.keep (m := w.heap.size) ?q1)).mono ?_
         case q1 => repeat (first | exact B_refl | exact Below.refl _ _ | assumption | with_reducible refine B_alloc ?_ _ | with_reducible refine B_ext ?_ _ | with_reducible refine B_drew ?_ | with_reducible refine B_drewN ?_ _ | with_reducible refine B_set ?_ (by simp; omega) _)
         intro e wq hq; obtain ⟨E2, k3, ze2, rfl, rfl, he2⟩ := hq.form hel3 hei.sh; clear hq)
      | (go_at_call 35; refine (HFF _ _ _ _ _ _ _ _ _ (hy2.keep ?q1) (he2.keep ?q2)).mono ?_
         case q1 => repeat (first | exact B_refl | exact Below.refl _ _ | assumption | with_reducible refine B_alloc ?_ _ | with_reducible refine B_ext ?_ _ | with_reducible refine B_drew ?_ | with_reducible refine B_drewN ?_ _ | with_reducible refine B_set ?_ (by simp; omega) _)
         case q2 => repeat (first | exact B_refl | exact Below.refl _ _ | assumption | with_reducible refine B_alloc ?_ _ | with_reducible refine B_ext ?_ _ | with_reducible refine B_drew ?_ | with_reducible refine B_drewN ?_ _ | with_reducible refine B_set ?_ (by simp; omega) _)
         rintro e wq ⟨rfl, zd2, rfl⟩
         unfold ret2))
  go_wp2_with fail
  go_region_held3 (fun w' => w'.cell? ⟨w.heap.size, 0, none⟩ = some (.slice A ss.length c) ∧ w'.cell? ⟨w.heap.size, 1, none⟩ = some (.slice R rs.length rc) ∧ w'.cell? ⟨w.heap.size, 2, none⟩ = some (.int .i64 c0) ∧ w'.cell? ⟨w.heap.size, 3, none⟩ = some (.int .i64 c1) ∧ w'.cell? ⟨w.heap.size, 4, none⟩ = some (.int .i64 c2) ∧ w'.cell? ⟨w.heap.size + 1, 0, none⟩ = some (.string si) ∧ w'.cell? ⟨w.heap.size + 1, 1, none⟩ = some (.int .i64 lv) ∧ w'.cell? ⟨w.heap.size + 1, 2, none⟩ = some (.int .i64 co) ∧ w'.cell? ⟨w.heap.size + 1, 3, none⟩ = some (.int .i64 day))
                    ((refine ⟨cell_kept hz g0 ?_, cell_kept hz g1 ?_, cell_kept hz g2 ?_, cell_kept hz g3 ?_, cell_kept hz g4 ?_, cell_kept hz1 g5 ?_, cell_kept hz1 g6 ?_, cell_kept hz1 g7 ?_, cell_kept hz1 g8 ?_⟩ <;> ((repeat (first | exact B_refl | exact Below.refl _ _ | assumption | with_reducible refine B_alloc ?_ _ | with_reducible refine B_ext ?_ _ | with_reducible refine B_drew ?_ | with_reducible refine B_drewN ?_ _ | with_reducible refine B_set ?_ (by simp; omega) _)); done)))
    (first
      | (go_at_call 17; refine (copyYard_any ss rs _ _ _ _ _ _ _ _ _ _ (hyi.keep (m := w.heap.size) ?q1)).mono ?_
         case q1 => repeat (first | exact B_refl | exact Below.refl _ _ | assumption | with_reducible refine B_alloc ?_ _ | with_reducible refine B_ext ?_ _ | with_reducible refine B_drew ?_ | with_reducible refine B_drewN ?_ _ | with_reducible refine B_set ?_ (by simp; omega) _)
         intro e wq hq; obtain ⟨A2, k2, R2, r2, rfl, hy2, zc3, rfl⟩ := hq.form hc63 hc43 hyi.sh; clear hq)
      | (go_at_call 34; refine (copyEvents_any es E es.length ec _ (hei.keep (m := w.heap.size) ?q1)).mono ?_
         case q1 => repeat (first | exact B_refl | exact Below.refl _ _ | assumption | with_reducible refine B_alloc ?_ _ | with_reducible refine B_ext ?_ _ | with_reducible refine B_drew ?_ | with_reducible refine B_drewN ?_ _ | with_reducible refine B_set ?_ (by simp; omega) _)
         intro e wq hq; obtain ⟨E2, k3, ze3, rfl, rfl, he2⟩ := hq.form hel3 hei.sh; clear hq)
      | (go_at_call 36; refine (HLF _ _ _ _ _ _ _ _ _ (hy2.keep ?q1) (he2.keep ?q2)).mono ?_
         case q1 => repeat (first | exact B_refl | exact Below.refl _ _ | assumption | with_reducible refine B_alloc ?_ _ | with_reducible refine B_ext ?_ _ | with_reducible refine B_drew ?_ | with_reducible refine B_drewN ?_ _ | with_reducible refine B_set ?_ (by simp; omega) _)
         case q2 => repeat (first | exact B_refl | exact Below.refl _ _ | assumption | with_reducible refine B_alloc ?_ _ | with_reducible refine B_ext ?_ _ | with_reducible refine B_drew ?_ | with_reducible refine B_drewN ?_ _ | with_reducible refine B_set ?_ (by simp; omega) _)
         rintro e wq ⟨rfl, zd3, rfl⟩
         unfold ret2))
  generalize hW1 : World.ext (World.ext (World.ext (World.drew (World.ext (World.ext (World.ext (World.drew (World.ext (World.ext (World.ext (World.drew W0) zc1) ze1) zd1)) zc2) ze2) zd2)) zc3) ze3) zd3 = W1
  have hB1 : Below w.heap.size w W1 := by rw [← hW1]; repeat (first | exact B_refl | exact Below.refl _ _ | assumption | with_reducible refine B_alloc ?_ _ | with_reducible refine B_ext ?_ _ | with_reducible refine B_drew ?_ | with_reducible refine B_drewN ?_ _ | with_reducible refine B_set ?_ (by simp; omega) _)
  have hB01 : Below W0.heap.size W0 W1 := by rw [← hW1]; repeat (first | exact B_refl | exact Below.refl _ _ | assumption | with_reducible refine B_alloc ?_ _ | with_reducible refine B_ext ?_ _ | with_reducible refine B_drew ?_ | with_reducible refine B_drewN ?_ _ | with_reducible refine B_set ?_ (by simp; omega) _)
  have hSF1 : Sl W1 2 Berth.cells F fl := hSF.keep (by rw [← hW1]; repeat (first | exact B_refl | exact Below.refl _ _ | assumption | with_reducible refine B_alloc ?_ _ | with_reducible refine B_ext ?_ _ | with_reducible refine B_drew ?_ | with_reducible refine B_drewN ?_ _ | with_reducible refine B_set ?_ (by simp; omega) _)) (Nat.le_refl _)
  have k0 := cell_kept hz g0 hB01
  have k1 := cell_kept hz g1 hB01
  have k2 := cell_kept hz g2 hB01
  have k3 := cell_kept hz g3 hB01
  have k4 := cell_kept hz g4 hB01
  have k5 := cell_kept hz1 g5 hB01
  have k6 := cell_kept hz1 g6 hB01
  have k7 := cell_kept hz1 g7 hB01
  have k8 := cell_kept hz1 g8 hB01
  have j0 : w.heap.size < W1.heap.size := Nat.lt_of_lt_of_le hz hB01.size
  have j1 : w.heap.size + 1 < W1.heap.size := Nat.lt_of_lt_of_le hz1 hB01.size
  clear hW1 hB01 g0 g1 g2 g3 g4 g5 g6 g7 g8 hz hz1 hB hSF HFR HFF HLF
  replace hFL := hFL.out
  replace hFF := hFF.out
  replace hLF := hLF.out
  unfold freeW at hFL
  unfold firstW at hFF
  unfold leftW at hLF
  obtain ⟨X, hX⟩ : ∃ X, rCheckP c0 c1 c2 ss rs es = X := ⟨_, rfl⟩
  have HCK := Lib.hid hX
  rw [hX] at hFL hFF hLF
  cases hX0 : (X != 0)
  rotate_left
  · rw [if_pos hX0] at hFL hFF hLF
    obtain ⟨rfl, rfl⟩ := Prod.mk.inj hFL
    obtain ⟨rfl, rfl⟩ := Prod.mk.inj hFF
    obtain ⟨rfl, rfl⟩ := Prod.mk.inj hLF
    clear hX hFL hFF hLF
    go_wp2_with (first
                  | (go_at_call 20; refine (rCheck_any ss rs _ _ _ _ _ _ _ _ _ es _ _ _ _ (hyi.keep (m := w.heap.size) (by repeat (first | exact B_refl | exact Below.refl _ _ | assumption | with_reducible refine B_alloc ?_ _ | with_reducible refine B_ext ?_ _ | with_reducible refine B_drew ?_ | with_reducible refine B_drewN ?_ _ | with_reducible refine B_set ?_ (by simp; omega) _))) (hei.keep (m := w.heap.size) (by repeat (first | exact B_refl | exact Below.refl _ _ | assumption | with_reducible refine B_alloc ?_ _ | with_reducible refine B_ext ?_ _ | with_reducible refine B_drew ?_ | with_reducible refine B_drewN ?_ _ | with_reducible refine B_set ?_ (by simp; omega) _)))).mono ?_; rintro e wq ⟨rfl, zk, rfl⟩; rw [HCK.out])
                  | (go_at_call 27; refine (rSite_any ss rs _ _ _ _ _ _ _ _ _ _ _ (hyi.keep (m := w.heap.size) (by repeat (first | exact B_refl | exact Below.refl _ _ | assumption | with_reducible refine B_alloc ?_ _ | with_reducible refine B_ext ?_ _ | with_reducible refine B_drew ?_ | with_reducible refine B_drewN ?_ _ | with_reducible refine B_set ?_ (by simp; omega) _)))).mono ?_; rintro e wq ⟨rfl, zt, rfl⟩; rw [hsi])
                  | (go_at_call 28; refine (rIsContainer_any _ _).mono ?_; rintro e wq ⟨rfl, rfl⟩; rw [hgc])
                  | (go_at_call 21; refine (rIsDay_any _ _).mono ?_; rintro e wq ⟨rfl, rfl⟩; rw [hgd])
                  | (go_at_call 29; refine (bwithin_any _ _ _ _).mono ?_; rintro e wq ⟨rfl, rfl⟩; rw [hgl])
                  | (go_at_call 38; refine (HRF _ (hyi.keep (m := w.heap.size) (by repeat (first | exact B_refl | exact Below.refl _ _ | assumption | with_reducible refine B_alloc ?_ _ | with_reducible refine B_ext ?_ _ | with_reducible refine B_drew ?_ | with_reducible refine B_drewN ?_ _ | with_reducible refine B_set ?_ (by simp; omega) _))) (hei.keep (m := w.heap.size) (by repeat (first | exact B_refl | exact Below.refl _ _ | assumption | with_reducible refine B_alloc ?_ _ | with_reducible refine B_ext ?_ _ | with_reducible refine B_drew ?_ | with_reducible refine B_drewN ?_ _ | with_reducible refine B_set ?_ (by simp; omega) _)))).mono ?_; rintro e wq ⟨v, rfl, hown2, zr, rfl⟩; obtain ⟨F2, fc2, rfl, hSF2, _⟩ := own_sl berth_len hown2; clear hown2)
                  | (go_at_call 37; refine (sameBerths_any fr _ _ _ _ _ (hSF1.keep (n := W1.heap.size) (by repeat (first | exact B_refl | exact Below.refl _ _ | assumption | with_reducible refine B_alloc ?_ _ | with_reducible refine B_ext ?_ _ | with_reducible refine B_drew ?_ | with_reducible refine B_drewN ?_ _ | with_reducible refine B_set ?_ (by simp; omega) _))) hSF2 hfl).mono ?_; rintro e wq ⟨rfl, zu, rfl⟩)
                  | (go_at_call 39; refine (HRFF _ (hyi.keep (m := w.heap.size) (by repeat (first | exact B_refl | exact Below.refl _ _ | assumption | with_reducible refine B_alloc ?_ _ | with_reducible refine B_ext ?_ _ | with_reducible refine B_drew ?_ | with_reducible refine B_drewN ?_ _ | with_reducible refine B_set ?_ (by simp; omega) _))) (hei.keep (m := w.heap.size) (by repeat (first | exact B_refl | exact Below.refl _ _ | assumption | with_reducible refine B_alloc ?_ _ | with_reducible refine B_ext ?_ _ | with_reducible refine B_drew ?_ | with_reducible refine B_drewN ?_ _ | with_reducible refine B_set ?_ (by simp; omega) _)))).mono ?_; rintro e wq ⟨rfl, zq, rfl⟩)
                  | (go_at_call 40; refine (HRL _ (hyi.keep (m := w.heap.size) (by repeat (first | exact B_refl | exact Below.refl _ _ | assumption | with_reducible refine B_alloc ?_ _ | with_reducible refine B_ext ?_ _ | with_reducible refine B_drew ?_ | with_reducible refine B_drewN ?_ _ | with_reducible refine B_set ?_ (by simp; omega) _))) (hei.keep (m := w.heap.size) (by repeat (first | exact B_refl | exact Below.refl _ _ | assumption | with_reducible refine B_alloc ?_ _ | with_reducible refine B_ext ?_ _ | with_reducible refine B_drew ?_ | with_reducible refine B_drewN ?_ _ | with_reducible refine B_set ?_ (by simp; omega) _)))).mono ?_; rintro e wq ⟨rfl, zq, rfl⟩))
    go_ret
    exact Ret.of rfl (by repeat (first | exact B_refl | exact Below.refl _ _ | assumption | with_reducible refine B_alloc ?_ _ | with_reducible refine B_ext ?_ _ | with_reducible refine B_drew ?_ | with_reducible refine B_drewN ?_ _ | with_reducible refine B_set ?_ (by simp; omega) _))
  have hX1 : X = 0 := by simpa using hX0
  subst hX1
  rw [if_neg (by simp)] at hFL hFF hLF
  obtain ⟨_, _, _, _, h5, hes⟩ := (read_check ss rs A R ss.length c rs.length rc c0 c1 c2 es).2 hX
  have hs60 : ss.length ≤ 60 := (readP_small (k := bk0 A ss.length c R rs.length rc c0 c1 c2) (es := es) (ss := ss) (rs := rs) (by rw [(read_check ss rs A R ss.length c rs.length rc c0 c1 c2 es).1]; exact hX)).1
  have hrooms := yard_rooms h5
  have HRF0 := fun h3 h4 W h1 h2 => rFree_any ss rs A R ss.length c rs.length rc c0 c1 c2 es E es.length ec co day W h1 h2 HCAP.out hrooms hs60 hes h3 h4
  have HRFF0 := fun h3 h4 W h1 h2 => rFirst_any ss rs A R ss.length c rs.length rc c0 c1 c2 es E es.length ec si lv co day W h1 h2 HCAP.out hrooms hs60 hes h3 h4
  have hfl : (rFreeP c0 c1 c2 ss (rReplayP c0 c1 c2 ss rs (upToE day es)).1 co).length ≤ 100000 := by
    have := flat_le (f := rFreeS c0 c1 c2 ss (rReplayP c0 c1 c2 ss rs (upToE day es)).1 co) (n := 12) (l := ss) fun s hs => rFreeS_len (hrooms s hs)
    unfold rFreeP
    omega
  generalize rFreeP c0 c1 c2 ss (rReplayP c0 c1 c2 ss rs (upToE day es)).1 co = fr at *
  generalize rFirstP fr si lv = Y at *
  clear hX HCAP
  cases hgc : inR co 0 2
  · clear HRF0 HRFF0
    cases hf : findSite si ss with
    | none =>
      have hsi : rSiteR si ss = -1 := by rw [rSiteR, siteIdx_none hf]
      rw [hf] at hFF hLF
      simp [hgc] at hFL hFF hLF
      obtain ⟨rfl, rfl⟩ := hFL
      obtain ⟨rfl, rfl⟩ := hFF
      obtain ⟨rfl, rfl⟩ := hLF
      clear hf h5
      go_wp2_with (first
                    | (go_at_call 20; refine (rCheck_any ss rs _ _ _ _ _ _ _ _ _ es _ _ _ _ (hyi.keep (m := w.heap.size) (by repeat (first | exact B_refl | exact Below.refl _ _ | assumption | with_reducible refine B_alloc ?_ _ | with_reducible refine B_ext ?_ _ | with_reducible refine B_drew ?_ | with_reducible refine B_drewN ?_ _ | with_reducible refine B_set ?_ (by simp; omega) _))) (hei.keep (m := w.heap.size) (by repeat (first | exact B_refl | exact Below.refl _ _ | assumption | with_reducible refine B_alloc ?_ _ | with_reducible refine B_ext ?_ _ | with_reducible refine B_drew ?_ | with_reducible refine B_drewN ?_ _ | with_reducible refine B_set ?_ (by simp; omega) _)))).mono ?_; rintro e wq ⟨rfl, zk, rfl⟩; rw [HCK.out])
                    | (go_at_call 27; refine (rSite_any ss rs _ _ _ _ _ _ _ _ _ _ _ (hyi.keep (m := w.heap.size) (by repeat (first | exact B_refl | exact Below.refl _ _ | assumption | with_reducible refine B_alloc ?_ _ | with_reducible refine B_ext ?_ _ | with_reducible refine B_drew ?_ | with_reducible refine B_drewN ?_ _ | with_reducible refine B_set ?_ (by simp; omega) _)))).mono ?_; rintro e wq ⟨rfl, zt, rfl⟩; rw [hsi])
                    | (go_at_call 28; refine (rIsContainer_any _ _).mono ?_; rintro e wq ⟨rfl, rfl⟩; rw [hgc])
                    | (go_at_call 21; refine (rIsDay_any _ _).mono ?_; rintro e wq ⟨rfl, rfl⟩; rw [hgd])
                    | (go_at_call 29; refine (bwithin_any _ _ _ _).mono ?_; rintro e wq ⟨rfl, rfl⟩; rw [hgl])
                    | (go_at_call 38; refine (HRF _ (hyi.keep (m := w.heap.size) (by repeat (first | exact B_refl | exact Below.refl _ _ | assumption | with_reducible refine B_alloc ?_ _ | with_reducible refine B_ext ?_ _ | with_reducible refine B_drew ?_ | with_reducible refine B_drewN ?_ _ | with_reducible refine B_set ?_ (by simp; omega) _))) (hei.keep (m := w.heap.size) (by repeat (first | exact B_refl | exact Below.refl _ _ | assumption | with_reducible refine B_alloc ?_ _ | with_reducible refine B_ext ?_ _ | with_reducible refine B_drew ?_ | with_reducible refine B_drewN ?_ _ | with_reducible refine B_set ?_ (by simp; omega) _)))).mono ?_; rintro e wq ⟨v, rfl, hown2, zr, rfl⟩; obtain ⟨F2, fc2, rfl, hSF2, _⟩ := own_sl berth_len hown2; clear hown2)
                    | (go_at_call 37; refine (sameBerths_any fr _ _ _ _ _ (hSF1.keep (n := W1.heap.size) (by repeat (first | exact B_refl | exact Below.refl _ _ | assumption | with_reducible refine B_alloc ?_ _ | with_reducible refine B_ext ?_ _ | with_reducible refine B_drew ?_ | with_reducible refine B_drewN ?_ _ | with_reducible refine B_set ?_ (by simp; omega) _))) hSF2 hfl).mono ?_; rintro e wq ⟨rfl, zu, rfl⟩)
                    | (go_at_call 39; refine (HRFF _ (hyi.keep (m := w.heap.size) (by repeat (first | exact B_refl | exact Below.refl _ _ | assumption | with_reducible refine B_alloc ?_ _ | with_reducible refine B_ext ?_ _ | with_reducible refine B_drew ?_ | with_reducible refine B_drewN ?_ _ | with_reducible refine B_set ?_ (by simp; omega) _))) (hei.keep (m := w.heap.size) (by repeat (first | exact B_refl | exact Below.refl _ _ | assumption | with_reducible refine B_alloc ?_ _ | with_reducible refine B_ext ?_ _ | with_reducible refine B_drew ?_ | with_reducible refine B_drewN ?_ _ | with_reducible refine B_set ?_ (by simp; omega) _)))).mono ?_; rintro e wq ⟨rfl, zq, rfl⟩)
                    | (go_at_call 40; refine (HRL _ (hyi.keep (m := w.heap.size) (by repeat (first | exact B_refl | exact Below.refl _ _ | assumption | with_reducible refine B_alloc ?_ _ | with_reducible refine B_ext ?_ _ | with_reducible refine B_drew ?_ | with_reducible refine B_drewN ?_ _ | with_reducible refine B_set ?_ (by simp; omega) _))) (hei.keep (m := w.heap.size) (by repeat (first | exact B_refl | exact Below.refl _ _ | assumption | with_reducible refine B_alloc ?_ _ | with_reducible refine B_ext ?_ _ | with_reducible refine B_drew ?_ | with_reducible refine B_drewN ?_ _ | with_reducible refine B_set ?_ (by simp; omega) _)))).mono ?_; rintro e wq ⟨rfl, zq, rfl⟩))
      go_ret
      exact Ret.of rfl (by repeat (first | exact B_refl | exact Below.refl _ _ | assumption | with_reducible refine B_alloc ?_ _ | with_reducible refine B_ext ?_ _ | with_reducible refine B_drew ?_ | with_reducible refine B_drewN ?_ _ | with_reducible refine B_set ?_ (by simp; omega) _))
    | some s =>
      rw [hf] at hFF hLF
      obtain ⟨i, hik, hgk⟩ := siteIdx_some hf
      have hsi : rSiteR si ss = (i : Int) := by rw [rSiteR, hik]
      obtain ⟨hlt, hse⟩ := List.getElem?_eq_some_iff.1 hgk
      have hgood := yard_room h5 s (findSite_mem hf)
      obtain ⟨hr1, hr2, _⟩ := checkSite_room hgood
      obtain ⟨b, off, rfl, hb, hcl⟩ := (hyi.sl.keep (n := w.heap.size) hB1).at hlt
      rw [hse] at hcl
      have x0 : W1.cell? ⟨b, off + i * 6, none⟩ = some (.string s.name) := hcl 0 _ rfl
      have x1 : W1.cell? ⟨b, off + i * 6 + 1, none⟩ = some (.int .i64 s.kind) := hcl 1 _ rfl
      have x2 : W1.cell? ⟨b, off + i * 6 + 2, none⟩ = some (.int .i64 s.soil) := hcl 2 _ rfl
      have x3 : W1.cell? ⟨b, off + i * 6 + 3, none⟩ = some (.int .i64 s.depth) := hcl 3 _ rfl
      have x4 : W1.cell? ⟨b, off + i * 6 + 4, none⟩ = some (.int .i64 s.step) := hcl 4 _ rfl
      have x5 : W1.cell? ⟨b, off + i * 6 + 5, none⟩ = some (.int .i64 s.room) := hcl 5 _ rfl
      have hlt2 : (i : Int) < (ss.length : Int) := by omega
      have hi0 : ¬ ((i : Int) < 0) := by omega
      clear hik hgk hse hcl hf hgood h5
      obtain ⟨a, k, so, d, st, r⟩ := s
      dsimp only at x0 x1 x2 x3 x4 x5 hr1 hr2 hFF hLF
      cases hgl : inR lv 0 (r - 1)
      · simp [hgc] at hFL hFF hLF
        obtain ⟨rfl, rfl⟩ := hFL
        obtain ⟨rfl, rfl⟩ := hFF
        obtain ⟨rfl, rfl⟩ := hLF
        go_wp2_with (first
                      | (go_at_call 20; refine (rCheck_any ss rs _ _ _ _ _ _ _ _ _ es _ _ _ _ (hyi.keep (m := w.heap.size) (by repeat (first | exact B_refl | exact Below.refl _ _ | assumption | with_reducible refine B_alloc ?_ _ | with_reducible refine B_ext ?_ _ | with_reducible refine B_drew ?_ | with_reducible refine B_drewN ?_ _ | with_reducible refine B_set ?_ (by simp; omega) _))) (hei.keep (m := w.heap.size) (by repeat (first | exact B_refl | exact Below.refl _ _ | assumption | with_reducible refine B_alloc ?_ _ | with_reducible refine B_ext ?_ _ | with_reducible refine B_drew ?_ | with_reducible refine B_drewN ?_ _ | with_reducible refine B_set ?_ (by simp; omega) _)))).mono ?_; rintro e wq ⟨rfl, zk, rfl⟩; rw [HCK.out])
                      | (go_at_call 27; refine (rSite_any ss rs _ _ _ _ _ _ _ _ _ _ _ (hyi.keep (m := w.heap.size) (by repeat (first | exact B_refl | exact Below.refl _ _ | assumption | with_reducible refine B_alloc ?_ _ | with_reducible refine B_ext ?_ _ | with_reducible refine B_drew ?_ | with_reducible refine B_drewN ?_ _ | with_reducible refine B_set ?_ (by simp; omega) _)))).mono ?_; rintro e wq ⟨rfl, zt, rfl⟩; rw [hsi])
                      | (go_at_call 28; refine (rIsContainer_any _ _).mono ?_; rintro e wq ⟨rfl, rfl⟩; rw [hgc])
                      | (go_at_call 21; refine (rIsDay_any _ _).mono ?_; rintro e wq ⟨rfl, rfl⟩; rw [hgd])
                      | (go_at_call 29; refine (bwithin_any _ _ _ _).mono ?_; rintro e wq ⟨rfl, rfl⟩; rw [hgl])
                      | (go_at_call 38; refine (HRF _ (hyi.keep (m := w.heap.size) (by repeat (first | exact B_refl | exact Below.refl _ _ | assumption | with_reducible refine B_alloc ?_ _ | with_reducible refine B_ext ?_ _ | with_reducible refine B_drew ?_ | with_reducible refine B_drewN ?_ _ | with_reducible refine B_set ?_ (by simp; omega) _))) (hei.keep (m := w.heap.size) (by repeat (first | exact B_refl | exact Below.refl _ _ | assumption | with_reducible refine B_alloc ?_ _ | with_reducible refine B_ext ?_ _ | with_reducible refine B_drew ?_ | with_reducible refine B_drewN ?_ _ | with_reducible refine B_set ?_ (by simp; omega) _)))).mono ?_; rintro e wq ⟨v, rfl, hown2, zr, rfl⟩; obtain ⟨F2, fc2, rfl, hSF2, _⟩ := own_sl berth_len hown2; clear hown2)
                      | (go_at_call 37; refine (sameBerths_any fr _ _ _ _ _ (hSF1.keep (n := W1.heap.size) (by repeat (first | exact B_refl | exact Below.refl _ _ | assumption | with_reducible refine B_alloc ?_ _ | with_reducible refine B_ext ?_ _ | with_reducible refine B_drew ?_ | with_reducible refine B_drewN ?_ _ | with_reducible refine B_set ?_ (by simp; omega) _))) hSF2 hfl).mono ?_; rintro e wq ⟨rfl, zu, rfl⟩)
                      | (go_at_call 39; refine (HRFF _ (hyi.keep (m := w.heap.size) (by repeat (first | exact B_refl | exact Below.refl _ _ | assumption | with_reducible refine B_alloc ?_ _ | with_reducible refine B_ext ?_ _ | with_reducible refine B_drew ?_ | with_reducible refine B_drewN ?_ _ | with_reducible refine B_set ?_ (by simp; omega) _))) (hei.keep (m := w.heap.size) (by repeat (first | exact B_refl | exact Below.refl _ _ | assumption | with_reducible refine B_alloc ?_ _ | with_reducible refine B_ext ?_ _ | with_reducible refine B_drew ?_ | with_reducible refine B_drewN ?_ _ | with_reducible refine B_set ?_ (by simp; omega) _)))).mono ?_; rintro e wq ⟨rfl, zq, rfl⟩)
                      | (go_at_call 40; refine (HRL _ (hyi.keep (m := w.heap.size) (by repeat (first | exact B_refl | exact Below.refl _ _ | assumption | with_reducible refine B_alloc ?_ _ | with_reducible refine B_ext ?_ _ | with_reducible refine B_drew ?_ | with_reducible refine B_drewN ?_ _ | with_reducible refine B_set ?_ (by simp; omega) _))) (hei.keep (m := w.heap.size) (by repeat (first | exact B_refl | exact Below.refl _ _ | assumption | with_reducible refine B_alloc ?_ _ | with_reducible refine B_ext ?_ _ | with_reducible refine B_drew ?_ | with_reducible refine B_drewN ?_ _ | with_reducible refine B_set ?_ (by simp; omega) _)))).mono ?_; rintro e wq ⟨rfl, zq, rfl⟩))
        go_ret
        exact Ret.of rfl (by repeat (first | exact B_refl | exact Below.refl _ _ | assumption | with_reducible refine B_alloc ?_ _ | with_reducible refine B_ext ?_ _ | with_reducible refine B_drew ?_ | with_reducible refine B_drewN ?_ _ | with_reducible refine B_set ?_ (by simp; omega) _))
      · simp [hgc] at hFL hFF hLF
        obtain ⟨rfl, rfl⟩ := hFL
        obtain ⟨rfl, rfl⟩ := hFF
        obtain ⟨rfl, rfl⟩ := hLF
        go_wp2_with (first
                      | (go_at_call 20; refine (rCheck_any ss rs _ _ _ _ _ _ _ _ _ es _ _ _ _ (hyi.keep (m := w.heap.size) (by repeat (first | exact B_refl | exact Below.refl _ _ | assumption | with_reducible refine B_alloc ?_ _ | with_reducible refine B_ext ?_ _ | with_reducible refine B_drew ?_ | with_reducible refine B_drewN ?_ _ | with_reducible refine B_set ?_ (by simp; omega) _))) (hei.keep (m := w.heap.size) (by repeat (first | exact B_refl | exact Below.refl _ _ | assumption | with_reducible refine B_alloc ?_ _ | with_reducible refine B_ext ?_ _ | with_reducible refine B_drew ?_ | with_reducible refine B_drewN ?_ _ | with_reducible refine B_set ?_ (by simp; omega) _)))).mono ?_; rintro e wq ⟨rfl, zk, rfl⟩; rw [HCK.out])
                      | (go_at_call 27; refine (rSite_any ss rs _ _ _ _ _ _ _ _ _ _ _ (hyi.keep (m := w.heap.size) (by repeat (first | exact B_refl | exact Below.refl _ _ | assumption | with_reducible refine B_alloc ?_ _ | with_reducible refine B_ext ?_ _ | with_reducible refine B_drew ?_ | with_reducible refine B_drewN ?_ _ | with_reducible refine B_set ?_ (by simp; omega) _)))).mono ?_; rintro e wq ⟨rfl, zt, rfl⟩; rw [hsi])
                      | (go_at_call 28; refine (rIsContainer_any _ _).mono ?_; rintro e wq ⟨rfl, rfl⟩; rw [hgc])
                      | (go_at_call 21; refine (rIsDay_any _ _).mono ?_; rintro e wq ⟨rfl, rfl⟩; rw [hgd])
                      | (go_at_call 29; refine (bwithin_any _ _ _ _).mono ?_; rintro e wq ⟨rfl, rfl⟩; rw [hgl])
                      | (go_at_call 38; refine (HRF _ (hyi.keep (m := w.heap.size) (by repeat (first | exact B_refl | exact Below.refl _ _ | assumption | with_reducible refine B_alloc ?_ _ | with_reducible refine B_ext ?_ _ | with_reducible refine B_drew ?_ | with_reducible refine B_drewN ?_ _ | with_reducible refine B_set ?_ (by simp; omega) _))) (hei.keep (m := w.heap.size) (by repeat (first | exact B_refl | exact Below.refl _ _ | assumption | with_reducible refine B_alloc ?_ _ | with_reducible refine B_ext ?_ _ | with_reducible refine B_drew ?_ | with_reducible refine B_drewN ?_ _ | with_reducible refine B_set ?_ (by simp; omega) _)))).mono ?_; rintro e wq ⟨v, rfl, hown2, zr, rfl⟩; obtain ⟨F2, fc2, rfl, hSF2, _⟩ := own_sl berth_len hown2; clear hown2)
                      | (go_at_call 37; refine (sameBerths_any fr _ _ _ _ _ (hSF1.keep (n := W1.heap.size) (by repeat (first | exact B_refl | exact Below.refl _ _ | assumption | with_reducible refine B_alloc ?_ _ | with_reducible refine B_ext ?_ _ | with_reducible refine B_drew ?_ | with_reducible refine B_drewN ?_ _ | with_reducible refine B_set ?_ (by simp; omega) _))) hSF2 hfl).mono ?_; rintro e wq ⟨rfl, zu, rfl⟩)
                      | (go_at_call 39; refine (HRFF _ (hyi.keep (m := w.heap.size) (by repeat (first | exact B_refl | exact Below.refl _ _ | assumption | with_reducible refine B_alloc ?_ _ | with_reducible refine B_ext ?_ _ | with_reducible refine B_drew ?_ | with_reducible refine B_drewN ?_ _ | with_reducible refine B_set ?_ (by simp; omega) _))) (hei.keep (m := w.heap.size) (by repeat (first | exact B_refl | exact Below.refl _ _ | assumption | with_reducible refine B_alloc ?_ _ | with_reducible refine B_ext ?_ _ | with_reducible refine B_drew ?_ | with_reducible refine B_drewN ?_ _ | with_reducible refine B_set ?_ (by simp; omega) _)))).mono ?_; rintro e wq ⟨rfl, zq, rfl⟩)
                      | (go_at_call 40; refine (HRL _ (hyi.keep (m := w.heap.size) (by repeat (first | exact B_refl | exact Below.refl _ _ | assumption | with_reducible refine B_alloc ?_ _ | with_reducible refine B_ext ?_ _ | with_reducible refine B_drew ?_ | with_reducible refine B_drewN ?_ _ | with_reducible refine B_set ?_ (by simp; omega) _))) (hei.keep (m := w.heap.size) (by repeat (first | exact B_refl | exact Below.refl _ _ | assumption | with_reducible refine B_alloc ?_ _ | with_reducible refine B_ext ?_ _ | with_reducible refine B_drew ?_ | with_reducible refine B_drewN ?_ _ | with_reducible refine B_set ?_ (by simp; omega) _)))).mono ?_; rintro e wq ⟨rfl, zq, rfl⟩))
        go_ret
        exact Ret.of rfl (by repeat (first | exact B_refl | exact Below.refl _ _ | assumption | with_reducible refine B_alloc ?_ _ | with_reducible refine B_ext ?_ _ | with_reducible refine B_drew ?_ | with_reducible refine B_drewN ?_ _ | with_reducible refine B_set ?_ (by simp; omega) _))
  · have hcc : 0 ≤ co ∧ co ≤ 2 := by simpa [inR] using hgc
    have HRF := HRF0 hcc.1 hcc.2
    have HRFF := HRFF0 hcc.1 hcc.2
    clear HRF0 HRFF0
    cases hgd : inR day 0 200000
    · clear HRF HRFF
      cases hf : findSite si ss with
      | none =>
        have hsi : rSiteR si ss = -1 := by rw [rSiteR, siteIdx_none hf]
        rw [hf] at hFF hLF
        simp [hgc, hgd] at hFL hFF hLF
        obtain ⟨rfl, rfl⟩ := hFL
        obtain ⟨rfl, rfl⟩ := hFF
        obtain ⟨rfl, rfl⟩ := hLF
        clear hf h5
        go_wp2_with (first
                      | (go_at_call 20; refine (rCheck_any ss rs _ _ _ _ _ _ _ _ _ es _ _ _ _ (hyi.keep (m := w.heap.size) (by repeat (first | exact B_refl | exact Below.refl _ _ | assumption | with_reducible refine B_alloc ?_ _ | with_reducible refine B_ext ?_ _ | with_reducible refine B_drew ?_ | with_reducible refine B_drewN ?_ _ | with_reducible refine B_set ?_ (by simp; omega) _))) (hei.keep (m := w.heap.size) (by repeat (first | exact B_refl | exact Below.refl _ _ | assumption | with_reducible refine B_alloc ?_ _ | with_reducible refine B_ext ?_ _ | with_reducible refine B_drew ?_ | with_reducible refine B_drewN ?_ _ | with_reducible refine B_set ?_ (by simp; omega) _)))).mono ?_; rintro e wq ⟨rfl, zk, rfl⟩; rw [HCK.out])
                      | (go_at_call 27; refine (rSite_any ss rs _ _ _ _ _ _ _ _ _ _ _ (hyi.keep (m := w.heap.size) (by repeat (first | exact B_refl | exact Below.refl _ _ | assumption | with_reducible refine B_alloc ?_ _ | with_reducible refine B_ext ?_ _ | with_reducible refine B_drew ?_ | with_reducible refine B_drewN ?_ _ | with_reducible refine B_set ?_ (by simp; omega) _)))).mono ?_; rintro e wq ⟨rfl, zt, rfl⟩; rw [hsi])
                      | (go_at_call 28; refine (rIsContainer_any _ _).mono ?_; rintro e wq ⟨rfl, rfl⟩; rw [hgc])
                      | (go_at_call 21; refine (rIsDay_any _ _).mono ?_; rintro e wq ⟨rfl, rfl⟩; rw [hgd])
                      | (go_at_call 29; refine (bwithin_any _ _ _ _).mono ?_; rintro e wq ⟨rfl, rfl⟩; rw [hgl])
                      | (go_at_call 38; refine (HRF _ (hyi.keep (m := w.heap.size) (by repeat (first | exact B_refl | exact Below.refl _ _ | assumption | with_reducible refine B_alloc ?_ _ | with_reducible refine B_ext ?_ _ | with_reducible refine B_drew ?_ | with_reducible refine B_drewN ?_ _ | with_reducible refine B_set ?_ (by simp; omega) _))) (hei.keep (m := w.heap.size) (by repeat (first | exact B_refl | exact Below.refl _ _ | assumption | with_reducible refine B_alloc ?_ _ | with_reducible refine B_ext ?_ _ | with_reducible refine B_drew ?_ | with_reducible refine B_drewN ?_ _ | with_reducible refine B_set ?_ (by simp; omega) _)))).mono ?_; rintro e wq ⟨v, rfl, hown2, zr, rfl⟩; obtain ⟨F2, fc2, rfl, hSF2, _⟩ := own_sl berth_len hown2; clear hown2)
                      | (go_at_call 37; refine (sameBerths_any fr _ _ _ _ _ (hSF1.keep (n := W1.heap.size) (by repeat (first | exact B_refl | exact Below.refl _ _ | assumption | with_reducible refine B_alloc ?_ _ | with_reducible refine B_ext ?_ _ | with_reducible refine B_drew ?_ | with_reducible refine B_drewN ?_ _ | with_reducible refine B_set ?_ (by simp; omega) _))) hSF2 hfl).mono ?_; rintro e wq ⟨rfl, zu, rfl⟩)
                      | (go_at_call 39; refine (HRFF _ (hyi.keep (m := w.heap.size) (by repeat (first | exact B_refl | exact Below.refl _ _ | assumption | with_reducible refine B_alloc ?_ _ | with_reducible refine B_ext ?_ _ | with_reducible refine B_drew ?_ | with_reducible refine B_drewN ?_ _ | with_reducible refine B_set ?_ (by simp; omega) _))) (hei.keep (m := w.heap.size) (by repeat (first | exact B_refl | exact Below.refl _ _ | assumption | with_reducible refine B_alloc ?_ _ | with_reducible refine B_ext ?_ _ | with_reducible refine B_drew ?_ | with_reducible refine B_drewN ?_ _ | with_reducible refine B_set ?_ (by simp; omega) _)))).mono ?_; rintro e wq ⟨rfl, zq, rfl⟩)
                      | (go_at_call 40; refine (HRL _ (hyi.keep (m := w.heap.size) (by repeat (first | exact B_refl | exact Below.refl _ _ | assumption | with_reducible refine B_alloc ?_ _ | with_reducible refine B_ext ?_ _ | with_reducible refine B_drew ?_ | with_reducible refine B_drewN ?_ _ | with_reducible refine B_set ?_ (by simp; omega) _))) (hei.keep (m := w.heap.size) (by repeat (first | exact B_refl | exact Below.refl _ _ | assumption | with_reducible refine B_alloc ?_ _ | with_reducible refine B_ext ?_ _ | with_reducible refine B_drew ?_ | with_reducible refine B_drewN ?_ _ | with_reducible refine B_set ?_ (by simp; omega) _)))).mono ?_; rintro e wq ⟨rfl, zq, rfl⟩))
        go_ret
        exact Ret.of rfl (by repeat (first | exact B_refl | exact Below.refl _ _ | assumption | with_reducible refine B_alloc ?_ _ | with_reducible refine B_ext ?_ _ | with_reducible refine B_drew ?_ | with_reducible refine B_drewN ?_ _ | with_reducible refine B_set ?_ (by simp; omega) _))
      | some s =>
        rw [hf] at hFF hLF
        obtain ⟨i, hik, hgk⟩ := siteIdx_some hf
        have hsi : rSiteR si ss = (i : Int) := by rw [rSiteR, hik]
        obtain ⟨hlt, hse⟩ := List.getElem?_eq_some_iff.1 hgk
        have hgood := yard_room h5 s (findSite_mem hf)
        obtain ⟨hr1, hr2, _⟩ := checkSite_room hgood
        obtain ⟨b, off, rfl, hb, hcl⟩ := (hyi.sl.keep (n := w.heap.size) hB1).at hlt
        rw [hse] at hcl
        have x0 : W1.cell? ⟨b, off + i * 6, none⟩ = some (.string s.name) := hcl 0 _ rfl
        have x1 : W1.cell? ⟨b, off + i * 6 + 1, none⟩ = some (.int .i64 s.kind) := hcl 1 _ rfl
        have x2 : W1.cell? ⟨b, off + i * 6 + 2, none⟩ = some (.int .i64 s.soil) := hcl 2 _ rfl
        have x3 : W1.cell? ⟨b, off + i * 6 + 3, none⟩ = some (.int .i64 s.depth) := hcl 3 _ rfl
        have x4 : W1.cell? ⟨b, off + i * 6 + 4, none⟩ = some (.int .i64 s.step) := hcl 4 _ rfl
        have x5 : W1.cell? ⟨b, off + i * 6 + 5, none⟩ = some (.int .i64 s.room) := hcl 5 _ rfl
        have hlt2 : (i : Int) < (ss.length : Int) := by omega
        have hi0 : ¬ ((i : Int) < 0) := by omega
        clear hik hgk hse hcl hf hgood h5
        obtain ⟨a, k, so, d, st, r⟩ := s
        dsimp only at x0 x1 x2 x3 x4 x5 hr1 hr2 hFF hLF
        have HRL := fun W h1 h2 => rLeft_any ss rs (some ⟨b, off, none⟩) R ss.length c rs.length rc c0 c1 c2 es E es.length ec a k so d st r co W h1 h2 hrooms hr2 hcc.1 hcc.2
        generalize rLeftP c0 c1 c2 (rReplayP c0 c1 c2 ss rs es).1 ⟨a, k, so, d, st, r⟩ co = Z at *
        cases hgl : inR lv 0 (r - 1)
        · by_cases hk : k = 3
          · subst hk
            simp [hgc, hgd] at hFL hFF hLF
            obtain ⟨rfl, rfl⟩ := hFL
            obtain ⟨rfl, rfl⟩ := hFF
            obtain ⟨rfl, rfl⟩ := hLF
            go_wp2_with (first
                          | (go_at_call 20; refine (rCheck_any ss rs _ _ _ _ _ _ _ _ _ es _ _ _ _ (hyi.keep (m := w.heap.size) (by repeat (first | exact B_refl | exact Below.refl _ _ | assumption | with_reducible refine B_alloc ?_ _ | with_reducible refine B_ext ?_ _ | with_reducible refine B_drew ?_ | with_reducible refine B_drewN ?_ _ | with_reducible refine B_set ?_ (by simp; omega) _))) (hei.keep (m := w.heap.size) (by repeat (first | exact B_refl | exact Below.refl _ _ | assumption | with_reducible refine B_alloc ?_ _ | with_reducible refine B_ext ?_ _ | with_reducible refine B_drew ?_ | with_reducible refine B_drewN ?_ _ | with_reducible refine B_set ?_ (by simp; omega) _)))).mono ?_; rintro e wq ⟨rfl, zk, rfl⟩; rw [HCK.out])
                          | (go_at_call 27; refine (rSite_any ss rs _ _ _ _ _ _ _ _ _ _ _ (hyi.keep (m := w.heap.size) (by repeat (first | exact B_refl | exact Below.refl _ _ | assumption | with_reducible refine B_alloc ?_ _ | with_reducible refine B_ext ?_ _ | with_reducible refine B_drew ?_ | with_reducible refine B_drewN ?_ _ | with_reducible refine B_set ?_ (by simp; omega) _)))).mono ?_; rintro e wq ⟨rfl, zt, rfl⟩; rw [hsi])
                          | (go_at_call 28; refine (rIsContainer_any _ _).mono ?_; rintro e wq ⟨rfl, rfl⟩; rw [hgc])
                          | (go_at_call 21; refine (rIsDay_any _ _).mono ?_; rintro e wq ⟨rfl, rfl⟩; rw [hgd])
                          | (go_at_call 29; refine (bwithin_any _ _ _ _).mono ?_; rintro e wq ⟨rfl, rfl⟩; rw [hgl])
                          | (go_at_call 38; refine (HRF _ (hyi.keep (m := w.heap.size) (by repeat (first | exact B_refl | exact Below.refl _ _ | assumption | with_reducible refine B_alloc ?_ _ | with_reducible refine B_ext ?_ _ | with_reducible refine B_drew ?_ | with_reducible refine B_drewN ?_ _ | with_reducible refine B_set ?_ (by simp; omega) _))) (hei.keep (m := w.heap.size) (by repeat (first | exact B_refl | exact Below.refl _ _ | assumption | with_reducible refine B_alloc ?_ _ | with_reducible refine B_ext ?_ _ | with_reducible refine B_drew ?_ | with_reducible refine B_drewN ?_ _ | with_reducible refine B_set ?_ (by simp; omega) _)))).mono ?_; rintro e wq ⟨v, rfl, hown2, zr, rfl⟩; obtain ⟨F2, fc2, rfl, hSF2, _⟩ := own_sl berth_len hown2; clear hown2)
                          | (go_at_call 37; refine (sameBerths_any fr _ _ _ _ _ (hSF1.keep (n := W1.heap.size) (by repeat (first | exact B_refl | exact Below.refl _ _ | assumption | with_reducible refine B_alloc ?_ _ | with_reducible refine B_ext ?_ _ | with_reducible refine B_drew ?_ | with_reducible refine B_drewN ?_ _ | with_reducible refine B_set ?_ (by simp; omega) _))) hSF2 hfl).mono ?_; rintro e wq ⟨rfl, zu, rfl⟩)
                          | (go_at_call 39; refine (HRFF _ (hyi.keep (m := w.heap.size) (by repeat (first | exact B_refl | exact Below.refl _ _ | assumption | with_reducible refine B_alloc ?_ _ | with_reducible refine B_ext ?_ _ | with_reducible refine B_drew ?_ | with_reducible refine B_drewN ?_ _ | with_reducible refine B_set ?_ (by simp; omega) _))) (hei.keep (m := w.heap.size) (by repeat (first | exact B_refl | exact Below.refl _ _ | assumption | with_reducible refine B_alloc ?_ _ | with_reducible refine B_ext ?_ _ | with_reducible refine B_drew ?_ | with_reducible refine B_drewN ?_ _ | with_reducible refine B_set ?_ (by simp; omega) _)))).mono ?_; rintro e wq ⟨rfl, zq, rfl⟩)
                          | (go_at_call 40; refine (HRL _ (hyi.keep (m := w.heap.size) (by repeat (first | exact B_refl | exact Below.refl _ _ | assumption | with_reducible refine B_alloc ?_ _ | with_reducible refine B_ext ?_ _ | with_reducible refine B_drew ?_ | with_reducible refine B_drewN ?_ _ | with_reducible refine B_set ?_ (by simp; omega) _))) (hei.keep (m := w.heap.size) (by repeat (first | exact B_refl | exact Below.refl _ _ | assumption | with_reducible refine B_alloc ?_ _ | with_reducible refine B_ext ?_ _ | with_reducible refine B_drew ?_ | with_reducible refine B_drewN ?_ _ | with_reducible refine B_set ?_ (by simp; omega) _)))).mono ?_; rintro e wq ⟨rfl, zq, rfl⟩))
            go_ret
            exact Ret.of rfl (by repeat (first | exact B_refl | exact Below.refl _ _ | assumption | with_reducible refine B_alloc ?_ _ | with_reducible refine B_ext ?_ _ | with_reducible refine B_drew ?_ | with_reducible refine B_drewN ?_ _ | with_reducible refine B_set ?_ (by simp; omega) _))
          · simp [hgc, hgd, hk] at hFL hFF hLF
            obtain ⟨rfl, rfl⟩ := hFL
            obtain ⟨rfl, rfl⟩ := hFF
            obtain ⟨rfl, rfl⟩ := hLF
            go_wp2_with (first
                          | (go_at_call 20; refine (rCheck_any ss rs _ _ _ _ _ _ _ _ _ es _ _ _ _ (hyi.keep (m := w.heap.size) (by repeat (first | exact B_refl | exact Below.refl _ _ | assumption | with_reducible refine B_alloc ?_ _ | with_reducible refine B_ext ?_ _ | with_reducible refine B_drew ?_ | with_reducible refine B_drewN ?_ _ | with_reducible refine B_set ?_ (by simp; omega) _))) (hei.keep (m := w.heap.size) (by repeat (first | exact B_refl | exact Below.refl _ _ | assumption | with_reducible refine B_alloc ?_ _ | with_reducible refine B_ext ?_ _ | with_reducible refine B_drew ?_ | with_reducible refine B_drewN ?_ _ | with_reducible refine B_set ?_ (by simp; omega) _)))).mono ?_; rintro e wq ⟨rfl, zk, rfl⟩; rw [HCK.out])
                          | (go_at_call 27; refine (rSite_any ss rs _ _ _ _ _ _ _ _ _ _ _ (hyi.keep (m := w.heap.size) (by repeat (first | exact B_refl | exact Below.refl _ _ | assumption | with_reducible refine B_alloc ?_ _ | with_reducible refine B_ext ?_ _ | with_reducible refine B_drew ?_ | with_reducible refine B_drewN ?_ _ | with_reducible refine B_set ?_ (by simp; omega) _)))).mono ?_; rintro e wq ⟨rfl, zt, rfl⟩; rw [hsi])
                          | (go_at_call 28; refine (rIsContainer_any _ _).mono ?_; rintro e wq ⟨rfl, rfl⟩; rw [hgc])
                          | (go_at_call 21; refine (rIsDay_any _ _).mono ?_; rintro e wq ⟨rfl, rfl⟩; rw [hgd])
                          | (go_at_call 29; refine (bwithin_any _ _ _ _).mono ?_; rintro e wq ⟨rfl, rfl⟩; rw [hgl])
                          | (go_at_call 38; refine (HRF _ (hyi.keep (m := w.heap.size) (by repeat (first | exact B_refl | exact Below.refl _ _ | assumption | with_reducible refine B_alloc ?_ _ | with_reducible refine B_ext ?_ _ | with_reducible refine B_drew ?_ | with_reducible refine B_drewN ?_ _ | with_reducible refine B_set ?_ (by simp; omega) _))) (hei.keep (m := w.heap.size) (by repeat (first | exact B_refl | exact Below.refl _ _ | assumption | with_reducible refine B_alloc ?_ _ | with_reducible refine B_ext ?_ _ | with_reducible refine B_drew ?_ | with_reducible refine B_drewN ?_ _ | with_reducible refine B_set ?_ (by simp; omega) _)))).mono ?_; rintro e wq ⟨v, rfl, hown2, zr, rfl⟩; obtain ⟨F2, fc2, rfl, hSF2, _⟩ := own_sl berth_len hown2; clear hown2)
                          | (go_at_call 37; refine (sameBerths_any fr _ _ _ _ _ (hSF1.keep (n := W1.heap.size) (by repeat (first | exact B_refl | exact Below.refl _ _ | assumption | with_reducible refine B_alloc ?_ _ | with_reducible refine B_ext ?_ _ | with_reducible refine B_drew ?_ | with_reducible refine B_drewN ?_ _ | with_reducible refine B_set ?_ (by simp; omega) _))) hSF2 hfl).mono ?_; rintro e wq ⟨rfl, zu, rfl⟩)
                          | (go_at_call 39; refine (HRFF _ (hyi.keep (m := w.heap.size) (by repeat (first | exact B_refl | exact Below.refl _ _ | assumption | with_reducible refine B_alloc ?_ _ | with_reducible refine B_ext ?_ _ | with_reducible refine B_drew ?_ | with_reducible refine B_drewN ?_ _ | with_reducible refine B_set ?_ (by simp; omega) _))) (hei.keep (m := w.heap.size) (by repeat (first | exact B_refl | exact Below.refl _ _ | assumption | with_reducible refine B_alloc ?_ _ | with_reducible refine B_ext ?_ _ | with_reducible refine B_drew ?_ | with_reducible refine B_drewN ?_ _ | with_reducible refine B_set ?_ (by simp; omega) _)))).mono ?_; rintro e wq ⟨rfl, zq, rfl⟩)
                          | (go_at_call 40; refine (HRL _ (hyi.keep (m := w.heap.size) (by repeat (first | exact B_refl | exact Below.refl _ _ | assumption | with_reducible refine B_alloc ?_ _ | with_reducible refine B_ext ?_ _ | with_reducible refine B_drew ?_ | with_reducible refine B_drewN ?_ _ | with_reducible refine B_set ?_ (by simp; omega) _))) (hei.keep (m := w.heap.size) (by repeat (first | exact B_refl | exact Below.refl _ _ | assumption | with_reducible refine B_alloc ?_ _ | with_reducible refine B_ext ?_ _ | with_reducible refine B_drew ?_ | with_reducible refine B_drewN ?_ _ | with_reducible refine B_set ?_ (by simp; omega) _)))).mono ?_; rintro e wq ⟨rfl, zq, rfl⟩))
            go_ret
            exact Ret.of rfl (by repeat (first | exact B_refl | exact Below.refl _ _ | assumption | with_reducible refine B_alloc ?_ _ | with_reducible refine B_ext ?_ _ | with_reducible refine B_drew ?_ | with_reducible refine B_drewN ?_ _ | with_reducible refine B_set ?_ (by simp; omega) _))
        · by_cases hk : k = 3
          · subst hk
            simp [hgc, hgd] at hFL hFF hLF
            obtain ⟨rfl, rfl⟩ := hFL
            obtain ⟨rfl, rfl⟩ := hFF
            obtain ⟨rfl, rfl⟩ := hLF
            go_wp2_with (first
                          | (go_at_call 20; refine (rCheck_any ss rs _ _ _ _ _ _ _ _ _ es _ _ _ _ (hyi.keep (m := w.heap.size) (by repeat (first | exact B_refl | exact Below.refl _ _ | assumption | with_reducible refine B_alloc ?_ _ | with_reducible refine B_ext ?_ _ | with_reducible refine B_drew ?_ | with_reducible refine B_drewN ?_ _ | with_reducible refine B_set ?_ (by simp; omega) _))) (hei.keep (m := w.heap.size) (by repeat (first | exact B_refl | exact Below.refl _ _ | assumption | with_reducible refine B_alloc ?_ _ | with_reducible refine B_ext ?_ _ | with_reducible refine B_drew ?_ | with_reducible refine B_drewN ?_ _ | with_reducible refine B_set ?_ (by simp; omega) _)))).mono ?_; rintro e wq ⟨rfl, zk, rfl⟩; rw [HCK.out])
                          | (go_at_call 27; refine (rSite_any ss rs _ _ _ _ _ _ _ _ _ _ _ (hyi.keep (m := w.heap.size) (by repeat (first | exact B_refl | exact Below.refl _ _ | assumption | with_reducible refine B_alloc ?_ _ | with_reducible refine B_ext ?_ _ | with_reducible refine B_drew ?_ | with_reducible refine B_drewN ?_ _ | with_reducible refine B_set ?_ (by simp; omega) _)))).mono ?_; rintro e wq ⟨rfl, zt, rfl⟩; rw [hsi])
                          | (go_at_call 28; refine (rIsContainer_any _ _).mono ?_; rintro e wq ⟨rfl, rfl⟩; rw [hgc])
                          | (go_at_call 21; refine (rIsDay_any _ _).mono ?_; rintro e wq ⟨rfl, rfl⟩; rw [hgd])
                          | (go_at_call 29; refine (bwithin_any _ _ _ _).mono ?_; rintro e wq ⟨rfl, rfl⟩; rw [hgl])
                          | (go_at_call 38; refine (HRF _ (hyi.keep (m := w.heap.size) (by repeat (first | exact B_refl | exact Below.refl _ _ | assumption | with_reducible refine B_alloc ?_ _ | with_reducible refine B_ext ?_ _ | with_reducible refine B_drew ?_ | with_reducible refine B_drewN ?_ _ | with_reducible refine B_set ?_ (by simp; omega) _))) (hei.keep (m := w.heap.size) (by repeat (first | exact B_refl | exact Below.refl _ _ | assumption | with_reducible refine B_alloc ?_ _ | with_reducible refine B_ext ?_ _ | with_reducible refine B_drew ?_ | with_reducible refine B_drewN ?_ _ | with_reducible refine B_set ?_ (by simp; omega) _)))).mono ?_; rintro e wq ⟨v, rfl, hown2, zr, rfl⟩; obtain ⟨F2, fc2, rfl, hSF2, _⟩ := own_sl berth_len hown2; clear hown2)
                          | (go_at_call 37; refine (sameBerths_any fr _ _ _ _ _ (hSF1.keep (n := W1.heap.size) (by repeat (first | exact B_refl | exact Below.refl _ _ | assumption | with_reducible refine B_alloc ?_ _ | with_reducible refine B_ext ?_ _ | with_reducible refine B_drew ?_ | with_reducible refine B_drewN ?_ _ | with_reducible refine B_set ?_ (by simp; omega) _))) hSF2 hfl).mono ?_; rintro e wq ⟨rfl, zu, rfl⟩)
                          | (go_at_call 39; refine (HRFF _ (hyi.keep (m := w.heap.size) (by repeat (first | exact B_refl | exact Below.refl _ _ | assumption | with_reducible refine B_alloc ?_ _ | with_reducible refine B_ext ?_ _ | with_reducible refine B_drew ?_ | with_reducible refine B_drewN ?_ _ | with_reducible refine B_set ?_ (by simp; omega) _))) (hei.keep (m := w.heap.size) (by repeat (first | exact B_refl | exact Below.refl _ _ | assumption | with_reducible refine B_alloc ?_ _ | with_reducible refine B_ext ?_ _ | with_reducible refine B_drew ?_ | with_reducible refine B_drewN ?_ _ | with_reducible refine B_set ?_ (by simp; omega) _)))).mono ?_; rintro e wq ⟨rfl, zq, rfl⟩)
                          | (go_at_call 40; refine (HRL _ (hyi.keep (m := w.heap.size) (by repeat (first | exact B_refl | exact Below.refl _ _ | assumption | with_reducible refine B_alloc ?_ _ | with_reducible refine B_ext ?_ _ | with_reducible refine B_drew ?_ | with_reducible refine B_drewN ?_ _ | with_reducible refine B_set ?_ (by simp; omega) _))) (hei.keep (m := w.heap.size) (by repeat (first | exact B_refl | exact Below.refl _ _ | assumption | with_reducible refine B_alloc ?_ _ | with_reducible refine B_ext ?_ _ | with_reducible refine B_drew ?_ | with_reducible refine B_drewN ?_ _ | with_reducible refine B_set ?_ (by simp; omega) _)))).mono ?_; rintro e wq ⟨rfl, zq, rfl⟩))
            go_ret
            exact Ret.of rfl (by repeat (first | exact B_refl | exact Below.refl _ _ | assumption | with_reducible refine B_alloc ?_ _ | with_reducible refine B_ext ?_ _ | with_reducible refine B_drew ?_ | with_reducible refine B_drewN ?_ _ | with_reducible refine B_set ?_ (by simp; omega) _))
          · simp [hgc, hgd, hk] at hFL hFF hLF
            obtain ⟨rfl, rfl⟩ := hFL
            obtain ⟨rfl, rfl⟩ := hFF
            obtain ⟨rfl, rfl⟩ := hLF
            go_wp2_with (first
                          | (go_at_call 20; refine (rCheck_any ss rs _ _ _ _ _ _ _ _ _ es _ _ _ _ (hyi.keep (m := w.heap.size) (by repeat (first | exact B_refl | exact Below.refl _ _ | assumption | with_reducible refine B_alloc ?_ _ | with_reducible refine B_ext ?_ _ | with_reducible refine B_drew ?_ | with_reducible refine B_drewN ?_ _ | with_reducible refine B_set ?_ (by simp; omega) _))) (hei.keep (m := w.heap.size) (by repeat (first | exact B_refl | exact Below.refl _ _ | assumption | with_reducible refine B_alloc ?_ _ | with_reducible refine B_ext ?_ _ | with_reducible refine B_drew ?_ | with_reducible refine B_drewN ?_ _ | with_reducible refine B_set ?_ (by simp; omega) _)))).mono ?_; rintro e wq ⟨rfl, zk, rfl⟩; rw [HCK.out])
                          | (go_at_call 27; refine (rSite_any ss rs _ _ _ _ _ _ _ _ _ _ _ (hyi.keep (m := w.heap.size) (by repeat (first | exact B_refl | exact Below.refl _ _ | assumption | with_reducible refine B_alloc ?_ _ | with_reducible refine B_ext ?_ _ | with_reducible refine B_drew ?_ | with_reducible refine B_drewN ?_ _ | with_reducible refine B_set ?_ (by simp; omega) _)))).mono ?_; rintro e wq ⟨rfl, zt, rfl⟩; rw [hsi])
                          | (go_at_call 28; refine (rIsContainer_any _ _).mono ?_; rintro e wq ⟨rfl, rfl⟩; rw [hgc])
                          | (go_at_call 21; refine (rIsDay_any _ _).mono ?_; rintro e wq ⟨rfl, rfl⟩; rw [hgd])
                          | (go_at_call 29; refine (bwithin_any _ _ _ _).mono ?_; rintro e wq ⟨rfl, rfl⟩; rw [hgl])
                          | (go_at_call 38; refine (HRF _ (hyi.keep (m := w.heap.size) (by repeat (first | exact B_refl | exact Below.refl _ _ | assumption | with_reducible refine B_alloc ?_ _ | with_reducible refine B_ext ?_ _ | with_reducible refine B_drew ?_ | with_reducible refine B_drewN ?_ _ | with_reducible refine B_set ?_ (by simp; omega) _))) (hei.keep (m := w.heap.size) (by repeat (first | exact B_refl | exact Below.refl _ _ | assumption | with_reducible refine B_alloc ?_ _ | with_reducible refine B_ext ?_ _ | with_reducible refine B_drew ?_ | with_reducible refine B_drewN ?_ _ | with_reducible refine B_set ?_ (by simp; omega) _)))).mono ?_; rintro e wq ⟨v, rfl, hown2, zr, rfl⟩; obtain ⟨F2, fc2, rfl, hSF2, _⟩ := own_sl berth_len hown2; clear hown2)
                          | (go_at_call 37; refine (sameBerths_any fr _ _ _ _ _ (hSF1.keep (n := W1.heap.size) (by repeat (first | exact B_refl | exact Below.refl _ _ | assumption | with_reducible refine B_alloc ?_ _ | with_reducible refine B_ext ?_ _ | with_reducible refine B_drew ?_ | with_reducible refine B_drewN ?_ _ | with_reducible refine B_set ?_ (by simp; omega) _))) hSF2 hfl).mono ?_; rintro e wq ⟨rfl, zu, rfl⟩)
                          | (go_at_call 39; refine (HRFF _ (hyi.keep (m := w.heap.size) (by repeat (first | exact B_refl | exact Below.refl _ _ | assumption | with_reducible refine B_alloc ?_ _ | with_reducible refine B_ext ?_ _ | with_reducible refine B_drew ?_ | with_reducible refine B_drewN ?_ _ | with_reducible refine B_set ?_ (by simp; omega) _))) (hei.keep (m := w.heap.size) (by repeat (first | exact B_refl | exact Below.refl _ _ | assumption | with_reducible refine B_alloc ?_ _ | with_reducible refine B_ext ?_ _ | with_reducible refine B_drew ?_ | with_reducible refine B_drewN ?_ _ | with_reducible refine B_set ?_ (by simp; omega) _)))).mono ?_; rintro e wq ⟨rfl, zq, rfl⟩)
                          | (go_at_call 40; refine (HRL _ (hyi.keep (m := w.heap.size) (by repeat (first | exact B_refl | exact Below.refl _ _ | assumption | with_reducible refine B_alloc ?_ _ | with_reducible refine B_ext ?_ _ | with_reducible refine B_drew ?_ | with_reducible refine B_drewN ?_ _ | with_reducible refine B_set ?_ (by simp; omega) _))) (hei.keep (m := w.heap.size) (by repeat (first | exact B_refl | exact Below.refl _ _ | assumption | with_reducible refine B_alloc ?_ _ | with_reducible refine B_ext ?_ _ | with_reducible refine B_drew ?_ | with_reducible refine B_drewN ?_ _ | with_reducible refine B_set ?_ (by simp; omega) _)))).mono ?_; rintro e wq ⟨rfl, zq, rfl⟩))
            go_ret
            exact Ret.of rfl (by repeat (first | exact B_refl | exact Below.refl _ _ | assumption | with_reducible refine B_alloc ?_ _ | with_reducible refine B_ext ?_ _ | with_reducible refine B_drew ?_ | with_reducible refine B_drewN ?_ _ | with_reducible refine B_set ?_ (by simp; omega) _))
    · cases hf : findSite si ss with
      | none =>
        have hsi : rSiteR si ss = -1 := by rw [rSiteR, siteIdx_none hf]
        rw [hf] at hFF hLF
        simp [hgc, hgd] at hFL hFF hLF
        obtain ⟨rfl, rfl⟩ := hFL
        obtain ⟨rfl, rfl⟩ := hFF
        obtain ⟨rfl, rfl⟩ := hLF
        clear hf h5
        go_wp2_with (first
                      | (go_at_call 20; refine (rCheck_any ss rs _ _ _ _ _ _ _ _ _ es _ _ _ _ (hyi.keep (m := w.heap.size) (by repeat (first | exact B_refl | exact Below.refl _ _ | assumption | with_reducible refine B_alloc ?_ _ | with_reducible refine B_ext ?_ _ | with_reducible refine B_drew ?_ | with_reducible refine B_drewN ?_ _ | with_reducible refine B_set ?_ (by simp; omega) _))) (hei.keep (m := w.heap.size) (by repeat (first | exact B_refl | exact Below.refl _ _ | assumption | with_reducible refine B_alloc ?_ _ | with_reducible refine B_ext ?_ _ | with_reducible refine B_drew ?_ | with_reducible refine B_drewN ?_ _ | with_reducible refine B_set ?_ (by simp; omega) _)))).mono ?_; rintro e wq ⟨rfl, zk, rfl⟩; rw [HCK.out])
                      | (go_at_call 27; refine (rSite_any ss rs _ _ _ _ _ _ _ _ _ _ _ (hyi.keep (m := w.heap.size) (by repeat (first | exact B_refl | exact Below.refl _ _ | assumption | with_reducible refine B_alloc ?_ _ | with_reducible refine B_ext ?_ _ | with_reducible refine B_drew ?_ | with_reducible refine B_drewN ?_ _ | with_reducible refine B_set ?_ (by simp; omega) _)))).mono ?_; rintro e wq ⟨rfl, zt, rfl⟩; rw [hsi])
                      | (go_at_call 28; refine (rIsContainer_any _ _).mono ?_; rintro e wq ⟨rfl, rfl⟩; rw [hgc])
                      | (go_at_call 21; refine (rIsDay_any _ _).mono ?_; rintro e wq ⟨rfl, rfl⟩; rw [hgd])
                      | (go_at_call 29; refine (bwithin_any _ _ _ _).mono ?_; rintro e wq ⟨rfl, rfl⟩; rw [hgl])
                      | (go_at_call 38; refine (HRF _ (hyi.keep (m := w.heap.size) (by repeat (first | exact B_refl | exact Below.refl _ _ | assumption | with_reducible refine B_alloc ?_ _ | with_reducible refine B_ext ?_ _ | with_reducible refine B_drew ?_ | with_reducible refine B_drewN ?_ _ | with_reducible refine B_set ?_ (by simp; omega) _))) (hei.keep (m := w.heap.size) (by repeat (first | exact B_refl | exact Below.refl _ _ | assumption | with_reducible refine B_alloc ?_ _ | with_reducible refine B_ext ?_ _ | with_reducible refine B_drew ?_ | with_reducible refine B_drewN ?_ _ | with_reducible refine B_set ?_ (by simp; omega) _)))).mono ?_; rintro e wq ⟨v, rfl, hown2, zr, rfl⟩; obtain ⟨F2, fc2, rfl, hSF2, _⟩ := own_sl berth_len hown2; clear hown2)
                      | (go_at_call 37; refine (sameBerths_any fr _ _ _ _ _ (hSF1.keep (n := W1.heap.size) (by repeat (first | exact B_refl | exact Below.refl _ _ | assumption | with_reducible refine B_alloc ?_ _ | with_reducible refine B_ext ?_ _ | with_reducible refine B_drew ?_ | with_reducible refine B_drewN ?_ _ | with_reducible refine B_set ?_ (by simp; omega) _))) hSF2 hfl).mono ?_; rintro e wq ⟨rfl, zu, rfl⟩)
                      | (go_at_call 39; refine (HRFF _ (hyi.keep (m := w.heap.size) (by repeat (first | exact B_refl | exact Below.refl _ _ | assumption | with_reducible refine B_alloc ?_ _ | with_reducible refine B_ext ?_ _ | with_reducible refine B_drew ?_ | with_reducible refine B_drewN ?_ _ | with_reducible refine B_set ?_ (by simp; omega) _))) (hei.keep (m := w.heap.size) (by repeat (first | exact B_refl | exact Below.refl _ _ | assumption | with_reducible refine B_alloc ?_ _ | with_reducible refine B_ext ?_ _ | with_reducible refine B_drew ?_ | with_reducible refine B_drewN ?_ _ | with_reducible refine B_set ?_ (by simp; omega) _)))).mono ?_; rintro e wq ⟨rfl, zq, rfl⟩)
                      | (go_at_call 40; refine (HRL _ (hyi.keep (m := w.heap.size) (by repeat (first | exact B_refl | exact Below.refl _ _ | assumption | with_reducible refine B_alloc ?_ _ | with_reducible refine B_ext ?_ _ | with_reducible refine B_drew ?_ | with_reducible refine B_drewN ?_ _ | with_reducible refine B_set ?_ (by simp; omega) _))) (hei.keep (m := w.heap.size) (by repeat (first | exact B_refl | exact Below.refl _ _ | assumption | with_reducible refine B_alloc ?_ _ | with_reducible refine B_ext ?_ _ | with_reducible refine B_drew ?_ | with_reducible refine B_drewN ?_ _ | with_reducible refine B_set ?_ (by simp; omega) _)))).mono ?_; rintro e wq ⟨rfl, zq, rfl⟩))
        go_ret
        exact Ret.of rfl (by repeat (first | exact B_refl | exact Below.refl _ _ | assumption | with_reducible refine B_alloc ?_ _ | with_reducible refine B_ext ?_ _ | with_reducible refine B_drew ?_ | with_reducible refine B_drewN ?_ _ | with_reducible refine B_set ?_ (by simp; omega) _))
      | some s =>
        rw [hf] at hFF hLF
        obtain ⟨i, hik, hgk⟩ := siteIdx_some hf
        have hsi : rSiteR si ss = (i : Int) := by rw [rSiteR, hik]
        obtain ⟨hlt, hse⟩ := List.getElem?_eq_some_iff.1 hgk
        have hgood := yard_room h5 s (findSite_mem hf)
        obtain ⟨hr1, hr2, _⟩ := checkSite_room hgood
        obtain ⟨b, off, rfl, hb, hcl⟩ := (hyi.sl.keep (n := w.heap.size) hB1).at hlt
        rw [hse] at hcl
        have x0 : W1.cell? ⟨b, off + i * 6, none⟩ = some (.string s.name) := hcl 0 _ rfl
        have x1 : W1.cell? ⟨b, off + i * 6 + 1, none⟩ = some (.int .i64 s.kind) := hcl 1 _ rfl
        have x2 : W1.cell? ⟨b, off + i * 6 + 2, none⟩ = some (.int .i64 s.soil) := hcl 2 _ rfl
        have x3 : W1.cell? ⟨b, off + i * 6 + 3, none⟩ = some (.int .i64 s.depth) := hcl 3 _ rfl
        have x4 : W1.cell? ⟨b, off + i * 6 + 4, none⟩ = some (.int .i64 s.step) := hcl 4 _ rfl
        have x5 : W1.cell? ⟨b, off + i * 6 + 5, none⟩ = some (.int .i64 s.room) := hcl 5 _ rfl
        have hlt2 : (i : Int) < (ss.length : Int) := by omega
        have hi0 : ¬ ((i : Int) < 0) := by omega
        clear hik hgk hse hcl hf hgood h5
        obtain ⟨a, k, so, d, st, r⟩ := s
        dsimp only at x0 x1 x2 x3 x4 x5 hr1 hr2 hFF hLF
        have HRL := fun W h1 h2 => rLeft_any ss rs (some ⟨b, off, none⟩) R ss.length c rs.length rc c0 c1 c2 es E es.length ec a k so d st r co W h1 h2 hrooms hr2 hcc.1 hcc.2
        generalize rLeftP c0 c1 c2 (rReplayP c0 c1 c2 ss rs es).1 ⟨a, k, so, d, st, r⟩ co = Z at *
        cases hgl : inR lv 0 (r - 1)
        · by_cases hk : k = 3
          · subst hk
            simp [hgc, hgd, hgl] at hFL hFF hLF
            obtain ⟨rfl, rfl⟩ := hFL
            obtain ⟨rfl, rfl⟩ := hFF
            obtain ⟨rfl, rfl⟩ := hLF
            go_wp2_with (first
                          | (go_at_call 20; refine (rCheck_any ss rs _ _ _ _ _ _ _ _ _ es _ _ _ _ (hyi.keep (m := w.heap.size) (by repeat (first | exact B_refl | exact Below.refl _ _ | assumption | with_reducible refine B_alloc ?_ _ | with_reducible refine B_ext ?_ _ | with_reducible refine B_drew ?_ | with_reducible refine B_drewN ?_ _ | with_reducible refine B_set ?_ (by simp; omega) _))) (hei.keep (m := w.heap.size) (by repeat (first | exact B_refl | exact Below.refl _ _ | assumption | with_reducible refine B_alloc ?_ _ | with_reducible refine B_ext ?_ _ | with_reducible refine B_drew ?_ | with_reducible refine B_drewN ?_ _ | with_reducible refine B_set ?_ (by simp; omega) _)))).mono ?_; rintro e wq ⟨rfl, zk, rfl⟩; rw [HCK.out])
                          | (go_at_call 27; refine (rSite_any ss rs _ _ _ _ _ _ _ _ _ _ _ (hyi.keep (m := w.heap.size) (by repeat (first | exact B_refl | exact Below.refl _ _ | assumption | with_reducible refine B_alloc ?_ _ | with_reducible refine B_ext ?_ _ | with_reducible refine B_drew ?_ | with_reducible refine B_drewN ?_ _ | with_reducible refine B_set ?_ (by simp; omega) _)))).mono ?_; rintro e wq ⟨rfl, zt, rfl⟩; rw [hsi])
                          | (go_at_call 28; refine (rIsContainer_any _ _).mono ?_; rintro e wq ⟨rfl, rfl⟩; rw [hgc])
                          | (go_at_call 21; refine (rIsDay_any _ _).mono ?_; rintro e wq ⟨rfl, rfl⟩; rw [hgd])
                          | (go_at_call 29; refine (bwithin_any _ _ _ _).mono ?_; rintro e wq ⟨rfl, rfl⟩; rw [hgl])
                          | (go_at_call 38; refine (HRF _ (hyi.keep (m := w.heap.size) (by repeat (first | exact B_refl | exact Below.refl _ _ | assumption | with_reducible refine B_alloc ?_ _ | with_reducible refine B_ext ?_ _ | with_reducible refine B_drew ?_ | with_reducible refine B_drewN ?_ _ | with_reducible refine B_set ?_ (by simp; omega) _))) (hei.keep (m := w.heap.size) (by repeat (first | exact B_refl | exact Below.refl _ _ | assumption | with_reducible refine B_alloc ?_ _ | with_reducible refine B_ext ?_ _ | with_reducible refine B_drew ?_ | with_reducible refine B_drewN ?_ _ | with_reducible refine B_set ?_ (by simp; omega) _)))).mono ?_; rintro e wq ⟨v, rfl, hown2, zr, rfl⟩; obtain ⟨F2, fc2, rfl, hSF2, _⟩ := own_sl berth_len hown2; clear hown2)
                          | (go_at_call 37; refine (sameBerths_any fr _ _ _ _ _ (hSF1.keep (n := W1.heap.size) (by repeat (first | exact B_refl | exact Below.refl _ _ | assumption | with_reducible refine B_alloc ?_ _ | with_reducible refine B_ext ?_ _ | with_reducible refine B_drew ?_ | with_reducible refine B_drewN ?_ _ | with_reducible refine B_set ?_ (by simp; omega) _))) hSF2 hfl).mono ?_; rintro e wq ⟨rfl, zu, rfl⟩)
                          | (go_at_call 39; refine (HRFF _ (hyi.keep (m := w.heap.size) (by repeat (first | exact B_refl | exact Below.refl _ _ | assumption | with_reducible refine B_alloc ?_ _ | with_reducible refine B_ext ?_ _ | with_reducible refine B_drew ?_ | with_reducible refine B_drewN ?_ _ | with_reducible refine B_set ?_ (by simp; omega) _))) (hei.keep (m := w.heap.size) (by repeat (first | exact B_refl | exact Below.refl _ _ | assumption | with_reducible refine B_alloc ?_ _ | with_reducible refine B_ext ?_ _ | with_reducible refine B_drew ?_ | with_reducible refine B_drewN ?_ _ | with_reducible refine B_set ?_ (by simp; omega) _)))).mono ?_; rintro e wq ⟨rfl, zq, rfl⟩)
                          | (go_at_call 40; refine (HRL _ (hyi.keep (m := w.heap.size) (by repeat (first | exact B_refl | exact Below.refl _ _ | assumption | with_reducible refine B_alloc ?_ _ | with_reducible refine B_ext ?_ _ | with_reducible refine B_drew ?_ | with_reducible refine B_drewN ?_ _ | with_reducible refine B_set ?_ (by simp; omega) _))) (hei.keep (m := w.heap.size) (by repeat (first | exact B_refl | exact Below.refl _ _ | assumption | with_reducible refine B_alloc ?_ _ | with_reducible refine B_ext ?_ _ | with_reducible refine B_drew ?_ | with_reducible refine B_drewN ?_ _ | with_reducible refine B_set ?_ (by simp; omega) _)))).mono ?_; rintro e wq ⟨rfl, zq, rfl⟩))
            go_ret
            exact Ret.of rfl (by repeat (first | exact B_refl | exact Below.refl _ _ | assumption | with_reducible refine B_alloc ?_ _ | with_reducible refine B_ext ?_ _ | with_reducible refine B_drew ?_ | with_reducible refine B_drewN ?_ _ | with_reducible refine B_set ?_ (by simp; omega) _))
          · simp [hgc, hgd, hgl, hk] at hFL hFF hLF
            obtain ⟨rfl, rfl⟩ := hFL
            obtain ⟨rfl, rfl⟩ := hFF
            obtain ⟨rfl, rfl⟩ := hLF
            go_wp2_with (first
                          | (go_at_call 20; refine (rCheck_any ss rs _ _ _ _ _ _ _ _ _ es _ _ _ _ (hyi.keep (m := w.heap.size) (by repeat (first | exact B_refl | exact Below.refl _ _ | assumption | with_reducible refine B_alloc ?_ _ | with_reducible refine B_ext ?_ _ | with_reducible refine B_drew ?_ | with_reducible refine B_drewN ?_ _ | with_reducible refine B_set ?_ (by simp; omega) _))) (hei.keep (m := w.heap.size) (by repeat (first | exact B_refl | exact Below.refl _ _ | assumption | with_reducible refine B_alloc ?_ _ | with_reducible refine B_ext ?_ _ | with_reducible refine B_drew ?_ | with_reducible refine B_drewN ?_ _ | with_reducible refine B_set ?_ (by simp; omega) _)))).mono ?_; rintro e wq ⟨rfl, zk, rfl⟩; rw [HCK.out])
                          | (go_at_call 27; refine (rSite_any ss rs _ _ _ _ _ _ _ _ _ _ _ (hyi.keep (m := w.heap.size) (by repeat (first | exact B_refl | exact Below.refl _ _ | assumption | with_reducible refine B_alloc ?_ _ | with_reducible refine B_ext ?_ _ | with_reducible refine B_drew ?_ | with_reducible refine B_drewN ?_ _ | with_reducible refine B_set ?_ (by simp; omega) _)))).mono ?_; rintro e wq ⟨rfl, zt, rfl⟩; rw [hsi])
                          | (go_at_call 28; refine (rIsContainer_any _ _).mono ?_; rintro e wq ⟨rfl, rfl⟩; rw [hgc])
                          | (go_at_call 21; refine (rIsDay_any _ _).mono ?_; rintro e wq ⟨rfl, rfl⟩; rw [hgd])
                          | (go_at_call 29; refine (bwithin_any _ _ _ _).mono ?_; rintro e wq ⟨rfl, rfl⟩; rw [hgl])
                          | (go_at_call 38; refine (HRF _ (hyi.keep (m := w.heap.size) (by repeat (first | exact B_refl | exact Below.refl _ _ | assumption | with_reducible refine B_alloc ?_ _ | with_reducible refine B_ext ?_ _ | with_reducible refine B_drew ?_ | with_reducible refine B_drewN ?_ _ | with_reducible refine B_set ?_ (by simp; omega) _))) (hei.keep (m := w.heap.size) (by repeat (first | exact B_refl | exact Below.refl _ _ | assumption | with_reducible refine B_alloc ?_ _ | with_reducible refine B_ext ?_ _ | with_reducible refine B_drew ?_ | with_reducible refine B_drewN ?_ _ | with_reducible refine B_set ?_ (by simp; omega) _)))).mono ?_; rintro e wq ⟨v, rfl, hown2, zr, rfl⟩; obtain ⟨F2, fc2, rfl, hSF2, _⟩ := own_sl berth_len hown2; clear hown2)
                          | (go_at_call 37; refine (sameBerths_any fr _ _ _ _ _ (hSF1.keep (n := W1.heap.size) (by repeat (first | exact B_refl | exact Below.refl _ _ | assumption | with_reducible refine B_alloc ?_ _ | with_reducible refine B_ext ?_ _ | with_reducible refine B_drew ?_ | with_reducible refine B_drewN ?_ _ | with_reducible refine B_set ?_ (by simp; omega) _))) hSF2 hfl).mono ?_; rintro e wq ⟨rfl, zu, rfl⟩)
                          | (go_at_call 39; refine (HRFF _ (hyi.keep (m := w.heap.size) (by repeat (first | exact B_refl | exact Below.refl _ _ | assumption | with_reducible refine B_alloc ?_ _ | with_reducible refine B_ext ?_ _ | with_reducible refine B_drew ?_ | with_reducible refine B_drewN ?_ _ | with_reducible refine B_set ?_ (by simp; omega) _))) (hei.keep (m := w.heap.size) (by repeat (first | exact B_refl | exact Below.refl _ _ | assumption | with_reducible refine B_alloc ?_ _ | with_reducible refine B_ext ?_ _ | with_reducible refine B_drew ?_ | with_reducible refine B_drewN ?_ _ | with_reducible refine B_set ?_ (by simp; omega) _)))).mono ?_; rintro e wq ⟨rfl, zq, rfl⟩)
                          | (go_at_call 40; refine (HRL _ (hyi.keep (m := w.heap.size) (by repeat (first | exact B_refl | exact Below.refl _ _ | assumption | with_reducible refine B_alloc ?_ _ | with_reducible refine B_ext ?_ _ | with_reducible refine B_drew ?_ | with_reducible refine B_drewN ?_ _ | with_reducible refine B_set ?_ (by simp; omega) _))) (hei.keep (m := w.heap.size) (by repeat (first | exact B_refl | exact Below.refl _ _ | assumption | with_reducible refine B_alloc ?_ _ | with_reducible refine B_ext ?_ _ | with_reducible refine B_drew ?_ | with_reducible refine B_drewN ?_ _ | with_reducible refine B_set ?_ (by simp; omega) _)))).mono ?_; rintro e wq ⟨rfl, zq, rfl⟩))
            go_ret
            exact Ret.of rfl (by repeat (first | exact B_refl | exact Below.refl _ _ | assumption | with_reducible refine B_alloc ?_ _ | with_reducible refine B_ext ?_ _ | with_reducible refine B_drew ?_ | with_reducible refine B_drewN ?_ _ | with_reducible refine B_set ?_ (by simp; omega) _))
        · by_cases hk : k = 3
          · subst hk
            by_cases hneg : Y < 0
            · simp [hgc, hgd, hgl, hneg] at hFL hFF hLF
              obtain ⟨rfl, rfl⟩ := hFL
              obtain ⟨rfl, rfl⟩ := hFF
              obtain ⟨rfl, rfl⟩ := hLF
              go_wp2_with (first
                            | (go_at_call 20; refine (rCheck_any ss rs _ _ _ _ _ _ _ _ _ es _ _ _ _ (hyi.keep (m := w.heap.size) (by repeat (first | exact B_refl | exact Below.refl _ _ | assumption | with_reducible refine B_alloc ?_ _ | with_reducible refine B_ext ?_ _ | with_reducible refine B_drew ?_ | with_reducible refine B_drewN ?_ _ | with_reducible refine B_set ?_ (by simp; omega) _))) (hei.keep (m := w.heap.size) (by repeat (first | exact B_refl | exact Below.refl _ _ | assumption | with_reducible refine B_alloc ?_ _ | with_reducible refine B_ext ?_ _ | with_reducible refine B_drew ?_ | with_reducible refine B_drewN ?_ _ | with_reducible refine B_set ?_ (by simp; omega) _)))).mono ?_; rintro e wq ⟨rfl, zk, rfl⟩; rw [HCK.out])
                            | (go_at_call 27; refine (rSite_any ss rs _ _ _ _ _ _ _ _ _ _ _ (hyi.keep (m := w.heap.size) (by repeat (first | exact B_refl | exact Below.refl _ _ | assumption | with_reducible refine B_alloc ?_ _ | with_reducible refine B_ext ?_ _ | with_reducible refine B_drew ?_ | with_reducible refine B_drewN ?_ _ | with_reducible refine B_set ?_ (by simp; omega) _)))).mono ?_; rintro e wq ⟨rfl, zt, rfl⟩; rw [hsi])
                            | (go_at_call 28; refine (rIsContainer_any _ _).mono ?_; rintro e wq ⟨rfl, rfl⟩; rw [hgc])
                            | (go_at_call 21; refine (rIsDay_any _ _).mono ?_; rintro e wq ⟨rfl, rfl⟩; rw [hgd])
                            | (go_at_call 29; refine (bwithin_any _ _ _ _).mono ?_; rintro e wq ⟨rfl, rfl⟩; rw [hgl])
                            | (go_at_call 38; refine (HRF _ (hyi.keep (m := w.heap.size) (by repeat (first | exact B_refl | exact Below.refl _ _ | assumption | with_reducible refine B_alloc ?_ _ | with_reducible refine B_ext ?_ _ | with_reducible refine B_drew ?_ | with_reducible refine B_drewN ?_ _ | with_reducible refine B_set ?_ (by simp; omega) _))) (hei.keep (m := w.heap.size) (by repeat (first | exact B_refl | exact Below.refl _ _ | assumption | with_reducible refine B_alloc ?_ _ | with_reducible refine B_ext ?_ _ | with_reducible refine B_drew ?_ | with_reducible refine B_drewN ?_ _ | with_reducible refine B_set ?_ (by simp; omega) _)))).mono ?_; rintro e wq ⟨v, rfl, hown2, zr, rfl⟩; obtain ⟨F2, fc2, rfl, hSF2, _⟩ := own_sl berth_len hown2; clear hown2)
                            | (go_at_call 37; refine (sameBerths_any fr _ _ _ _ _ (hSF1.keep (n := W1.heap.size) (by repeat (first | exact B_refl | exact Below.refl _ _ | assumption | with_reducible refine B_alloc ?_ _ | with_reducible refine B_ext ?_ _ | with_reducible refine B_drew ?_ | with_reducible refine B_drewN ?_ _ | with_reducible refine B_set ?_ (by simp; omega) _))) hSF2 hfl).mono ?_; rintro e wq ⟨rfl, zu, rfl⟩)
                            | (go_at_call 39; refine (HRFF _ (hyi.keep (m := w.heap.size) (by repeat (first | exact B_refl | exact Below.refl _ _ | assumption | with_reducible refine B_alloc ?_ _ | with_reducible refine B_ext ?_ _ | with_reducible refine B_drew ?_ | with_reducible refine B_drewN ?_ _ | with_reducible refine B_set ?_ (by simp; omega) _))) (hei.keep (m := w.heap.size) (by repeat (first | exact B_refl | exact Below.refl _ _ | assumption | with_reducible refine B_alloc ?_ _ | with_reducible refine B_ext ?_ _ | with_reducible refine B_drew ?_ | with_reducible refine B_drewN ?_ _ | with_reducible refine B_set ?_ (by simp; omega) _)))).mono ?_; rintro e wq ⟨rfl, zq, rfl⟩)
                            | (go_at_call 40; refine (HRL _ (hyi.keep (m := w.heap.size) (by repeat (first | exact B_refl | exact Below.refl _ _ | assumption | with_reducible refine B_alloc ?_ _ | with_reducible refine B_ext ?_ _ | with_reducible refine B_drew ?_ | with_reducible refine B_drewN ?_ _ | with_reducible refine B_set ?_ (by simp; omega) _))) (hei.keep (m := w.heap.size) (by repeat (first | exact B_refl | exact Below.refl _ _ | assumption | with_reducible refine B_alloc ?_ _ | with_reducible refine B_ext ?_ _ | with_reducible refine B_drew ?_ | with_reducible refine B_drewN ?_ _ | with_reducible refine B_set ?_ (by simp; omega) _)))).mono ?_; rintro e wq ⟨rfl, zq, rfl⟩))
              go_ret
              exact Ret.of rfl (by repeat (first | exact B_refl | exact Below.refl _ _ | assumption | with_reducible refine B_alloc ?_ _ | with_reducible refine B_ext ?_ _ | with_reducible refine B_drew ?_ | with_reducible refine B_drewN ?_ _ | with_reducible refine B_set ?_ (by simp; omega) _))
            · simp [hgc, hgd, hgl, hneg] at hFL hFF hLF
              obtain ⟨rfl, rfl⟩ := hFL
              obtain ⟨rfl, rfl⟩ := hFF
              obtain ⟨rfl, rfl⟩ := hLF
              go_wp2_with (first
                            | (go_at_call 20; refine (rCheck_any ss rs _ _ _ _ _ _ _ _ _ es _ _ _ _ (hyi.keep (m := w.heap.size) (by repeat (first | exact B_refl | exact Below.refl _ _ | assumption | with_reducible refine B_alloc ?_ _ | with_reducible refine B_ext ?_ _ | with_reducible refine B_drew ?_ | with_reducible refine B_drewN ?_ _ | with_reducible refine B_set ?_ (by simp; omega) _))) (hei.keep (m := w.heap.size) (by repeat (first | exact B_refl | exact Below.refl _ _ | assumption | with_reducible refine B_alloc ?_ _ | with_reducible refine B_ext ?_ _ | with_reducible refine B_drew ?_ | with_reducible refine B_drewN ?_ _ | with_reducible refine B_set ?_ (by simp; omega) _)))).mono ?_; rintro e wq ⟨rfl, zk, rfl⟩; rw [HCK.out])
                            | (go_at_call 27; refine (rSite_any ss rs _ _ _ _ _ _ _ _ _ _ _ (hyi.keep (m := w.heap.size) (by repeat (first | exact B_refl | exact Below.refl _ _ | assumption | with_reducible refine B_alloc ?_ _ | with_reducible refine B_ext ?_ _ | with_reducible refine B_drew ?_ | with_reducible refine B_drewN ?_ _ | with_reducible refine B_set ?_ (by simp; omega) _)))).mono ?_; rintro e wq ⟨rfl, zt, rfl⟩; rw [hsi])
                            | (go_at_call 28; refine (rIsContainer_any _ _).mono ?_; rintro e wq ⟨rfl, rfl⟩; rw [hgc])
                            | (go_at_call 21; refine (rIsDay_any _ _).mono ?_; rintro e wq ⟨rfl, rfl⟩; rw [hgd])
                            | (go_at_call 29; refine (bwithin_any _ _ _ _).mono ?_; rintro e wq ⟨rfl, rfl⟩; rw [hgl])
                            | (go_at_call 38; refine (HRF _ (hyi.keep (m := w.heap.size) (by repeat (first | exact B_refl | exact Below.refl _ _ | assumption | with_reducible refine B_alloc ?_ _ | with_reducible refine B_ext ?_ _ | with_reducible refine B_drew ?_ | with_reducible refine B_drewN ?_ _ | with_reducible refine B_set ?_ (by simp; omega) _))) (hei.keep (m := w.heap.size) (by repeat (first | exact B_refl | exact Below.refl _ _ | assumption | with_reducible refine B_alloc ?_ _ | with_reducible refine B_ext ?_ _ | with_reducible refine B_drew ?_ | with_reducible refine B_drewN ?_ _ | with_reducible refine B_set ?_ (by simp; omega) _)))).mono ?_; rintro e wq ⟨v, rfl, hown2, zr, rfl⟩; obtain ⟨F2, fc2, rfl, hSF2, _⟩ := own_sl berth_len hown2; clear hown2)
                            | (go_at_call 37; refine (sameBerths_any fr _ _ _ _ _ (hSF1.keep (n := W1.heap.size) (by repeat (first | exact B_refl | exact Below.refl _ _ | assumption | with_reducible refine B_alloc ?_ _ | with_reducible refine B_ext ?_ _ | with_reducible refine B_drew ?_ | with_reducible refine B_drewN ?_ _ | with_reducible refine B_set ?_ (by simp; omega) _))) hSF2 hfl).mono ?_; rintro e wq ⟨rfl, zu, rfl⟩)
                            | (go_at_call 39; refine (HRFF _ (hyi.keep (m := w.heap.size) (by repeat (first | exact B_refl | exact Below.refl _ _ | assumption | with_reducible refine B_alloc ?_ _ | with_reducible refine B_ext ?_ _ | with_reducible refine B_drew ?_ | with_reducible refine B_drewN ?_ _ | with_reducible refine B_set ?_ (by simp; omega) _))) (hei.keep (m := w.heap.size) (by repeat (first | exact B_refl | exact Below.refl _ _ | assumption | with_reducible refine B_alloc ?_ _ | with_reducible refine B_ext ?_ _ | with_reducible refine B_drew ?_ | with_reducible refine B_drewN ?_ _ | with_reducible refine B_set ?_ (by simp; omega) _)))).mono ?_; rintro e wq ⟨rfl, zq, rfl⟩)
                            | (go_at_call 40; refine (HRL _ (hyi.keep (m := w.heap.size) (by repeat (first | exact B_refl | exact Below.refl _ _ | assumption | with_reducible refine B_alloc ?_ _ | with_reducible refine B_ext ?_ _ | with_reducible refine B_drew ?_ | with_reducible refine B_drewN ?_ _ | with_reducible refine B_set ?_ (by simp; omega) _))) (hei.keep (m := w.heap.size) (by repeat (first | exact B_refl | exact Below.refl _ _ | assumption | with_reducible refine B_alloc ?_ _ | with_reducible refine B_ext ?_ _ | with_reducible refine B_drew ?_ | with_reducible refine B_drewN ?_ _ | with_reducible refine B_set ?_ (by simp; omega) _)))).mono ?_; rintro e wq ⟨rfl, zq, rfl⟩))
              go_ret
              exact Ret.of rfl (by repeat (first | exact B_refl | exact Below.refl _ _ | assumption | with_reducible refine B_alloc ?_ _ | with_reducible refine B_ext ?_ _ | with_reducible refine B_drew ?_ | with_reducible refine B_drewN ?_ _ | with_reducible refine B_set ?_ (by simp; omega) _))
          · by_cases hneg : Y < 0
            · simp [hgc, hgd, hgl, hneg, hk] at hFL hFF hLF
              obtain ⟨rfl, rfl⟩ := hFL
              obtain ⟨rfl, rfl⟩ := hFF
              obtain ⟨rfl, rfl⟩ := hLF
              go_wp2_with (first
                            | (go_at_call 20; refine (rCheck_any ss rs _ _ _ _ _ _ _ _ _ es _ _ _ _ (hyi.keep (m := w.heap.size) (by repeat (first | exact B_refl | exact Below.refl _ _ | assumption | with_reducible refine B_alloc ?_ _ | with_reducible refine B_ext ?_ _ | with_reducible refine B_drew ?_ | with_reducible refine B_drewN ?_ _ | with_reducible refine B_set ?_ (by simp; omega) _))) (hei.keep (m := w.heap.size) (by repeat (first | exact B_refl | exact Below.refl _ _ | assumption | with_reducible refine B_alloc ?_ _ | with_reducible refine B_ext ?_ _ | with_reducible refine B_drew ?_ | with_reducible refine B_drewN ?_ _ | with_reducible refine B_set ?_ (by simp; omega) _)))).mono ?_; rintro e wq ⟨rfl, zk, rfl⟩; rw [HCK.out])
                            | (go_at_call 27; refine (rSite_any ss rs _ _ _ _ _ _ _ _ _ _ _ (hyi.keep (m := w.heap.size) (by repeat (first | exact B_refl | exact Below.refl _ _ | assumption | with_reducible refine B_alloc ?_ _ | with_reducible refine B_ext ?_ _ | with_reducible refine B_drew ?_ | with_reducible refine B_drewN ?_ _ | with_reducible refine B_set ?_ (by simp; omega) _)))).mono ?_; rintro e wq ⟨rfl, zt, rfl⟩; rw [hsi])
                            | (go_at_call 28; refine (rIsContainer_any _ _).mono ?_; rintro e wq ⟨rfl, rfl⟩; rw [hgc])
                            | (go_at_call 21; refine (rIsDay_any _ _).mono ?_; rintro e wq ⟨rfl, rfl⟩; rw [hgd])
                            | (go_at_call 29; refine (bwithin_any _ _ _ _).mono ?_; rintro e wq ⟨rfl, rfl⟩; rw [hgl])
                            | (go_at_call 38; refine (HRF _ (hyi.keep (m := w.heap.size) (by repeat (first | exact B_refl | exact Below.refl _ _ | assumption | with_reducible refine B_alloc ?_ _ | with_reducible refine B_ext ?_ _ | with_reducible refine B_drew ?_ | with_reducible refine B_drewN ?_ _ | with_reducible refine B_set ?_ (by simp; omega) _))) (hei.keep (m := w.heap.size) (by repeat (first | exact B_refl | exact Below.refl _ _ | assumption | with_reducible refine B_alloc ?_ _ | with_reducible refine B_ext ?_ _ | with_reducible refine B_drew ?_ | with_reducible refine B_drewN ?_ _ | with_reducible refine B_set ?_ (by simp; omega) _)))).mono ?_; rintro e wq ⟨v, rfl, hown2, zr, rfl⟩; obtain ⟨F2, fc2, rfl, hSF2, _⟩ := own_sl berth_len hown2; clear hown2)
                            | (go_at_call 37; refine (sameBerths_any fr _ _ _ _ _ (hSF1.keep (n := W1.heap.size) (by repeat (first | exact B_refl | exact Below.refl _ _ | assumption | with_reducible refine B_alloc ?_ _ | with_reducible refine B_ext ?_ _ | with_reducible refine B_drew ?_ | with_reducible refine B_drewN ?_ _ | with_reducible refine B_set ?_ (by simp; omega) _))) hSF2 hfl).mono ?_; rintro e wq ⟨rfl, zu, rfl⟩)
                            | (go_at_call 39; refine (HRFF _ (hyi.keep (m := w.heap.size) (by repeat (first | exact B_refl | exact Below.refl _ _ | assumption | with_reducible refine B_alloc ?_ _ | with_reducible refine B_ext ?_ _ | with_reducible refine B_drew ?_ | with_reducible refine B_drewN ?_ _ | with_reducible refine B_set ?_ (by simp; omega) _))) (hei.keep (m := w.heap.size) (by repeat (first | exact B_refl | exact Below.refl _ _ | assumption | with_reducible refine B_alloc ?_ _ | with_reducible refine B_ext ?_ _ | with_reducible refine B_drew ?_ | with_reducible refine B_drewN ?_ _ | with_reducible refine B_set ?_ (by simp; omega) _)))).mono ?_; rintro e wq ⟨rfl, zq, rfl⟩)
                            | (go_at_call 40; refine (HRL _ (hyi.keep (m := w.heap.size) (by repeat (first | exact B_refl | exact Below.refl _ _ | assumption | with_reducible refine B_alloc ?_ _ | with_reducible refine B_ext ?_ _ | with_reducible refine B_drew ?_ | with_reducible refine B_drewN ?_ _ | with_reducible refine B_set ?_ (by simp; omega) _))) (hei.keep (m := w.heap.size) (by repeat (first | exact B_refl | exact Below.refl _ _ | assumption | with_reducible refine B_alloc ?_ _ | with_reducible refine B_ext ?_ _ | with_reducible refine B_drew ?_ | with_reducible refine B_drewN ?_ _ | with_reducible refine B_set ?_ (by simp; omega) _)))).mono ?_; rintro e wq ⟨rfl, zq, rfl⟩))
              go_ret
              exact Ret.of rfl (by repeat (first | exact B_refl | exact Below.refl _ _ | assumption | with_reducible refine B_alloc ?_ _ | with_reducible refine B_ext ?_ _ | with_reducible refine B_drew ?_ | with_reducible refine B_drewN ?_ _ | with_reducible refine B_set ?_ (by simp; omega) _))
            · simp [hgc, hgd, hgl, hneg, hk] at hFL hFF hLF
              obtain ⟨rfl, rfl⟩ := hFL
              obtain ⟨rfl, rfl⟩ := hFF
              obtain ⟨rfl, rfl⟩ := hLF
              go_wp2_with (first
                            | (go_at_call 20; refine (rCheck_any ss rs _ _ _ _ _ _ _ _ _ es _ _ _ _ (hyi.keep (m := w.heap.size) (by repeat (first | exact B_refl | exact Below.refl _ _ | assumption | with_reducible refine B_alloc ?_ _ | with_reducible refine B_ext ?_ _ | with_reducible refine B_drew ?_ | with_reducible refine B_drewN ?_ _ | with_reducible refine B_set ?_ (by simp; omega) _))) (hei.keep (m := w.heap.size) (by repeat (first | exact B_refl | exact Below.refl _ _ | assumption | with_reducible refine B_alloc ?_ _ | with_reducible refine B_ext ?_ _ | with_reducible refine B_drew ?_ | with_reducible refine B_drewN ?_ _ | with_reducible refine B_set ?_ (by simp; omega) _)))).mono ?_; rintro e wq ⟨rfl, zk, rfl⟩; rw [HCK.out])
                            | (go_at_call 27; refine (rSite_any ss rs _ _ _ _ _ _ _ _ _ _ _ (hyi.keep (m := w.heap.size) (by repeat (first | exact B_refl | exact Below.refl _ _ | assumption | with_reducible refine B_alloc ?_ _ | with_reducible refine B_ext ?_ _ | with_reducible refine B_drew ?_ | with_reducible refine B_drewN ?_ _ | with_reducible refine B_set ?_ (by simp; omega) _)))).mono ?_; rintro e wq ⟨rfl, zt, rfl⟩; rw [hsi])
                            | (go_at_call 28; refine (rIsContainer_any _ _).mono ?_; rintro e wq ⟨rfl, rfl⟩; rw [hgc])
                            | (go_at_call 21; refine (rIsDay_any _ _).mono ?_; rintro e wq ⟨rfl, rfl⟩; rw [hgd])
                            | (go_at_call 29; refine (bwithin_any _ _ _ _).mono ?_; rintro e wq ⟨rfl, rfl⟩; rw [hgl])
                            | (go_at_call 38; refine (HRF _ (hyi.keep (m := w.heap.size) (by repeat (first | exact B_refl | exact Below.refl _ _ | assumption | with_reducible refine B_alloc ?_ _ | with_reducible refine B_ext ?_ _ | with_reducible refine B_drew ?_ | with_reducible refine B_drewN ?_ _ | with_reducible refine B_set ?_ (by simp; omega) _))) (hei.keep (m := w.heap.size) (by repeat (first | exact B_refl | exact Below.refl _ _ | assumption | with_reducible refine B_alloc ?_ _ | with_reducible refine B_ext ?_ _ | with_reducible refine B_drew ?_ | with_reducible refine B_drewN ?_ _ | with_reducible refine B_set ?_ (by simp; omega) _)))).mono ?_; rintro e wq ⟨v, rfl, hown2, zr, rfl⟩; obtain ⟨F2, fc2, rfl, hSF2, _⟩ := own_sl berth_len hown2; clear hown2)
                            | (go_at_call 37; refine (sameBerths_any fr _ _ _ _ _ (hSF1.keep (n := W1.heap.size) (by repeat (first | exact B_refl | exact Below.refl _ _ | assumption | with_reducible refine B_alloc ?_ _ | with_reducible refine B_ext ?_ _ | with_reducible refine B_drew ?_ | with_reducible refine B_drewN ?_ _ | with_reducible refine B_set ?_ (by simp; omega) _))) hSF2 hfl).mono ?_; rintro e wq ⟨rfl, zu, rfl⟩)
                            | (go_at_call 39; refine (HRFF _ (hyi.keep (m := w.heap.size) (by repeat (first | exact B_refl | exact Below.refl _ _ | assumption | with_reducible refine B_alloc ?_ _ | with_reducible refine B_ext ?_ _ | with_reducible refine B_drew ?_ | with_reducible refine B_drewN ?_ _ | with_reducible refine B_set ?_ (by simp; omega) _))) (hei.keep (m := w.heap.size) (by repeat (first | exact B_refl | exact Below.refl _ _ | assumption | with_reducible refine B_alloc ?_ _ | with_reducible refine B_ext ?_ _ | with_reducible refine B_drew ?_ | with_reducible refine B_drewN ?_ _ | with_reducible refine B_set ?_ (by simp; omega) _)))).mono ?_; rintro e wq ⟨rfl, zq, rfl⟩)
                            | (go_at_call 40; refine (HRL _ (hyi.keep (m := w.heap.size) (by repeat (first | exact B_refl | exact Below.refl _ _ | assumption | with_reducible refine B_alloc ?_ _ | with_reducible refine B_ext ?_ _ | with_reducible refine B_drew ?_ | with_reducible refine B_drewN ?_ _ | with_reducible refine B_set ?_ (by simp; omega) _))) (hei.keep (m := w.heap.size) (by repeat (first | exact B_refl | exact Below.refl _ _ | assumption | with_reducible refine B_alloc ?_ _ | with_reducible refine B_ext ?_ _ | with_reducible refine B_drew ?_ | with_reducible refine B_drewN ?_ _ | with_reducible refine B_set ?_ (by simp; omega) _)))).mono ?_; rintro e wq ⟨rfl, zq, rfl⟩))
              go_ret
              exact Ret.of rfl (by repeat (first | exact B_refl | exact Below.refl _ _ | assumption | with_reducible refine B_alloc ?_ _ | with_reducible refine B_ext ?_ _ | with_reducible refine B_drew ?_ | with_reducible refine B_drewN ?_ _ | with_reducible refine B_set ?_ (by simp; omega) _))
end Go.Proofs.Ytmiobhlgpjjbgaa
