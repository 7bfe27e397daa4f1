/- Walk: the law GraveRests. -/
/- GraveRests: for every yard, events, day and name the law returns true, and the input reads as it did. No conditions. -/
import Derived.Test.YtpohkolapgofdaaGreatQF
import Derived.Test.YtpohkolapgofdaaGreatR3
import Derived.Test.YtpohkolapgofdaaGreatRows
import Derived.Test.YtpohkolapgofdaaGreatD1
namespace Go.Proofs.YtpohkolapgofdaaGreat
open Go.RowKit
attribute [local go_sem] World.cell?_alloc_mark ext_size ext_cell ext_frozen lt_add_r lt_add_r2 lt_add_r3 lt_add_r4 lt_add_r5 lt_add_r6 lt_add_r7 lt_add_r8

set_option maxRecDepth 100000 in
set_option maxHeartbeats 2000000 in
theorem texts_any (xs : List ByteArray) (P Q : Option Addr) (pc qc : Nat) (w : World) (hp : Sl w 1 strCells P xs) (hq : Sl w 1 strCells Q xs) (hl : xs.length ≤ 100000) :
    Calls Tryz.prog 24 #[.slice P xs.length pc, .slice Q xs.length qc] w (Ret w (.bool true)) := by
  go_enter Tryz.func24, Tryz.ntmps24
  go_wp2_with fail
  go_loopw [5] (fun i wr => ∃ j : Nat, j ≤ xs.length ∧ i = .int .i64 j ∧ ∃ z, wr = w.ext z) (fun i _ => xs.length - (intOf i).toNat)
  case atStart => exact ⟨0, Nat.zero_le _, rfl, ext_below (Below.refl _ _)⟩
  case round =>
    obtain ⟨j, hj, rfl, z, rfl⟩ := hrel
    by_cases hlt : j < xs.length
    · obtain ⟨b, off, rfl, hb, hc⟩ := hp.at hlt
      obtain ⟨b', off', rfl, hb', hc'⟩ := hq.at hlt
      have hlt2 : (j : Int) < (xs.length : Int) := by omega
      have hj0 : (0 : Int) ≤ (j : Int) := by omega
      generalize xs[j] = x at *
      have x0 : w.cell? ⟨b, off + j, none⟩ = some (.string x) := by simpa using hc 0 _ rfl
      have y0 : w.cell? ⟨b', off' + j, none⟩ = some (.string x) := by simpa using hc' 0 _ rfl
      clear hc hc'
      go_wp2_with fail
      (refine wp_region_ext_lit (by kernel_rfl) (by kernel_rfl) ?_
       repeat (first | go_big_quiet_skip | (go_big_quiet_want; go_big_quiet_op; first | go_big_quiet_on | (apply Exists.intro; refine ⟨fun _ => ?_, ?_⟩; (fail); go_big_quiet_on)))
       refine wpQuiet_nil ?_
       rintro _ ⟨zq, rfl⟩)
      go_wp2_with fail
      go_roundw
      case rel => exact ⟨j + 1, by omega, by go_num, ext_below (by repeat (first | exact B_refl | exact Below.refl _ _ | assumption | with_reducible refine B_alloc ?_ _ | with_reducible refine B_ext ?_ _ | with_reducible refine B_drew ?_ | with_reducible refine B_drewN ?_ _ | with_reducible refine B_set ?_ (by simp; omega) _))⟩
      case measure => simp [intOf]; omega
    · have hnl : ¬ ((j : Int) < (xs.length : Int)) := by omega
      go_wp2_with fail
      go_ret
      exact Ret.of rfl (by repeat (first | exact B_refl | exact Below.refl _ _ | assumption | with_reducible refine B_alloc ?_ _ | with_reducible refine B_ext ?_ _ | with_reducible refine B_drew ?_ | with_reducible refine B_drewN ?_ _ | with_reducible refine B_set ?_ (by simp; omega) _))
set_option maxRecDepth 100000 in
set_option maxHeartbeats 2000000 in
theorem graveRests_any (ss : List Site) (rs : List Rest) (A R : Option Addr) (n c rn rc : Nat) (c0 c1 c2 : Int) (es : List Event) (E : Option Addr) (en ec : Nat) (day : Int) (nm : ByteArray) (w : World) (hy : YardRaw w ss rs A n c R rn rc) (hev : EventsRaw w es E en) (hcap : es.length ≤ ec) :
    Calls Tryz.prog 4 #[.agg #[.slice A n c, .slice R rn rc, .int .i64 c0, .int .i64 c1, .int .i64 c2], .agg #[.slice E en ec, .int .i64 day, .string nm]] w (Ret w (.bool true)) := by
  have h1 := hy.hn
  have h2 := hy.hrn
  subst h1 h2
  go_enter Tryz.func4, Tryz.ntmps4
  cases hsm : smallP ss rs
  · go_wp2_with (first
                  | (go_at_call 6; refine (awake_any _).mono ?_; rintro e wq ⟨rfl, za, rfl⟩)
                  | (go_at_call 7; refine (small_any ss rs _ _ _ _ _ _ _ _ _ _ (hy.keep (m := w.heap.size) (by repeat (first | exact B_refl | exact Below.refl _ _ | assumption | with_reducible refine B_alloc ?_ _ | with_reducible refine B_ext ?_ _ | with_reducible refine B_drew ?_ | with_reducible refine B_drewN ?_ _ | with_reducible refine B_set ?_ (by simp; omega) _)))).mono ?_; rintro e wq ⟨rfl, zs, rfl⟩; rw [hsm])
                  | (go_at_call 8; refine (few_any es _ _ _ _ (hev.keep (m := w.heap.size) (by repeat (first | exact B_refl | exact Below.refl _ _ | assumption | with_reducible refine B_alloc ?_ _ | with_reducible refine B_ext ?_ _ | with_reducible refine B_drew ?_ | with_reducible refine B_drewN ?_ _ | with_reducible refine B_set ?_ (by simp; omega) _)))).mono ?_; rintro e wq ⟨rfl, zf, rfl⟩; rw [hfw]))
    go_ret
    exact Ret.of rfl (by repeat (first | exact B_refl | exact Below.refl _ _ | assumption | with_reducible refine B_alloc ?_ _ | with_reducible refine B_ext ?_ _ | with_reducible refine B_drew ?_ | with_reducible refine B_drewN ?_ _ | with_reducible refine B_set ?_ (by simp; omega) _))
  obtain ⟨hyi, hyl1, hyl2⟩ := small_yard hy hsm
  cases hfw : fewP es
  · go_wp2_with (first
                  | (go_at_call 6; refine (awake_any _).mono ?_; rintro e wq ⟨rfl, za, rfl⟩)
                  | (go_at_call 7; refine (small_any ss rs _ _ _ _ _ _ _ _ _ _ (hy.keep (m := w.heap.size) (by repeat (first | exact B_refl | exact Below.refl _ _ | assumption | with_reducible refine B_alloc ?_ _ | with_reducible refine B_ext ?_ _ | with_reducible refine B_drew ?_ | with_reducible refine B_drewN ?_ _ | with_reducible refine B_set ?_ (by simp; omega) _)))).mono ?_; rintro e wq ⟨rfl, zs, rfl⟩; rw [hsm])
                  | (go_at_call 8; refine (few_any es _ _ _ _ (hev.keep (m := w.heap.size) (by repeat (first | exact B_refl | exact Below.refl _ _ | assumption | with_reducible refine B_alloc ?_ _ | with_reducible refine B_ext ?_ _ | with_reducible refine B_drew ?_ | with_reducible refine B_drewN ?_ _ | with_reducible refine B_set ?_ (by simp; omega) _)))).mono ?_; rintro e wq ⟨rfl, zf, rfl⟩; rw [hfw]))
    go_ret
    exact Ret.of rfl (by repeat (first | exact B_refl | exact Below.refl _ _ | assumption | with_reducible refine B_alloc ?_ _ | with_reducible refine B_ext ?_ _ | with_reducible refine B_drew ?_ | with_reducible refine B_drewN ?_ _ | with_reducible refine B_set ?_ (by simp; omega) _))
  obtain ⟨hei, hel1, hel2⟩ := few_events hev hfw
  have hen := hei.hn
  subst hen
  by_cases hn1 : 30 < (nm.size : Int)
  · go_wp2_with (first
                  | (go_at_call 6; refine (awake_any _).mono ?_; rintro e wq ⟨rfl, za, rfl⟩)
                  | (go_at_call 7; refine (small_any ss rs _ _ _ _ _ _ _ _ _ _ (hy.keep (m := w.heap.size) (by repeat (first | exact B_refl | exact Below.refl _ _ | assumption | with_reducible refine B_alloc ?_ _ | with_reducible refine B_ext ?_ _ | with_reducible refine B_drew ?_ | with_reducible refine B_drewN ?_ _ | with_reducible refine B_set ?_ (by simp; omega) _)))).mono ?_; rintro e wq ⟨rfl, zs, rfl⟩; rw [hsm])
                  | (go_at_call 8; refine (few_any es _ _ _ _ (hev.keep (m := w.heap.size) (by repeat (first | exact B_refl | exact Below.refl _ _ | assumption | with_reducible refine B_alloc ?_ _ | with_reducible refine B_ext ?_ _ | with_reducible refine B_drew ?_ | with_reducible refine B_drewN ?_ _ | with_reducible refine B_set ?_ (by simp; omega) _)))).mono ?_; rintro e wq ⟨rfl, zf, rfl⟩; rw [hfw]))
    go_ret
    exact Ret.of rfl (by repeat (first | exact B_refl | exact Below.refl _ _ | assumption | with_reducible refine B_alloc ?_ _ | with_reducible refine B_ext ?_ _ | with_reducible refine B_drew ?_ | with_reducible refine B_drewN ?_ _ | with_reducible refine B_set ?_ (by simp; omega) _))
  have hc63 : ss.length ≤ 100000 := by omega
  have hc43 : rs.length ≤ 100000 := by omega
  have hel3 : es.length ≤ 100000 := by omega
  have hs60 : rCheckP c0 c1 c2 ss rs es = 0 → ss.length ≤ 60 := fun h => (checkYard_small ((read_check ss rs none none 0 0 0 0 c0 c1 c2 es).2 h).2.2.2.2.1).1
  have HRV := fun A n c R rn rc E ec W h1 h2 => gRestOver_w ss rs A R n c rn rc c0 c1 c2 es E es.length ec nm W h1 h2
  have HUS := fun A n c R rn rc E ec W h1 h2 => gReusable_w ss rs A R n c rn rc c0 c1 c2 es E es.length ec day W h1 h2 hel2 hs60
  generalize hp1 : restOverW c0 c1 c2 ss rs es nm = p1 at HRV
  generalize hp2 : reuseW c0 c1 c2 ss rs es day = p2 at HUS
  have HP1 := Lib.hid hp1
  have HP2 := Lib.hid hp2
  clear hp1 hp2
  obtain ⟨n1, r1⟩ := p1
  obtain ⟨l2, er2⟩ := p2
  go_wp2_with (first
                | (go_at_call 6; refine (awake_any _).mono ?_; rintro e wq ⟨rfl, za, rfl⟩)
                | (go_at_call 7; refine (small_any ss rs _ _ _ _ _ _ _ _ _ _ (hy.keep (m := w.heap.size) (by repeat (first | exact B_refl | exact Below.refl _ _ | assumption | with_reducible refine B_alloc ?_ _ | with_reducible refine B_ext ?_ _ | with_reducible refine B_drew ?_ | with_reducible refine B_drewN ?_ _ | with_reducible refine B_set ?_ (by simp; omega) _)))).mono ?_; rintro e wq ⟨rfl, zs, rfl⟩; rw [hsm])
                | (go_at_call 8; refine (few_any es _ _ _ _ (hev.keep (m := w.heap.size) (by repeat (first | exact B_refl | exact Below.refl _ _ | assumption | with_reducible refine B_alloc ?_ _ | with_reducible refine B_ext ?_ _ | with_reducible refine B_drew ?_ | with_reducible refine B_drewN ?_ _ | with_reducible refine B_set ?_ (by simp; omega) _)))).mono ?_; rintro e wq ⟨rfl, zf, rfl⟩; rw [hfw]))
  generalize hW0 : World.ext (World.ext (World.ext ((w.alloc (.cells #[.slice A ss.length c, .slice R rs.length rc, .int .i64 c0, .int .i64 c1, .int .i64 c2] 26)).alloc (.cells #[.slice E es.length ec, .int .i64 day, .string nm] 29)) za) zs) zf = W0
  have hB : Below w.heap.size w W0 := by rw [← hW0]; repeat (first | exact B_refl | exact Below.refl _ _ | assumption | with_reducible refine B_alloc ?_ _ | with_reducible refine B_ext ?_ _ | with_reducible refine B_drew ?_ | with_reducible refine B_drewN ?_ _ | with_reducible refine B_set ?_ (by simp; omega) _)
  have hblk : W0.heap[w.heap.size]? = some (.cells #[.slice A ss.length c, .slice R rs.length rc, .int .i64 c0, .int .i64 c1, .int .i64 c2] 26) := by rw [← hW0]; (repeat (first | with_reducible exact G_new _ _ _ (by simp) | with_reducible exact G_new _ _ _ (by simp [ext_size]) | with_reducible refine G_drew ?_ | with_reducible refine G_ext ?_ | with_reducible refine G_alloc ?_))
  have hblk1 : W0.heap[w.heap.size + 1]? = some (.cells #[.slice E es.length ec, .int .i64 day, .string nm] 29) := by rw [← hW0]; (repeat (first | with_reducible exact G_new _ _ _ (by simp) | with_reducible exact G_new _ _ _ (by simp [ext_size]) | with_reducible refine G_drew ?_ | with_reducible refine G_ext ?_ | with_reducible refine G_alloc ?_))
  have hz := blk_lt hblk
  have hz1 := blk_lt hblk1
  have g0 : W0.cell? ⟨w.heap.size, 0, none⟩ = some (.slice A ss.length c) := by simp [World.cell?, hblk]
  have g1 : W0.cell? ⟨w.heap.size, 1, none⟩ = some (.slice R rs.length rc) := by simp [World.cell?, hblk]
  have g2 : W0.cell? ⟨w.heap.size, 2, none⟩ = some (.int .i64 c0) := by simp [World.cell?, hblk]
  have g3 : W0.cell? ⟨w.heap.size, 3, none⟩ = some (.int .i64 c1) := by simp [World.cell?, hblk]
  have g4 : W0.cell? ⟨w.heap.size, 4, none⟩ = some (.int .i64 c2) := by simp [World.cell?, hblk]
  have e0 : W0.cell? ⟨w.heap.size + 1, 0, none⟩ = some (.slice E es.length ec) := by simp [World.cell?, hblk1]
  have e1 : W0.cell? ⟨w.heap.size + 1, 1, none⟩ = some (.int .i64 day) := by simp [World.cell?, hblk1]
  have e2 : W0.cell? ⟨w.heap.size + 1, 2, none⟩ = some (.string nm) := by simp [World.cell?, hblk1]
  clear hW0 hblk hblk1 hsm hfw hy hev hn1
  go_region_held3 (fun w' => w'.cell? ⟨w.heap.size, 0, none⟩ = some (.slice A ss.length c) ∧ w'.cell? ⟨w.heap.size, 1, none⟩ = some (.slice R rs.length rc) ∧ w'.cell? ⟨w.heap.size, 2, none⟩ = some (.int .i64 c0) ∧ w'.cell? ⟨w.heap.size, 3, none⟩ = some (.int .i64 c1) ∧ w'.cell? ⟨w.heap.size, 4, none⟩ = some (.int .i64 c2) ∧
                     w'.cell? ⟨w.heap.size + 1, 0, none⟩ = some (.slice E es.length ec) ∧ w'.cell? ⟨w.heap.size + 1, 1, none⟩ = some (.int .i64 day) ∧ w'.cell? ⟨w.heap.size + 1, 2, none⟩ = some (.string nm))
                    ((refine ⟨cell_kept hz g0 ?_, cell_kept hz g1 ?_, cell_kept hz g2 ?_, cell_kept hz g3 ?_, cell_kept hz g4 ?_, cell_kept hz1 e0 ?_, cell_kept hz1 e1 ?_, cell_kept hz1 e2 ?_⟩ <;> ((repeat (first | exact B_refl | exact Below.refl _ _ | assumption | with_reducible refine B_alloc ?_ _ | with_reducible refine B_ext ?_ _ | with_reducible refine B_drew ?_ | with_reducible refine B_drewN ?_ _ | with_reducible refine B_set ?_ (by simp; omega) _)); done)))
    (first
      | (go_at_call 10; refine (copyYard_any ss rs _ _ _ _ _ _ _ _ _ _ (hyi.keep (m := w.heap.size) ?q1)).mono ?_
         case q1 => repeat (first | exact B_refl | exact Below.refl _ _ | assumption | with_reducible refine B_alloc ?_ _ | with_reducible refine B_ext ?_ _ | with_reducible refine B_drew ?_ | with_reducible refine B_drewN ?_ _ | with_reducible refine B_set ?_ (by simp; omega) _)
         intro e wq hq; obtain ⟨A2, k2, R2, r2, rfl, hy2, zc1, rfl⟩ := hq.form hc63 hc43 hyi.sh; clear hq)
      | (go_at_call 11; refine (copyEvents_any es E es.length ec _ (hei.keep (m := w.heap.size) ?q1)).mono ?_
         case q1 => repeat (first | exact B_refl | exact Below.refl _ _ | assumption | with_reducible refine B_alloc ?_ _ | with_reducible refine B_ext ?_ _ | with_reducible refine B_drew ?_ | with_reducible refine B_drewN ?_ _ | with_reducible refine B_set ?_ (by simp; omega) _)
         intro e wq hq; obtain ⟨E2, k3, ze1, rfl, rfl, he2⟩ := hq.form hel3 hei.sh; clear hq)
      | (go_at_call 21; refine (HRV _ _ _ _ _ _ _ _ _ (hy2.keep ?q1) (he2.keep ?q2)).mono ?_
         case q1 => repeat (first | exact B_refl | exact Below.refl _ _ | assumption | with_reducible refine B_alloc ?_ _ | with_reducible refine B_ext ?_ _ | with_reducible refine B_drew ?_ | with_reducible refine B_drewN ?_ _ | with_reducible refine B_set ?_ (by simp; omega) _)
         case q2 => repeat (first | exact B_refl | exact Below.refl _ _ | assumption | with_reducible refine B_alloc ?_ _ | with_reducible refine B_ext ?_ _ | with_reducible refine B_drew ?_ | with_reducible refine B_drewN ?_ _ | with_reducible refine B_set ?_ (by simp; omega) _)
         rintro e wq ⟨rfl, zd1, rfl⟩
         simp only [ret2]))
  generalize hW1 : World.ext (World.ext (World.ext (World.drew W0) zc1) ze1) zd1 = W1
  have hB1 : Below w.heap.size w W1 := by rw [← hW1]; repeat (first | exact B_refl | exact Below.refl _ _ | assumption | with_reducible refine B_alloc ?_ _ | with_reducible refine B_ext ?_ _ | with_reducible refine B_drew ?_ | with_reducible refine B_drewN ?_ _ | with_reducible refine B_set ?_ (by simp; omega) _)
  have hB01 : Below W0.heap.size W0 W1 := by rw [← hW1]; repeat (first | exact B_refl | exact Below.refl _ _ | assumption | with_reducible refine B_alloc ?_ _ | with_reducible refine B_ext ?_ _ | with_reducible refine B_drew ?_ | with_reducible refine B_drewN ?_ _ | with_reducible refine B_set ?_ (by simp; omega) _)
  have i0 : w.heap.size < W1.heap.size := Nat.lt_of_lt_of_le hz hB01.size
  have i1 : w.heap.size + 1 < W1.heap.size := Nat.lt_of_lt_of_le hz1 hB01.size
  have m0 := cell_kept hz g0 hB01
  have m1 := cell_kept hz g1 hB01
  have m2 := cell_kept hz g2 hB01
  have m3 := cell_kept hz g3 hB01
  have m4 := cell_kept hz g4 hB01
  have n0 := cell_kept hz1 e0 hB01
  have n1' := cell_kept hz1 e1 hB01
  have n2 := cell_kept hz1 e2 hB01
  clear hW1 hB01 g0 g1 g2 g3 g4 e0 e1 e2 hz hz1 hB HRV hy2 he2
  go_wp2_with fail
  go_region_held3 (fun w' => w'.cell? ⟨w.heap.size, 0, none⟩ = some (.slice A ss.length c) ∧ w'.cell? ⟨w.heap.size, 1, none⟩ = some (.slice R rs.length rc) ∧ w'.cell? ⟨w.heap.size, 2, none⟩ = some (.int .i64 c0) ∧ w'.cell? ⟨w.heap.size, 3, none⟩ = some (.int .i64 c1) ∧ w'.cell? ⟨w.heap.size, 4, none⟩ = some (.int .i64 c2) ∧ w'.cell? ⟨w.heap.size + 1, 0, none⟩ = some (.slice E es.length ec) ∧ w'.cell? ⟨w.heap.size + 1, 1, none⟩ = some (.int .i64 day) ∧ w'.cell? ⟨w.heap.size + 1, 2, none⟩ = some (.string nm))
    ((refine ⟨cell_kept i0 m0 ?_, cell_kept i0 m1 ?_, cell_kept i0 m2 ?_, cell_kept i0 m3 ?_, cell_kept i0 m4 ?_, cell_kept i1 n0 ?_, cell_kept i1 n1' ?_, cell_kept i1 n2 ?_⟩ <;> ((repeat (first | exact B_refl | exact Below.refl _ _ | assumption | with_reducible refine B_alloc ?_ _ | with_reducible refine B_ext ?_ _ | with_reducible refine B_drew ?_ | with_reducible refine B_drewN ?_ _ | with_reducible refine B_set ?_ (by simp; omega) _)); done)))
    (first
      | (go_at_call 10; refine (copyYard_any ss rs _ _ _ _ _ _ _ _ _ _ (hyi.keep (m := w.heap.size) ?q1)).mono ?_
         case q1 => repeat (first | exact B_refl | exact Below.refl _ _ | assumption | with_reducible refine B_alloc ?_ _ | with_reducible refine B_ext ?_ _ | with_reducible refine B_drew ?_ | with_reducible refine B_drewN ?_ _ | with_reducible refine B_set ?_ (by simp; omega) _)
         intro e wq hq; obtain ⟨A2, k2, R2, r2, rfl, hy2, zc3, rfl⟩ := hq.form hc63 hc43 hyi.sh; clear hq)
      | (go_at_call 11; refine (copyEvents_any es E es.length ec _ (hei.keep (m := w.heap.size) ?q1)).mono ?_
         case q1 => repeat (first | exact B_refl | exact Below.refl _ _ | assumption | with_reducible refine B_alloc ?_ _ | with_reducible refine B_ext ?_ _ | with_reducible refine B_drew ?_ | with_reducible refine B_drewN ?_ _ | with_reducible refine B_set ?_ (by simp; omega) _)
         intro e wq hq; obtain ⟨E2, k3, ze3, rfl, rfl, he2⟩ := hq.form hel3 hei.sh; clear hq)
      | (go_at_call 22; refine (HUS _ _ _ _ _ _ _ _ _ (hy2.keep ?q1) (he2.keep ?q2)).mono ?_
         case q1 => repeat (first | exact B_refl | exact Below.refl _ _ | assumption | with_reducible refine B_alloc ?_ _ | with_reducible refine B_ext ?_ _ | with_reducible refine B_drew ?_ | with_reducible refine B_drewN ?_ _ | with_reducible refine B_set ?_ (by simp; omega) _)
         case q2 => repeat (first | exact B_refl | exact Below.refl _ _ | assumption | with_reducible refine B_alloc ?_ _ | with_reducible refine B_ext ?_ _ | with_reducible refine B_drew ?_ | with_reducible refine B_drewN ?_ _ | with_reducible refine B_set ?_ (by simp; omega) _)
         rintro e wq ⟨v3, rfl, hown3, zd3, rfl⟩
         dsimp only at hown3
         obtain ⟨F, fc, rfl, hSF, _⟩ := own_sl str_len hown3
         clear hown3))
  generalize hW3 : World.ext (World.ext (World.ext (World.drew W1) zc3) ze3) zd3 = W3
  have hB3 : Below w.heap.size w W3 := by rw [← hW3]; repeat (first | exact B_refl | exact Below.refl _ _ | assumption | with_reducible refine B_alloc ?_ _ | with_reducible refine B_ext ?_ _ | with_reducible refine B_drew ?_ | with_reducible refine B_drewN ?_ _ | with_reducible refine B_set ?_ (by simp; omega) _)
  have hB23 : Below W1.heap.size W1 W3 := by rw [← hW3]; repeat (first | exact B_refl | exact Below.refl _ _ | assumption | with_reducible refine B_alloc ?_ _ | with_reducible refine B_ext ?_ _ | with_reducible refine B_drew ?_ | with_reducible refine B_drewN ?_ _ | with_reducible refine B_set ?_ (by simp; omega) _)
  have hSF3 : Sl W3 1 strCells F l2 := hSF.keep (by rw [← hW3]; repeat (first | exact B_refl | exact Below.refl _ _ | assumption | with_reducible refine B_alloc ?_ _ | with_reducible refine B_ext ?_ _ | with_reducible refine B_drew ?_ | with_reducible refine B_drewN ?_ _ | with_reducible refine B_set ?_ (by simp; omega) _)) (Nat.le_refl _)
  have k0 := cell_kept i0 m0 hB23
  have k1 := cell_kept i0 m1 hB23
  have k2' := cell_kept i0 m2 hB23
  have k3' := cell_kept i0 m3 hB23
  have k4 := cell_kept i0 m4 hB23
  have f0 := cell_kept i1 n0 hB23
  have f1 := cell_kept i1 n1' hB23
  have f2 := cell_kept i1 n2 hB23
  have j0 : w.heap.size < W3.heap.size := Nat.lt_of_lt_of_le i0 hB23.size
  have j1 : w.heap.size + 1 < W3.heap.size := Nat.lt_of_lt_of_le i1 hB23.size
  clear hW3 hB23 hB1 m0 m1 m2 m3 m4 n0 n1' n2 i0 i1 hSF HUS hy2 he2
  replace HP1 := HP1.out
  replace HP2 := HP2.out
  obtain ⟨C, hC⟩ : ∃ C, rCheckP c0 c1 c2 ss rs es = C := ⟨_, rfl⟩
  have HCK := Lib.hid hC
  unfold restOverW at HP1
  unfold reuseW at HP2
  rw [hC] at HP1 HP2
  cases hc0 : (C != 0)
  rotate_left
  · rw [if_pos hc0] at HP1 HP2
    obtain ⟨rfl, rfl⟩ := Prod.mk.inj HP1
    obtain ⟨rfl, rfl⟩ := Prod.mk.inj HP2
    clear HP1 HP2 hC hs60
    go_wp2_with (first
                  | (go_at_call 14; refine (rCheck_any ss rs _ _ _ _ _ _ _ _ _ es _ _ _ _ (hyi.keep (m := w.heap.size) (by repeat (first | exact B_refl | exact Below.refl _ _ | assumption | with_reducible refine B_alloc ?_ _ | with_reducible refine B_ext ?_ _ | with_reducible refine B_drew ?_ | with_reducible refine B_drewN ?_ _ | with_reducible refine B_set ?_ (by simp; omega) _))) (hei.keep (m := w.heap.size) (by repeat (first | exact B_refl | exact Below.refl _ _ | assumption | with_reducible refine B_alloc ?_ _ | with_reducible refine B_ext ?_ _ | with_reducible refine B_drew ?_ | with_reducible refine B_drewN ?_ _ | with_reducible refine B_set ?_ (by simp; omega) _)))).mono ?_; rintro e wq ⟨rfl, zk, rfl⟩; rw [HCK.out])
                  | (go_at_call 16; refine (rIsDay_any _ _).mono ?_; rintro e wq ⟨rfl, rfl⟩; rw [hd])
                  | (go_at_call 23; refine (HRO _ (hyi.keep (m := w.heap.size) (by repeat (first | exact B_refl | exact Below.refl _ _ | assumption | with_reducible refine B_alloc ?_ _ | with_reducible refine B_ext ?_ _ | with_reducible refine B_drew ?_ | with_reducible refine B_drewN ?_ _ | with_reducible refine B_set ?_ (by simp; omega) _))) (hei.keep (m := w.heap.size) (by repeat (first | exact B_refl | exact Below.refl _ _ | assumption | with_reducible refine B_alloc ?_ _ | with_reducible refine B_ext ?_ _ | with_reducible refine B_drew ?_ | with_reducible refine B_drewN ?_ _ | with_reducible refine B_set ?_ (by simp; omega) _)))).mono ?_; rintro e wq ⟨rfl, zw, rfl⟩)
                  | (go_at_call 25; refine (HRU _ (hyi.keep (m := w.heap.size) (by repeat (first | exact B_refl | exact Below.refl _ _ | assumption | with_reducible refine B_alloc ?_ _ | with_reducible refine B_ext ?_ _ | with_reducible refine B_drew ?_ | with_reducible refine B_drewN ?_ _ | with_reducible refine B_set ?_ (by simp; omega) _))) (hei.keep (m := w.heap.size) (by repeat (first | exact B_refl | exact Below.refl _ _ | assumption | with_reducible refine B_alloc ?_ _ | with_reducible refine B_ext ?_ _ | with_reducible refine B_drew ?_ | with_reducible refine B_drewN ?_ _ | with_reducible refine B_set ?_ (by simp; omega) _)))).mono ?_; rintro e wq ⟨v, rfl, hown2, zo, rfl⟩; obtain ⟨F5, fc5, rfl, hSY, _⟩ := own_sl str_len hown2; clear hown2)
                  | (go_at_call 24; refine (texts_any _ _ _ _ _ _ (hSF3.keep (n := W3.heap.size) (by repeat (first | exact B_refl | exact Below.refl _ _ | assumption | with_reducible refine B_alloc ?_ _ | with_reducible refine B_ext ?_ _ | with_reducible refine B_drew ?_ | with_reducible refine B_drewN ?_ _ | with_reducible refine B_set ?_ (by simp; omega) _))) hSY hx1).mono ?_; rintro e wq ⟨rfl, zu, rfl⟩))
    go_ret
    exact Ret.of rfl (hB3.trans ((by repeat (first | exact B_refl | exact Below.refl _ _ | assumption | with_reducible refine B_alloc ?_ _ | with_reducible refine B_ext ?_ _ | with_reducible refine B_drew ?_ | with_reducible refine B_drewN ?_ _ | with_reducible refine B_set ?_ (by simp; omega) _) : Below W3.heap.size W3 _).mono hB3.size))
  have hC0 : C = 0 := by simpa using hc0
  subst hC0
  rw [if_neg (by simp)] at HP1 HP2
  have hss := hs60 hC
  have hq := (read_check ss rs A R ss.length c rs.length rc c0 c1 c2 es).2 hC
  have hrooms := fun s hs => yard_rooms hq.2.2.2.2.1 s hs
  have hst1 : ∀ t ∈ (rReplayP c0 c1 c2 ss rs es).1, t.state = 1 → ∃ s, findSite t.site ss = some s := fun t ht h1 => by
    obtain ⟨s, hs, _⟩ := hq.1.lies t ht h1
    exact ⟨s, hs⟩
  have hst2 : ∀ t ∈ (rReplayP c0 c1 c2 ss rs (upToE day es)).1, t.state = 1 → ∃ s, findSite t.site ss = some s := fun t ht h1 => by
    obtain ⟨s, hs, _⟩ := (upTo_check (A := A) (R := R) (n := ss.length) (c := c) (rn := rs.length) (rc := rc) hC day).2.1.lies t ht h1
    exact ⟨s, hs⟩
  have HRO := fun W h1 h2 => rRestOver_any ss rs A R ss.length c rs.length rc c0 c1 c2 es E es.length ec nm W h1 h2 hrooms hst1
  have HRU := fun W h1 h2 => rReusable_any ss rs A R ss.length c rs.length rc c0 c1 c2 es E es.length ec day W h1 h2 hcap hrooms hss hst2
  have hx0 := rReuse_le ss rs (rReplayP c0 c1 c2 ss rs (upToE day es)).1 day ss
  rw [HP1] at HRO
  generalize rReuseP ss rs (rReplayP c0 c1 c2 ss rs (upToE day es)).1 day ss = X1 at *
  have hx1 : X1.length ≤ 100000 := by omega
  dsimp only at HRO
  clear hC hrooms hx0 hq hst1 hst2 hs60 HP1
  cases hd : inR day 0 200000
  · rw [hd, if_pos (by rfl)] at HP2
    obtain ⟨rfl, rfl⟩ := Prod.mk.inj HP2
    clear HP2 HRU
    go_wp2_with (first
                  | (go_at_call 14; refine (rCheck_any ss rs _ _ _ _ _ _ _ _ _ es _ _ _ _ (hyi.keep (m := w.heap.size) (by repeat (first | exact B_refl | exact Below.refl _ _ | assumption | with_reducible refine B_alloc ?_ _ | with_reducible refine B_ext ?_ _ | with_reducible refine B_drew ?_ | with_reducible refine B_drewN ?_ _ | with_reducible refine B_set ?_ (by simp; omega) _))) (hei.keep (m := w.heap.size) (by repeat (first | exact B_refl | exact Below.refl _ _ | assumption | with_reducible refine B_alloc ?_ _ | with_reducible refine B_ext ?_ _ | with_reducible refine B_drew ?_ | with_reducible refine B_drewN ?_ _ | with_reducible refine B_set ?_ (by simp; omega) _)))).mono ?_; rintro e wq ⟨rfl, zk, rfl⟩; rw [HCK.out])
                  | (go_at_call 16; refine (rIsDay_any _ _).mono ?_; rintro e wq ⟨rfl, rfl⟩; rw [hd])
                  | (go_at_call 23; refine (HRO _ (hyi.keep (m := w.heap.size) (by repeat (first | exact B_refl | exact Below.refl _ _ | assumption | with_reducible refine B_alloc ?_ _ | with_reducible refine B_ext ?_ _ | with_reducible refine B_drew ?_ | with_reducible refine B_drewN ?_ _ | with_reducible refine B_set ?_ (by simp; omega) _))) (hei.keep (m := w.heap.size) (by repeat (first | exact B_refl | exact Below.refl _ _ | assumption | with_reducible refine B_alloc ?_ _ | with_reducible refine B_ext ?_ _ | with_reducible refine B_drew ?_ | with_reducible refine B_drewN ?_ _ | with_reducible refine B_set ?_ (by simp; omega) _)))).mono ?_; rintro e wq ⟨rfl, zw, rfl⟩)
                  | (go_at_call 25; refine (HRU _ (hyi.keep (m := w.heap.size) (by repeat (first | exact B_refl | exact Below.refl _ _ | assumption | with_reducible refine B_alloc ?_ _ | with_reducible refine B_ext ?_ _ | with_reducible refine B_drew ?_ | with_reducible refine B_drewN ?_ _ | with_reducible refine B_set ?_ (by simp; omega) _))) (hei.keep (m := w.heap.size) (by repeat (first | exact B_refl | exact Below.refl _ _ | assumption | with_reducible refine B_alloc ?_ _ | with_reducible refine B_ext ?_ _ | with_reducible refine B_drew ?_ | with_reducible refine B_drewN ?_ _ | with_reducible refine B_set ?_ (by simp; omega) _)))).mono ?_; rintro e wq ⟨v, rfl, hown2, zo, rfl⟩; obtain ⟨F5, fc5, rfl, hSY, _⟩ := own_sl str_len hown2; clear hown2)
                  | (go_at_call 24; refine (texts_any _ _ _ _ _ _ (hSF3.keep (n := W3.heap.size) (by repeat (first | exact B_refl | exact Below.refl _ _ | assumption | with_reducible refine B_alloc ?_ _ | with_reducible refine B_ext ?_ _ | with_reducible refine B_drew ?_ | with_reducible refine B_drewN ?_ _ | with_reducible refine B_set ?_ (by simp; omega) _))) hSY hx1).mono ?_; rintro e wq ⟨rfl, zu, rfl⟩))
    go_ret
    exact Ret.of rfl (hB3.trans ((by repeat (first | exact B_refl | exact Below.refl _ _ | assumption | with_reducible refine B_alloc ?_ _ | with_reducible refine B_ext ?_ _ | with_reducible refine B_drew ?_ | with_reducible refine B_drewN ?_ _ | with_reducible refine B_set ?_ (by simp; omega) _) : Below W3.heap.size W3 _).mono hB3.size))
  · rw [hd, if_neg (by simp)] at HP2
    obtain ⟨rfl, rfl⟩ := Prod.mk.inj HP2
    clear HP2
    go_wp2_with (first
                  | (go_at_call 14; refine (rCheck_any ss rs _ _ _ _ _ _ _ _ _ es _ _ _ _ (hyi.keep (m := w.heap.size) (by repeat (first | exact B_refl | exact Below.refl _ _ | assumption | with_reducible refine B_alloc ?_ _ | with_reducible refine B_ext ?_ _ | with_reducible refine B_drew ?_ | with_reducible refine B_drewN ?_ _ | with_reducible refine B_set ?_ (by simp; omega) _))) (hei.keep (m := w.heap.size) (by repeat (first | exact B_refl | exact Below.refl _ _ | assumption | with_reducible refine B_alloc ?_ _ | with_reducible refine B_ext ?_ _ | with_reducible refine B_drew ?_ | with_reducible refine B_drewN ?_ _ | with_reducible refine B_set ?_ (by simp; omega) _)))).mono ?_; rintro e wq ⟨rfl, zk, rfl⟩; rw [HCK.out])
                  | (go_at_call 16; refine (rIsDay_any _ _).mono ?_; rintro e wq ⟨rfl, rfl⟩; rw [hd])
                  | (go_at_call 23; refine (HRO _ (hyi.keep (m := w.heap.size) (by repeat (first | exact B_refl | exact Below.refl _ _ | assumption | with_reducible refine B_alloc ?_ _ | with_reducible refine B_ext ?_ _ | with_reducible refine B_drew ?_ | with_reducible refine B_drewN ?_ _ | with_reducible refine B_set ?_ (by simp; omega) _))) (hei.keep (m := w.heap.size) (by repeat (first | exact B_refl | exact Below.refl _ _ | assumption | with_reducible refine B_alloc ?_ _ | with_reducible refine B_ext ?_ _ | with_reducible refine B_drew ?_ | with_reducible refine B_drewN ?_ _ | with_reducible refine B_set ?_ (by simp; omega) _)))).mono ?_; rintro e wq ⟨rfl, zw, rfl⟩)
                  | (go_at_call 25; refine (HRU _ (hyi.keep (m := w.heap.size) (by repeat (first | exact B_refl | exact Below.refl _ _ | assumption | with_reducible refine B_alloc ?_ _ | with_reducible refine B_ext ?_ _ | with_reducible refine B_drew ?_ | with_reducible refine B_drewN ?_ _ | with_reducible refine B_set ?_ (by simp; omega) _))) (hei.keep (m := w.heap.size) (by repeat (first | exact B_refl | exact Below.refl _ _ | assumption | with_reducible refine B_alloc ?_ _ | with_reducible refine B_ext ?_ _ | with_reducible refine B_drew ?_ | with_reducible refine B_drewN ?_ _ | with_reducible refine B_set ?_ (by simp; omega) _)))).mono ?_; rintro e wq ⟨v, rfl, hown2, zo, rfl⟩; obtain ⟨F5, fc5, rfl, hSY, _⟩ := own_sl str_len hown2; clear hown2)
                  | (go_at_call 24; refine (texts_any _ _ _ _ _ _ (hSF3.keep (n := W3.heap.size) (by repeat (first | exact B_refl | exact Below.refl _ _ | assumption | with_reducible refine B_alloc ?_ _ | with_reducible refine B_ext ?_ _ | with_reducible refine B_drew ?_ | with_reducible refine B_drewN ?_ _ | with_reducible refine B_set ?_ (by simp; omega) _))) hSY hx1).mono ?_; rintro e wq ⟨rfl, zu, rfl⟩))
    go_ret
    exact Ret.of rfl (hB3.trans ((by repeat (first | exact B_refl | exact Below.refl _ _ | assumption | with_reducible refine B_alloc ?_ _ | with_reducible refine B_ext ?_ _ | with_reducible refine B_drew ?_ | with_reducible refine B_drewN ?_ _ | with_reducible refine B_set ?_ (by simp; omega) _) : Below W3.heap.size W3 _).mono hB3.size))
end Go.Proofs.YtpohkolapgofdaaGreat
namespace Go.Proofs.YtpohkolapgofdaaGreat
open Go.ChangeShapes Go.WideShapes Go.ChangeAt Go.RowKit

set_option maxRecDepth 100000 in
theorem graveRests_lifted (os : Os) (started : os.Started) (H : Type) (enc : TypeId × Value → H) :
    ReturnsInHanded {} Tryz.checked os 4 .any (Rows.graveRestsSpec.pre6 enc Tryz.prog Tryz.f4 Rows.graveRestsRow.domain false) (Rows.graveRestsSpec.post enc Tryz.prog Tryz.f4 false true false false) := by
  refine returnsInHanded_of_change (C := Tryz.checked) own_knob started (by kernel_rfl) Tryz.func4
    (ChangeSpec.witness6 (enc := enc) (C := Tryz.checked) false ⟨#[], #[.agg #[.slice none 0 0, .slice none 0 0, .int .i64 0, .int .i64 0, .int .i64 0], .agg #[.slice none 0 0, .int .i64 0, .string ⟨#[]⟩]], []⟩ 8 (by kernel_rfl) (by kernel_rfl) (by kernel_rfl) (by kernel_rfl)) ?_
  intro W base args ds gs before hval0 hW hcnd _
  have hval : ∀ (j : Nat) t v, Tryz.f4.params[j]? = some t → args[j]? = some v → Value.okWide Tryz.prog W .any base t v := hval0
  have hW' := hW
  obtain ⟨p, q, hA0, hV, rfl, hfz, hnd⟩ := hW
  have hA : DataW.TrodAll enc Tryz.prog W 0 (fun _ => true) true Tryz.f4.params.toList args.toList ds p := hA0
  rw [Tryz.params4] at hA hval
  obtain ⟨v0, vs0, d0, ds0, p0, q0, hargs, rfl, rfl, h0, r0⟩ := trodAll_cons hA
  obtain ⟨v1, vs1, d1, ds1, p1, q1, rfl, rfl, rfl, h1, r1⟩ := trodAll_cons r0
  obtain ⟨rfl, rfl, rfl⟩ := trodAll_nil r1
  obtain rfl : args = #[v0, v1] := by cases args; simp_all
  obtain ⟨rfl, rfl⟩ := trodVars_none hV
  have k0 := h0
  have k1 := h1
  have lt0 : ∀ x ∈ p0, x.block < W.heap.size := by obtain ⟨m, hm⟩ := k0; exact DataW.trod_lt m _ _ _ hm
  have lt1 : ∀ x ∈ p1, x.block < W.heap.size := by obtain ⟨m, hm⟩ := k1; exact DataW.trod_lt m _ _ _ hm
  obtain ⟨ss, rs, A, n, c, R, rn, rc, c0, c1, c2, rfl, hy⟩ := open_yard (hval 0 26 v0 rfl rfl) h0
  obtain ⟨es, E, en, ec, day, nm, rfl, hev, hcap⟩ := open_moment (hval 1 29 v1 rfl rfl) h1
  clear hA0 hval0
  refine (graveRests_any ss rs A R n c rn rc c0 c1 c2 es E en ec day nm W hy hev hcap).mono fun e W' ⟨he, z, hz⟩ => ?_
  subst he
  have bel : Below W.heap.size W W' := by rw [hz]; exact below_ext W z
  exact ⟨_, rfl, _, _, _, [], _, [], hW', trodAll_mk1 (shut_bool Tryz.underlying4 _), (trodAll_cons_mk (Below.trod laid_out (by kernel_rfl) (of_decide_eq_true (by kernel_rfl)) k0 bel lt0) (trodAll_cons_mk (Below.trod laid_out (by kernel_rfl) (of_decide_eq_true (by kernel_rfl)) k1 bel lt1) trodAll_mk0)), rfl, bel.frame _, fun h => by cases h⟩

theorem graveRests_holds : Rows.GraveRestsSaid :=
  OpenClaim.holds_of_wide 4 Tryz.f4 rfl rfl rfl rfl rfl rfl rfl ⟨rfl, rfl, rfl, rfl, rfl⟩ rfl rfl rfl rfl rfl (by kernel_rfl) Tryz.func4 (by kernel_rfl)
    (of_decide_eq_true (by kernel_rfl)) (by unfold Func.isWrapper; first | (rw [if_pos (by decide +kernel)]; kernel_rfl) | (rw [if_neg (by decide +kernel)]; exact ⟨rfl, rfl⟩))
    (fun os started H enc _ => graveRests_lifted os started H enc)
#print axioms graveRests_holds
end Go.Proofs.YtpohkolapgofdaaGreat
