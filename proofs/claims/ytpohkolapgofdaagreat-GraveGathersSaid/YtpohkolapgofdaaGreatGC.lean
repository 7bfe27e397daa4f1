/- Walk: the law GraveGathers. -/
/- GraveGathers: for every yard, events, day and name the law returns true, and the input reads as it did. No conditions. -/
import Derived.Test.YtpohkolapgofdaaGreatQH
import Derived.Test.YtpohkolapgofdaaGreatR3
import Derived.Test.YtpohkolapgofdaaGreatRows
import Derived.Test.YtpohkolapgofdaaGreatD1
namespace Go.Proofs.YtpohkolapgofdaaGreat
open Go.RowKit
attribute [local go_sem] World.cell?_alloc_mark ext_size ext_cell ext_frozen lt_add_r lt_add_r2 lt_add_r3 lt_add_r4 lt_add_r5 lt_add_r6 lt_add_r7 lt_add_r8

theorem sameEvents_nil (P Q : Option Addr) (n m pc qc : Nat) (w : World) (hn : n = 0) (hm : m = 0) : Calls Tryz.prog 28 #[.slice P n pc, .slice Q m qc] w (Ret w (.bool true)) := by
  subst hn hm
  exact sameEvents_any [] P Q pc qc w Sl.nil Sl.nil (by simp)
set_option maxRecDepth 100000 in
set_option maxHeartbeats 2000000 in
theorem graveGathers_any (ss : List Site) (rs : List Rest) (A R : Option Addr) (n c rn rc : Nat) (c0 c1 c2 : Int) (es : List Event) (E : Option Addr) (en ec : Nat) (day : Int) (nm : ByteArray) (w : World) (hy : YardRaw w ss rs A n c R rn rc) (hev : EventsRaw w es E en) (hcap : es.length ≤ ec) :
    Calls Tryz.prog 5 #[.agg #[.slice A n c, .slice R rn rc, .int .i64 c0, .int .i64 c1, .int .i64 c2], .agg #[.slice E en ec, .int .i64 day, .string nm]] w (Ret w (.bool true)) := by
  have h1 := hy.hn
  have h2 := hy.hrn
  subst h1 h2
  go_enter Tryz.func5, Tryz.ntmps5
  cases hsm : smallP ss rs
  · go_wp2_with (first
                  | (go_at_call 6; refine (awake_any _).mono ?_; rintro e wq ⟨rfl, za, rfl⟩)
                  | (go_at_call 7; refine (small_any ss rs _ _ _ _ _ _ _ _ _ _ (hy.keep (m := w.heap.size) (by repeat (first | exact B_refl | exact Below.refl _ _ | assumption | with_reducible refine B_alloc ?_ _ | with_reducible refine B_ext ?_ _ | with_reducible refine B_drew ?_ | with_reducible refine B_drewN ?_ _ | with_reducible refine B_set ?_ (by simp; omega) _)))).mono ?_; rintro e wq ⟨rfl, zs, rfl⟩; rw [hsm])
                  | (go_at_call 8; refine (few_any es _ _ _ _ (hev.keep (m := w.heap.size) (by repeat (first | exact B_refl | exact Below.refl _ _ | assumption | with_reducible refine B_alloc ?_ _ | with_reducible refine B_ext ?_ _ | with_reducible refine B_drew ?_ | with_reducible refine B_drewN ?_ _ | with_reducible refine B_set ?_ (by simp; omega) _)))).mono ?_; rintro e wq ⟨rfl, zf, rfl⟩; rw [hfw]))
    go_ret
    exact Ret.of rfl (by repeat (first | exact B_refl | exact Below.refl _ _ | assumption | with_reducible refine B_alloc ?_ _ | with_reducible refine B_ext ?_ _ | with_reducible refine B_drew ?_ | with_reducible refine B_drewN ?_ _ | with_reducible refine B_set ?_ (by simp; omega) _))
  obtain ⟨hyi, hyl1, hyl2⟩ := small_yard hy hsm
  cases hfw : fewP es
  · go_wp2_with (first
                  | (go_at_call 6; refine (awake_any _).mono ?_; rintro e wq ⟨rfl, za, rfl⟩)
                  | (go_at_call 7; refine (small_any ss rs _ _ _ _ _ _ _ _ _ _ (hy.keep (m := w.heap.size) (by repeat (first | exact B_refl | exact Below.refl _ _ | assumption | with_reducible refine B_alloc ?_ _ | with_reducible refine B_ext ?_ _ | with_reducible refine B_drew ?_ | with_reducible refine B_drewN ?_ _ | with_reducible refine B_set ?_ (by simp; omega) _)))).mono ?_; rintro e wq ⟨rfl, zs, rfl⟩; rw [hsm])
                  | (go_at_call 8; refine (few_any es _ _ _ _ (hev.keep (m := w.heap.size) (by repeat (first | exact B_refl | exact Below.refl _ _ | assumption | with_reducible refine B_alloc ?_ _ | with_reducible refine B_ext ?_ _ | with_reducible refine B_drew ?_ | with_reducible refine B_drewN ?_ _ | with_reducible refine B_set ?_ (by simp; omega) _)))).mono ?_; rintro e wq ⟨rfl, zf, rfl⟩; rw [hfw]))
    go_ret
    exact Ret.of rfl (by repeat (first | exact B_refl | exact Below.refl _ _ | assumption | with_reducible refine B_alloc ?_ _ | with_reducible refine B_ext ?_ _ | with_reducible refine B_drew ?_ | with_reducible refine B_drewN ?_ _ | with_reducible refine B_set ?_ (by simp; omega) _))
  obtain ⟨hei, hel1, hel2⟩ := few_events hev hfw
  have hen := hei.hn
  subst hen
  by_cases hn1 : 30 < (nm.size : Int)
  · go_wp2_with (first
                  | (go_at_call 6; refine (awake_any _).mono ?_; rintro e wq ⟨rfl, za, rfl⟩)
                  | (go_at_call 7; refine (small_any ss rs _ _ _ _ _ _ _ _ _ _ (hy.keep (m := w.heap.size) (by repeat (first | exact B_refl | exact Below.refl _ _ | assumption | with_reducible refine B_alloc ?_ _ | with_reducible refine B_ext ?_ _ | with_reducible refine B_drew ?_ | with_reducible refine B_drewN ?_ _ | with_reducible refine B_set ?_ (by simp; omega) _)))).mono ?_; rintro e wq ⟨rfl, zs, rfl⟩; rw [hsm])
                  | (go_at_call 8; refine (few_any es _ _ _ _ (hev.keep (m := w.heap.size) (by repeat (first | exact B_refl | exact Below.refl _ _ | assumption | with_reducible refine B_alloc ?_ _ | with_reducible refine B_ext ?_ _ | with_reducible refine B_drew ?_ | with_reducible refine B_drewN ?_ _ | with_reducible refine B_set ?_ (by simp; omega) _)))).mono ?_; rintro e wq ⟨rfl, zf, rfl⟩; rw [hfw]))
    go_ret
    exact Ret.of rfl (by repeat (first | exact B_refl | exact Below.refl _ _ | assumption | with_reducible refine B_alloc ?_ _ | with_reducible refine B_ext ?_ _ | with_reducible refine B_drew ?_ | with_reducible refine B_drewN ?_ _ | with_reducible refine B_set ?_ (by simp; omega) _))
  have hc63 : ss.length ≤ 100000 := by omega
  have hc43 : rs.length ≤ 100000 := by omega
  have hel3 : es.length ≤ 100000 := by omega
  have HGV := fun A n c R rn rc E ec W h1 h2 => gGatherAll_w ss rs A R n c rn rc c0 c1 c2 es E es.length ec nm day W h1 h2 hel2
  generalize hp1 : gatherW c0 c1 c2 ss rs es nm day = p1 at HGV
  have HP1 := Lib.hid hp1
  clear hp1
  obtain ⟨l1, r1⟩ := p1
  go_wp2_with (first
                | (go_at_call 6; refine (awake_any _).mono ?_; rintro e wq ⟨rfl, za, rfl⟩)
                | (go_at_call 7; refine (small_any ss rs _ _ _ _ _ _ _ _ _ _ (hy.keep (m := w.heap.size) (by repeat (first | exact B_refl | exact Below.refl _ _ | assumption | with_reducible refine B_alloc ?_ _ | with_reducible refine B_ext ?_ _ | with_reducible refine B_drew ?_ | with_reducible refine B_drewN ?_ _ | with_reducible refine B_set ?_ (by simp; omega) _)))).mono ?_; rintro e wq ⟨rfl, zs, rfl⟩; rw [hsm])
                | (go_at_call 8; refine (few_any es _ _ _ _ (hev.keep (m := w.heap.size) (by repeat (first | exact B_refl | exact Below.refl _ _ | assumption | with_reducible refine B_alloc ?_ _ | with_reducible refine B_ext ?_ _ | with_reducible refine B_drew ?_ | with_reducible refine B_drewN ?_ _ | with_reducible refine B_set ?_ (by simp; omega) _)))).mono ?_; rintro e wq ⟨rfl, zf, rfl⟩; rw [hfw]))
  generalize hW0 : World.ext (World.ext (World.ext ((w.alloc (.cells #[.slice A ss.length c, .slice R rs.length rc, .int .i64 c0, .int .i64 c1, .int .i64 c2] 26)).alloc (.cells #[.slice E es.length ec, .int .i64 day, .string nm] 29)) za) zs) zf = W0
  have hB : Below w.heap.size w W0 := by rw [← hW0]; repeat (first | exact B_refl | exact Below.refl _ _ | assumption | with_reducible refine B_alloc ?_ _ | with_reducible refine B_ext ?_ _ | with_reducible refine B_drew ?_ | with_reducible refine B_drewN ?_ _ | with_reducible refine B_set ?_ (by simp; omega) _)
  have hblk : W0.heap[w.heap.size]? = some (.cells #[.slice A ss.length c, .slice R rs.length rc, .int .i64 c0, .int .i64 c1, .int .i64 c2] 26) := by rw [← hW0]; (repeat (first | with_reducible exact G_new _ _ _ (by simp) | with_reducible exact G_new _ _ _ (by simp [ext_size]) | with_reducible refine G_drew ?_ | with_reducible refine G_ext ?_ | with_reducible refine G_alloc ?_))
  have hblk1 : W0.heap[w.heap.size + 1]? = some (.cells #[.slice E es.length ec, .int .i64 day, .string nm] 29) := by rw [← hW0]; (repeat (first | with_reducible exact G_new _ _ _ (by simp) | with_reducible exact G_new _ _ _ (by simp [ext_size]) | with_reducible refine G_drew ?_ | with_reducible refine G_ext ?_ | with_reducible refine G_alloc ?_))
  have hz := blk_lt hblk
  have hz1 := blk_lt hblk1
  have g0 : W0.cell? ⟨w.heap.size, 0, none⟩ = some (.slice A ss.length c) := by simp [World.cell?, hblk]
  have g1 : W0.cell? ⟨w.heap.size, 1, none⟩ = some (.slice R rs.length rc) := by simp [World.cell?, hblk]
  have g2 : W0.cell? ⟨w.heap.size, 2, none⟩ = some (.int .i64 c0) := by simp [World.cell?, hblk]
  have g3 : W0.cell? ⟨w.heap.size, 3, none⟩ = some (.int .i64 c1) := by simp [World.cell?, hblk]
  have g4 : W0.cell? ⟨w.heap.size, 4, none⟩ = some (.int .i64 c2) := by simp [World.cell?, hblk]
  have e0 : W0.cell? ⟨w.heap.size + 1, 0, none⟩ = some (.slice E es.length ec) := by simp [World.cell?, hblk1]
  have e1 : W0.cell? ⟨w.heap.size + 1, 1, none⟩ = some (.int .i64 day) := by simp [World.cell?, hblk1]
  have e2 : W0.cell? ⟨w.heap.size + 1, 2, none⟩ = some (.string nm) := by simp [World.cell?, hblk1]
  clear hW0 hblk hblk1 hsm hfw hy hev hn1
  go_region_held3 (fun w' => w'.cell? ⟨w.heap.size, 0, none⟩ = some (.slice A ss.length c) ∧ w'.cell? ⟨w.heap.size, 1, none⟩ = some (.slice R rs.length rc) ∧ w'.cell? ⟨w.heap.size, 2, none⟩ = some (.int .i64 c0) ∧ w'.cell? ⟨w.heap.size, 3, none⟩ = some (.int .i64 c1) ∧ w'.cell? ⟨w.heap.size, 4, none⟩ = some (.int .i64 c2) ∧
                     w'.cell? ⟨w.heap.size + 1, 0, none⟩ = some (.slice E es.length ec) ∧ w'.cell? ⟨w.heap.size + 1, 1, none⟩ = some (.int .i64 day) ∧ w'.cell? ⟨w.heap.size + 1, 2, none⟩ = some (.string nm))
                    ((refine ⟨cell_kept hz g0 ?_, cell_kept hz g1 ?_, cell_kept hz g2 ?_, cell_kept hz g3 ?_, cell_kept hz g4 ?_, cell_kept hz1 e0 ?_, cell_kept hz1 e1 ?_, cell_kept hz1 e2 ?_⟩ <;> ((repeat (first | exact B_refl | exact Below.refl _ _ | assumption | with_reducible refine B_alloc ?_ _ | with_reducible refine B_ext ?_ _ | with_reducible refine B_drew ?_ | with_reducible refine B_drewN ?_ _ | with_reducible refine B_set ?_ (by simp; omega) _)); done)))
    (first
      | (go_at_call 10; refine (copyYard_any ss rs _ _ _ _ _ _ _ _ _ _ (hyi.keep (m := w.heap.size) ?q1)).mono ?_
         case q1 => repeat (first | exact B_refl | exact Below.refl _ _ | assumption | with_reducible refine B_alloc ?_ _ | with_reducible refine B_ext ?_ _ | with_reducible refine B_drew ?_ | with_reducible refine B_drewN ?_ _ | with_reducible refine B_set ?_ (by simp; omega) _)
         intro e wq hq; obtain ⟨A2, k2, R2, r2, rfl, hy2, zc1, rfl⟩ := hq.form hc63 hc43 hyi.sh; clear hq)
      | (go_at_call 11; refine (copyEvents_any es E es.length ec _ (hei.keep (m := w.heap.size) ?q1)).mono ?_
         case q1 => repeat (first | exact B_refl | exact Below.refl _ _ | assumption | with_reducible refine B_alloc ?_ _ | with_reducible refine B_ext ?_ _ | with_reducible refine B_drew ?_ | with_reducible refine B_drewN ?_ _ | with_reducible refine B_set ?_ (by simp; omega) _)
         intro e wq hq; obtain ⟨E2, k3, ze1, rfl, rfl, he2⟩ := hq.form hel3 hei.sh; clear hq)
      | (go_at_call 26; refine (HGV _ _ _ _ _ _ _ _ _ (hy2.keep ?q1) (he2.keep ?q2)).mono ?_
         case q1 => repeat (first | exact B_refl | exact Below.refl _ _ | assumption | with_reducible refine B_alloc ?_ _ | with_reducible refine B_ext ?_ _ | with_reducible refine B_drew ?_ | with_reducible refine B_drewN ?_ _ | with_reducible refine B_set ?_ (by simp; omega) _)
         case q2 => repeat (first | exact B_refl | exact Below.refl _ _ | assumption | with_reducible refine B_alloc ?_ _ | with_reducible refine B_ext ?_ _ | with_reducible refine B_drew ?_ | with_reducible refine B_drewN ?_ _ | with_reducible refine B_set ?_ (by simp; omega) _)
         rintro e wq ⟨v3, rfl, hown3, zd1, rfl⟩
         dsimp only at hown3
         obtain ⟨F, fc, rfl, hSF, _⟩ := own_sl event_len hown3
         clear hown3))
  generalize hW1 : World.ext (World.ext (World.ext (World.drew W0) zc1) ze1) zd1 = W1
  have hB1 : Below w.heap.size w W1 := by rw [← hW1]; repeat (first | exact B_refl | exact Below.refl _ _ | assumption | with_reducible refine B_alloc ?_ _ | with_reducible refine B_ext ?_ _ | with_reducible refine B_drew ?_ | with_reducible refine B_drewN ?_ _ | with_reducible refine B_set ?_ (by simp; omega) _)
  have hB01 : Below W0.heap.size W0 W1 := by rw [← hW1]; repeat (first | exact B_refl | exact Below.refl _ _ | assumption | with_reducible refine B_alloc ?_ _ | with_reducible refine B_ext ?_ _ | with_reducible refine B_drew ?_ | with_reducible refine B_drewN ?_ _ | with_reducible refine B_set ?_ (by simp; omega) _)
  have hSF1 : Sl W1 7 Event.cells F l1 := hSF.keep (by rw [← hW1]; repeat (first | exact B_refl | exact Below.refl _ _ | assumption | with_reducible refine B_alloc ?_ _ | with_reducible refine B_ext ?_ _ | with_reducible refine B_drew ?_ | with_reducible refine B_drewN ?_ _ | with_reducible refine B_set ?_ (by simp; omega) _)) (Nat.le_refl _)
  have k0 := cell_kept hz g0 hB01
  have k1 := cell_kept hz g1 hB01
  have k2' := cell_kept hz g2 hB01
  have k3' := cell_kept hz g3 hB01
  have k4 := cell_kept hz g4 hB01
  have f0 := cell_kept hz1 e0 hB01
  have f1 := cell_kept hz1 e1 hB01
  have f2 := cell_kept hz1 e2 hB01
  have j0 : w.heap.size < W1.heap.size := Nat.lt_of_lt_of_le hz hB01.size
  have j1 : w.heap.size + 1 < W1.heap.size := Nat.lt_of_lt_of_le hz1 hB01.size
  clear hW1 hB01 g0 g1 g2 g3 g4 e0 e1 e2 hz hz1 hB hSF HGV hy2 he2
  replace HP1 := HP1.out
  obtain ⟨C, hC⟩ : ∃ C, rCheckP c0 c1 c2 ss rs es = C := ⟨_, rfl⟩
  have HCK := Lib.hid hC
  unfold gatherW at HP1
  rw [hC] at HP1
  cases hc0 : (C != 0)
  rotate_left
  · rw [if_pos hc0] at HP1
    obtain ⟨rfl, rfl⟩ := Prod.mk.inj HP1
    have hc1 : (C == 0) = false := by simpa using hc0
    clear HP1 hC
    go_wp2_with (first
                  | (go_at_call 14; refine (rCheck_any ss rs _ _ _ _ _ _ _ _ _ es _ _ _ _ (hyi.keep (m := w.heap.size) (by repeat (first | exact B_refl | exact Below.refl _ _ | assumption | with_reducible refine B_alloc ?_ _ | with_reducible refine B_ext ?_ _ | with_reducible refine B_drew ?_ | with_reducible refine B_drewN ?_ _ | with_reducible refine B_set ?_ (by simp; omega) _))) (hei.keep (m := w.heap.size) (by repeat (first | exact B_refl | exact Below.refl _ _ | assumption | with_reducible refine B_alloc ?_ _ | with_reducible refine B_ext ?_ _ | with_reducible refine B_drew ?_ | with_reducible refine B_drewN ?_ _ | with_reducible refine B_set ?_ (by simp; omega) _)))).mono ?_; rintro e wq ⟨rfl, zk, rfl⟩; rw [HCK.out])
                  | (go_at_call 15; refine (rSite_any ss rs _ _ _ _ _ _ _ _ _ _ _ (hyi.keep (m := w.heap.size) (by repeat (first | exact B_refl | exact Below.refl _ _ | assumption | with_reducible refine B_alloc ?_ _ | with_reducible refine B_ext ?_ _ | with_reducible refine B_drew ?_ | with_reducible refine B_drewN ?_ _ | with_reducible refine B_set ?_ (by simp; omega) _)))).mono ?_; rintro e wq ⟨rfl, zt, rfl⟩; rw [hsi])
                  | (go_at_call 16; refine (rIsDay_any _ _).mono ?_; rintro e wq ⟨rfl, rfl⟩; rw [hd])
                  | (go_at_call 27; refine (HGA _ (hyi.keep (m := w.heap.size) (by repeat (first | exact B_refl | exact Below.refl _ _ | assumption | with_reducible refine B_alloc ?_ _ | with_reducible refine B_ext ?_ _ | with_reducible refine B_drew ?_ | with_reducible refine B_drewN ?_ _ | with_reducible refine B_set ?_ (by simp; omega) _))) (hei.keep (m := w.heap.size) (by repeat (first | exact B_refl | exact Below.refl _ _ | assumption | with_reducible refine B_alloc ?_ _ | with_reducible refine B_ext ?_ _ | with_reducible refine B_drew ?_ | with_reducible refine B_drewN ?_ _ | with_reducible refine B_set ?_ (by simp; omega) _)))).mono ?_; rintro e wq ⟨v4, rfl, hown4, z4, rfl⟩; dsimp only at hown4; obtain ⟨F4, fc4, rfl, hSX, _⟩ := own_sl event_len hown4; clear hown4)
                  | (go_at_call 28; refine (sameEvents_any _ _ _ _ _ _ (hSF1.keep (n := W1.heap.size) (by repeat (first | exact B_refl | exact Below.refl _ _ | assumption | with_reducible refine B_alloc ?_ _ | with_reducible refine B_ext ?_ _ | with_reducible refine B_drew ?_ | with_reducible refine B_drewN ?_ _ | with_reducible refine B_set ?_ (by simp; omega) _))) hSX hx1).mono ?_; rintro e wq ⟨rfl, zu, rfl⟩)
                  | (go_at_call 28; refine (sameEvents_nil _ _ _ _ _ _ _ (by first | rfl | (simp; done)) (by first | rfl | (simp; done))).mono ?_; rintro e wq ⟨rfl, zu, rfl⟩))
    go_ret
    exact Ret.of rfl (hB1.trans ((by repeat (first | exact B_refl | exact Below.refl _ _ | assumption | with_reducible refine B_alloc ?_ _ | with_reducible refine B_ext ?_ _ | with_reducible refine B_drew ?_ | with_reducible refine B_drewN ?_ _ | with_reducible refine B_set ?_ (by simp; omega) _) : Below W1.heap.size W1 _).mono hB1.size))
  have hC0 : C = 0 := by simpa using hc0
  subst hC0
  rw [if_neg (by simp)] at HP1
  cases hf : findSite nm ss with
  | none =>
    have hsi : rSiteR nm ss = -1 := by rw [rSiteR, siteIdx_none hf]
    rw [hf, if_pos (by rfl)] at HP1
    obtain ⟨rfl, rfl⟩ := Prod.mk.inj HP1
    clear HP1 hC hf
    go_wp2_with (first
                  | (go_at_call 14; refine (rCheck_any ss rs _ _ _ _ _ _ _ _ _ es _ _ _ _ (hyi.keep (m := w.heap.size) (by repeat (first | exact B_refl | exact Below.refl _ _ | assumption | with_reducible refine B_alloc ?_ _ | with_reducible refine B_ext ?_ _ | with_reducible refine B_drew ?_ | with_reducible refine B_drewN ?_ _ | with_reducible refine B_set ?_ (by simp; omega) _))) (hei.keep (m := w.heap.size) (by repeat (first | exact B_refl | exact Below.refl _ _ | assumption | with_reducible refine B_alloc ?_ _ | with_reducible refine B_ext ?_ _ | with_reducible refine B_drew ?_ | with_reducible refine B_drewN ?_ _ | with_reducible refine B_set ?_ (by simp; omega) _)))).mono ?_; rintro e wq ⟨rfl, zk, rfl⟩; rw [HCK.out])
                  | (go_at_call 15; refine (rSite_any ss rs _ _ _ _ _ _ _ _ _ _ _ (hyi.keep (m := w.heap.size) (by repeat (first | exact B_refl | exact Below.refl _ _ | assumption | with_reducible refine B_alloc ?_ _ | with_reducible refine B_ext ?_ _ | with_reducible refine B_drew ?_ | with_reducible refine B_drewN ?_ _ | with_reducible refine B_set ?_ (by simp; omega) _)))).mono ?_; rintro e wq ⟨rfl, zt, rfl⟩; rw [hsi])
                  | (go_at_call 16; refine (rIsDay_any _ _).mono ?_; rintro e wq ⟨rfl, rfl⟩; rw [hd])
                  | (go_at_call 27; refine (HGA _ (hyi.keep (m := w.heap.size) (by repeat (first | exact B_refl | exact Below.refl _ _ | assumption | with_reducible refine B_alloc ?_ _ | with_reducible refine B_ext ?_ _ | with_reducible refine B_drew ?_ | with_reducible refine B_drewN ?_ _ | with_reducible refine B_set ?_ (by simp; omega) _))) (hei.keep (m := w.heap.size) (by repeat (first | exact B_refl | exact Below.refl _ _ | assumption | with_reducible refine B_alloc ?_ _ | with_reducible refine B_ext ?_ _ | with_reducible refine B_drew ?_ | with_reducible refine B_drewN ?_ _ | with_reducible refine B_set ?_ (by simp; omega) _)))).mono ?_; rintro e wq ⟨v4, rfl, hown4, z4, rfl⟩; dsimp only at hown4; obtain ⟨F4, fc4, rfl, hSX, _⟩ := own_sl event_len hown4; clear hown4)
                  | (go_at_call 28; refine (sameEvents_any _ _ _ _ _ _ (hSF1.keep (n := W1.heap.size) (by repeat (first | exact B_refl | exact Below.refl _ _ | assumption | with_reducible refine B_alloc ?_ _ | with_reducible refine B_ext ?_ _ | with_reducible refine B_drew ?_ | with_reducible refine B_drewN ?_ _ | with_reducible refine B_set ?_ (by simp; omega) _))) hSX hx1).mono ?_; rintro e wq ⟨rfl, zu, rfl⟩)
                  | (go_at_call 28; refine (sameEvents_nil _ _ _ _ _ _ _ (by first | rfl | (simp; done)) (by first | rfl | (simp; done))).mono ?_; rintro e wq ⟨rfl, zu, rfl⟩))
    go_ret
    exact Ret.of rfl (hB1.trans ((by repeat (first | exact B_refl | exact Below.refl _ _ | assumption | with_reducible refine B_alloc ?_ _ | with_reducible refine B_ext ?_ _ | with_reducible refine B_drew ?_ | with_reducible refine B_drewN ?_ _ | with_reducible refine B_set ?_ (by simp; omega) _) : Below W1.heap.size W1 _).mono hB1.size))
  | some s =>
    obtain ⟨si, hik, _⟩ := siteIdx_some hf
    have hsi : rSiteR nm ss = (si : Int) := by rw [rSiteR, hik]
    have hsi0 : ¬ ((si : Int) < 0) := by omega
    rw [hf, if_neg (by simp)] at HP1
    cases hd : inR day 0 200000
    · rw [hd, if_pos (by rfl)] at HP1
      obtain ⟨rfl, rfl⟩ := Prod.mk.inj HP1
      clear HP1 hC hf hik
      go_wp2_with (first
                    | (go_at_call 14; refine (rCheck_any ss rs _ _ _ _ _ _ _ _ _ es _ _ _ _ (hyi.keep (m := w.heap.size) (by repeat (first | exact B_refl | exact Below.refl _ _ | assumption | with_reducible refine B_alloc ?_ _ | with_reducible refine B_ext ?_ _ | with_reducible refine B_drew ?_ | with_reducible refine B_drewN ?_ _ | with_reducible refine B_set ?_ (by simp; omega) _))) (hei.keep (m := w.heap.size) (by repeat (first | exact B_refl | exact Below.refl _ _ | assumption | with_reducible refine B_alloc ?_ _ | with_reducible refine B_ext ?_ _ | with_reducible refine B_drew ?_ | with_reducible refine B_drewN ?_ _ | with_reducible refine B_set ?_ (by simp; omega) _)))).mono ?_; rintro e wq ⟨rfl, zk, rfl⟩; rw [HCK.out])
                    | (go_at_call 15; refine (rSite_any ss rs _ _ _ _ _ _ _ _ _ _ _ (hyi.keep (m := w.heap.size) (by repeat (first | exact B_refl | exact Below.refl _ _ | assumption | with_reducible refine B_alloc ?_ _ | with_reducible refine B_ext ?_ _ | with_reducible refine B_drew ?_ | with_reducible refine B_drewN ?_ _ | with_reducible refine B_set ?_ (by simp; omega) _)))).mono ?_; rintro e wq ⟨rfl, zt, rfl⟩; rw [hsi])
                    | (go_at_call 16; refine (rIsDay_any _ _).mono ?_; rintro e wq ⟨rfl, rfl⟩; rw [hd])
                    | (go_at_call 27; refine (HGA _ (hyi.keep (m := w.heap.size) (by repeat (first | exact B_refl | exact Below.refl _ _ | assumption | with_reducible refine B_alloc ?_ _ | with_reducible refine B_ext ?_ _ | with_reducible refine B_drew ?_ | with_reducible refine B_drewN ?_ _ | with_reducible refine B_set ?_ (by simp; omega) _))) (hei.keep (m := w.heap.size) (by repeat (first | exact B_refl | exact Below.refl _ _ | assumption | with_reducible refine B_alloc ?_ _ | with_reducible refine B_ext ?_ _ | with_reducible refine B_drew ?_ | with_reducible refine B_drewN ?_ _ | with_reducible refine B_set ?_ (by simp; omega) _)))).mono ?_; rintro e wq ⟨v4, rfl, hown4, z4, rfl⟩; dsimp only at hown4; obtain ⟨F4, fc4, rfl, hSX, _⟩ := own_sl event_len hown4; clear hown4)
                    | (go_at_call 28; refine (sameEvents_any _ _ _ _ _ _ (hSF1.keep (n := W1.heap.size) (by repeat (first | exact B_refl | exact Below.refl _ _ | assumption | with_reducible refine B_alloc ?_ _ | with_reducible refine B_ext ?_ _ | with_reducible refine B_drew ?_ | with_reducible refine B_drewN ?_ _ | with_reducible refine B_set ?_ (by simp; omega) _))) hSX hx1).mono ?_; rintro e wq ⟨rfl, zu, rfl⟩)
                    | (go_at_call 28; refine (sameEvents_nil _ _ _ _ _ _ _ (by first | rfl | (simp; done)) (by first | rfl | (simp; done))).mono ?_; rintro e wq ⟨rfl, zu, rfl⟩))
      go_ret
      exact Ret.of rfl (hB1.trans ((by repeat (first | exact B_refl | exact Below.refl _ _ | assumption | with_reducible refine B_alloc ?_ _ | with_reducible refine B_ext ?_ _ | with_reducible refine B_drew ?_ | with_reducible refine B_drewN ?_ _ | with_reducible refine B_set ?_ (by simp; omega) _) : Below W1.heap.size W1 _).mono hB1.size))
    · rw [hd, if_neg (by simp)] at HP1
      have hq := (read_check ss rs A R ss.length c rs.length rc c0 c1 c2 es).2 hC
      have hrooms := fun s hs => yard_rooms hq.2.2.2.2.1 s hs
      have hst1 : ∀ t ∈ (rReplayP c0 c1 c2 ss rs es).1, t.state = 1 → ∃ s, findSite t.site ss = some s := fun t ht h1 => by
        obtain ⟨s, hs, _⟩ := hq.1.lies t ht h1
        exact ⟨s, hs⟩
      have HGA := fun W h1 h2 => rGatherAll_any ss rs A R ss.length c rs.length rc c0 c1 c2 es E es.length ec nm day W h1 h2 hel3 hrooms hst1
      rw [HP1] at HGA
      have hx1 : l1.length ≤ 100000 := by
        have h8 := downP_le nm (rReplayP c0 c1 c2 ss rs es).1 12
        have h9 := (full_apart hC).2
        unfold rGatherW rGatherP at HP1
        split at HP1
        · obtain ⟨rfl, _⟩ := Prod.mk.inj HP1; simp
        · split at HP1
          · obtain ⟨rfl, _⟩ := Prod.mk.inj HP1; simp
          · obtain ⟨rfl, _⟩ := Prod.mk.inj HP1
            rw [List.length_map]
            have := hq.2.2.2.2.2
            omega
      cases hr : (r1 != 0)
      rotate_left
      · clear HP1 hC hf hik hq hrooms hst1
        go_wp2_with (first
                      | (go_at_call 14; refine (rCheck_any ss rs _ _ _ _ _ _ _ _ _ es _ _ _ _ (hyi.keep (m := w.heap.size) (by repeat (first | exact B_refl | exact Below.refl _ _ | assumption | with_reducible refine B_alloc ?_ _ | with_reducible refine B_ext ?_ _ | with_reducible refine B_drew ?_ | with_reducible refine B_drewN ?_ _ | with_reducible refine B_set ?_ (by simp; omega) _))) (hei.keep (m := w.heap.size) (by repeat (first | exact B_refl | exact Below.refl _ _ | assumption | with_reducible refine B_alloc ?_ _ | with_reducible refine B_ext ?_ _ | with_reducible refine B_drew ?_ | with_reducible refine B_drewN ?_ _ | with_reducible refine B_set ?_ (by simp; omega) _)))).mono ?_; rintro e wq ⟨rfl, zk, rfl⟩; rw [HCK.out])
                      | (go_at_call 15; refine (rSite_any ss rs _ _ _ _ _ _ _ _ _ _ _ (hyi.keep (m := w.heap.size) (by repeat (first | exact B_refl | exact Below.refl _ _ | assumption | with_reducible refine B_alloc ?_ _ | with_reducible refine B_ext ?_ _ | with_reducible refine B_drew ?_ | with_reducible refine B_drewN ?_ _ | with_reducible refine B_set ?_ (by simp; omega) _)))).mono ?_; rintro e wq ⟨rfl, zt, rfl⟩; rw [hsi])
                      | (go_at_call 16; refine (rIsDay_any _ _).mono ?_; rintro e wq ⟨rfl, rfl⟩; rw [hd])
                      | (go_at_call 27; refine (HGA _ (hyi.keep (m := w.heap.size) (by repeat (first | exact B_refl | exact Below.refl _ _ | assumption | with_reducible refine B_alloc ?_ _ | with_reducible refine B_ext ?_ _ | with_reducible refine B_drew ?_ | with_reducible refine B_drewN ?_ _ | with_reducible refine B_set ?_ (by simp; omega) _))) (hei.keep (m := w.heap.size) (by repeat (first | exact B_refl | exact Below.refl _ _ | assumption | with_reducible refine B_alloc ?_ _ | with_reducible refine B_ext ?_ _ | with_reducible refine B_drew ?_ | with_reducible refine B_drewN ?_ _ | with_reducible refine B_set ?_ (by simp; omega) _)))).mono ?_; rintro e wq ⟨v4, rfl, hown4, z4, rfl⟩; dsimp only at hown4; obtain ⟨F4, fc4, rfl, hSX, _⟩ := own_sl event_len hown4; clear hown4)
                      | (go_at_call 28; refine (sameEvents_any _ _ _ _ _ _ (hSF1.keep (n := W1.heap.size) (by repeat (first | exact B_refl | exact Below.refl _ _ | assumption | with_reducible refine B_alloc ?_ _ | with_reducible refine B_ext ?_ _ | with_reducible refine B_drew ?_ | with_reducible refine B_drewN ?_ _ | with_reducible refine B_set ?_ (by simp; omega) _))) hSX hx1).mono ?_; rintro e wq ⟨rfl, zu, rfl⟩)
                      | (go_at_call 28; refine (sameEvents_nil _ _ _ _ _ _ _ (by first | rfl | (simp; done)) (by first | rfl | (simp; done))).mono ?_; rintro e wq ⟨rfl, zu, rfl⟩))
        go_ret
        exact Ret.of rfl (hB1.trans ((by repeat (first | exact B_refl | exact Below.refl _ _ | assumption | with_reducible refine B_alloc ?_ _ | with_reducible refine B_ext ?_ _ | with_reducible refine B_drew ?_ | with_reducible refine B_drewN ?_ _ | with_reducible refine B_set ?_ (by simp; omega) _) : Below W1.heap.size W1 _).mono hB1.size))
      have hr0 : r1 = 0 := by simpa using hr
      subst hr0
      obtain ⟨ls', g1, g2, g3, g4, g5⟩ := gathers_law hC hel2 hf hd HP1
      clear HP1 hC hf hik hq hrooms hst1 hr
      go_wp2_with (first
                    | (go_at_call 14; refine (rCheck_any ss rs _ _ _ _ _ _ _ _ _ es _ _ _ _ (hyi.keep (m := w.heap.size) (by repeat (first | exact B_refl | exact Below.refl _ _ | assumption | with_reducible refine B_alloc ?_ _ | with_reducible refine B_ext ?_ _ | with_reducible refine B_drew ?_ | with_reducible refine B_drewN ?_ _ | with_reducible refine B_set ?_ (by simp; omega) _))) (hei.keep (m := w.heap.size) (by repeat (first | exact B_refl | exact Below.refl _ _ | assumption | with_reducible refine B_alloc ?_ _ | with_reducible refine B_ext ?_ _ | with_reducible refine B_drew ?_ | with_reducible refine B_drewN ?_ _ | with_reducible refine B_set ?_ (by simp; omega) _)))).mono ?_; rintro e wq ⟨rfl, zk, rfl⟩; rw [HCK.out])
                    | (go_at_call 15; refine (rSite_any ss rs _ _ _ _ _ _ _ _ _ _ _ (hyi.keep (m := w.heap.size) (by repeat (first | exact B_refl | exact Below.refl _ _ | assumption | with_reducible refine B_alloc ?_ _ | with_reducible refine B_ext ?_ _ | with_reducible refine B_drew ?_ | with_reducible refine B_drewN ?_ _ | with_reducible refine B_set ?_ (by simp; omega) _)))).mono ?_; rintro e wq ⟨rfl, zt, rfl⟩; rw [hsi])
                    | (go_at_call 16; refine (rIsDay_any _ _).mono ?_; rintro e wq ⟨rfl, rfl⟩; rw [hd])
                    | (go_at_call 27; refine (HGA _ (hyi.keep (m := w.heap.size) (by repeat (first | exact B_refl | exact Below.refl _ _ | assumption | with_reducible refine B_alloc ?_ _ | with_reducible refine B_ext ?_ _ | with_reducible refine B_drew ?_ | with_reducible refine B_drewN ?_ _ | with_reducible refine B_set ?_ (by simp; omega) _))) (hei.keep (m := w.heap.size) (by repeat (first | exact B_refl | exact Below.refl _ _ | assumption | with_reducible refine B_alloc ?_ _ | with_reducible refine B_ext ?_ _ | with_reducible refine B_drew ?_ | with_reducible refine B_drewN ?_ _ | with_reducible refine B_set ?_ (by simp; omega) _)))).mono ?_; rintro e wq ⟨v4, rfl, hown4, z4, rfl⟩; dsimp only at hown4; obtain ⟨F4, fc4, rfl, hSX, _⟩ := own_sl event_len hown4; clear hown4)
                    | (go_at_call 28; refine (sameEvents_any _ _ _ _ _ _ (hSF1.keep (n := W1.heap.size) (by repeat (first | exact B_refl | exact Below.refl _ _ | assumption | with_reducible refine B_alloc ?_ _ | with_reducible refine B_ext ?_ _ | with_reducible refine B_drew ?_ | with_reducible refine B_drewN ?_ _ | with_reducible refine B_set ?_ (by simp; omega) _))) hSX hx1).mono ?_; rintro e wq ⟨rfl, zu, rfl⟩)
                    | (go_at_call 28; refine (sameEvents_nil _ _ _ _ _ _ _ (by first | rfl | (simp; done)) (by first | rfl | (simp; done))).mono ?_; rintro e wq ⟨rfl, zu, rfl⟩))
      generalize hW2 : World.ext (World.ext (World.ext (World.ext W1 zk) zt) z4) zu = W2
      have hB12 : Below W1.heap.size W1 W2 := by rw [← hW2]; repeat (first | exact B_refl | exact Below.refl _ _ | assumption | with_reducible refine B_alloc ?_ _ | with_reducible refine B_ext ?_ _ | with_reducible refine B_drew ?_ | with_reducible refine B_drewN ?_ _ | with_reducible refine B_set ?_ (by simp; omega) _)
      have hB2 : Below w.heap.size w W2 := hB1.trans (hB12.mono hB1.size)
      replace hSF1 : Sl W2 7 Event.cells F l1 := hSF1.keep hB12 (Nat.le_refl _)
      replace k0 := cell_kept j0 k0 hB12
      replace k1 := cell_kept j0 k1 hB12
      replace k2' := cell_kept j0 k2' hB12
      replace k3' := cell_kept j0 k3' hB12
      replace k4 := cell_kept j0 k4 hB12
      replace f0 := cell_kept j1 f0 hB12
      replace f1 := cell_kept j1 f1 hB12
      replace f2 := cell_kept j1 f2 hB12
      replace j0 : w.heap.size < W2.heap.size := Nat.lt_of_lt_of_le j0 hB12.size
      replace j1 : w.heap.size + 1 < W2.heap.size := Nat.lt_of_lt_of_le j1 hB12.size
      clear hW2 hB12 hB1 hSX HGA
      refine wp_region_held_drew (S := (fun w' => w'.cell? ⟨w.heap.size, 0, none⟩ = some (.slice A ss.length c) ∧ w'.cell? ⟨w.heap.size, 1, none⟩ = some (.slice R rs.length rc) ∧ w'.cell? ⟨w.heap.size, 2, none⟩ = some (.int .i64 c0) ∧ w'.cell? ⟨w.heap.size, 3, none⟩ = some (.int .i64 c1) ∧ w'.cell? ⟨w.heap.size, 4, none⟩ = some (.int .i64 c2) ∧ w'.cell? ⟨w.heap.size + 1, 0, none⟩ = some (.slice E es.length ec) ∧ w'.cell? ⟨w.heap.size + 1, 1, none⟩ = some (.int .i64 day) ∧ w'.cell? ⟨w.heap.size + 1, 2, none⟩ = some (.string nm))) (by kernel_rfl) ?hS ?hrest
      case hS => ((try dsimp only); ((refine ⟨cell_kept j0 k0 ?_, cell_kept j0 k1 ?_, cell_kept j0 k2' ?_, cell_kept j0 k3' ?_, cell_kept j0 k4 ?_, cell_kept j1 f0 ?_, cell_kept j1 f1 ?_, cell_kept j1 f2 ?_⟩ <;> ((repeat (first | exact B_refl | exact Below.refl _ _ | assumption | with_reducible refine B_alloc ?_ _ | with_reducible refine B_ext ?_ _ | with_reducible refine B_drew ?_ | with_reducible refine B_drewN ?_ _ | with_reducible refine B_set ?_ (by simp; omega) _)); done))))
      case hrest =>
        intro hHeld
        refine wpAnyH_take (i := 0) (v := ?_) (List.getElem?_toArray.trans rfl) (by kernel_rfl) (by kernel_rfl) (by kernel_rfl) (fun _ _ _ h => h) (Or.inl ⟨by rfl, ?_⟩) (by assumption) ?_
        rotate_left 1
        focus (intro w hSw; (try dsimp only at hSw); go_simp; first | done | with_reducible rfl)
        try simp only [Act.put, List.setIfInBounds_toArray, List.set_cons_zero, List.set_cons_succ]
        refine wpAnyH_take (i := 1) (v := ?_) (List.getElem?_toArray.trans rfl) (by kernel_rfl) (by kernel_rfl) (by kernel_rfl) (fun _ _ _ h => h) (Or.inl ⟨by rfl, ?_⟩) (by assumption) ?_
        rotate_left 1
        focus (intro w hSw; (try dsimp only at hSw); go_simp; first | done | with_reducible rfl)
        try simp only [Act.put, List.setIfInBounds_toArray, List.set_cons_zero, List.set_cons_succ]
        refine wpAnyH_take (i := 2) (v := ?_) (List.getElem?_toArray.trans rfl) (by kernel_rfl) (by kernel_rfl) (by kernel_rfl) (fun _ _ _ h => h) (Or.inl ⟨by rfl, ?_⟩) (by assumption) ?_
        rotate_left 1
        focus (intro w hSw; (try dsimp only at hSw); go_simp; first | done | with_reducible rfl)
        try simp only [Act.put, List.setIfInBounds_toArray, List.set_cons_zero, List.set_cons_succ]
        refine wpAnyH_take (i := 4) (v := ?_) (List.getElem?_toArray.trans rfl) (by kernel_rfl) (by kernel_rfl) (by kernel_rfl) (fun _ _ _ h => h) (Or.inl ⟨by rfl, ?_⟩) (by assumption) ?_
        rotate_left 1
        focus (intro w hSw; (try dsimp only at hSw); go_simp; first | done | with_reducible rfl)
        try simp only [Act.put, List.setIfInBounds_toArray, List.set_cons_zero, List.set_cons_succ]
        refine wpAnyH_ready (rs := [3]) (by kernel_rfl) (by simp) (AllReadyH.cons (List.getElem?_toArray.trans rfl) (fun K hK => ?_) AllReadyH.nil)
        go_simp
        (go_at_call 11; refine (copyEvents_any es E es.length ec _ (hei.keep (m := w.heap.size) ?q1)).mono ?_
         case q1 => repeat (first | exact B_refl | exact Below.refl _ _ | assumption | with_reducible refine B_alloc ?_ _ | with_reducible refine B_ext ?_ _ | with_reducible refine B_drew ?_ | with_reducible refine B_drewN ?_ _ | with_reducible refine B_set ?_ (by simp; omega) _)
         rintro e wq ⟨v5, rfl, hown5, z5, rfl⟩)
        refine hK.out _ _ ?_ (fun hHeld => ?_)
        focus ((try dsimp only); ((refine ⟨cell_kept j0 k0 ?_, cell_kept j0 k1 ?_, cell_kept j0 k2' ?_, cell_kept j0 k3' ?_, cell_kept j0 k4 ?_, cell_kept j1 f0 ?_, cell_kept j1 f1 ?_, cell_kept j1 f2 ?_⟩ <;> ((repeat (first | exact B_refl | exact Below.refl _ _ | assumption | with_reducible refine B_alloc ?_ _ | with_reducible refine B_ext ?_ _ | with_reducible refine B_drew ?_ | with_reducible refine B_drewN ?_ _ | with_reducible refine B_set ?_ (by simp; omega) _)); done))))
        clear hK K
        try simp only [Act.put, List.setIfInBounds_toArray, List.set_cons_zero, List.set_cons_succ]
        refine wpAnyH_ready (rs := [5]) (by kernel_rfl) (by simp) (AllReadyH.cons (List.getElem?_toArray.trans rfl) (fun K hK => ?_) AllReadyH.nil)
        refine step_append_sl rfl _ _ rfl elEvent event_len event_one rfl (base := W2.heap.size) (n := es.length) (m := l1.length) (v := v5) (xs := es.flatMap Event.cells) hown5 rfl (ys := l1) rfl (hSF1.keep (n := W2.heap.size) (by repeat (first | exact B_refl | exact Below.refl _ _ | assumption | with_reducible refine B_alloc ?_ _ | with_reducible refine B_ext ?_ _ | with_reducible refine B_drew ?_ | with_reducible refine B_drewN ?_ _ | with_reducible refine B_set ?_ (by simp; omega) _))) ?q3 ?q4 ?q5 ?_
        case q3 => simp [maxLen]; omega
        case q4 => omega
        case q5 => simp [ext_size]
        intro v6 w6 h1 h2 h3
        have hB6 : Below W2.heap.size W2 w6 := below_own (by repeat (first | exact B_refl | exact Below.refl _ _ | assumption | with_reducible refine B_alloc ?_ _ | with_reducible refine B_ext ?_ _ | with_reducible refine B_drew ?_ | with_reducible refine B_drewN ?_ _ | with_reducible refine B_set ?_ (by simp; omega) _)) hown5 h2
        have hB06 : Below w.heap.size w w6 := hB2.trans (hB6.mono hB2.size)
        have h1' : w6.ownsRow W2.heap.size 76 7 v6 (es ++ l1).length ((es ++ l1).flatMap Event.cells) := by rw [List.length_append, List.flatMap_append]; exact h1
        obtain ⟨E6, c6, rfl, hS6, _⟩ := own_sl event_len h1'
        have hei6 : EventsIn w6 (es ++ l1) E6 (es.length + l1.length) := ⟨List.length_append.symm, hS6, by rw [List.length_append]; omega, fun x hx => by
          rcases List.mem_append.1 hx with hx | hx
          · exact hei.sh x hx
          · exact g5 x hx⟩
        have HREP := fun W h1 h2 => gReplay_any all_any ss rs A R ss.length c rs.length rc c0 c1 c2 (es ++ l1) E6 (es.length + l1.length) c6 W h1 h2
        rw [List.length_append] at g1
        rw [g1] at HREP
        rw [show (es ++ l1).length = es.length + l1.length from List.length_append]
        clear h1 h2 h3 h1' hown5 hS6
        refine hK.out _ _ ?_ (fun hHeld => ?_)
        focus ((try dsimp only); ((refine ⟨cell_kept j0 k0 ?_, cell_kept j0 k1 ?_, cell_kept j0 k2' ?_, cell_kept j0 k3' ?_, cell_kept j0 k4 ?_, cell_kept j1 f0 ?_, cell_kept j1 f1 ?_, cell_kept j1 f2 ?_⟩ <;> ((repeat (first | exact B_refl | exact Below.refl _ _ | assumption | with_reducible refine B_alloc ?_ _ | with_reducible refine B_ext ?_ _ | with_reducible refine B_drew ?_ | with_reducible refine B_drewN ?_ _ | with_reducible refine B_set ?_ (by simp; omega) _)); done))))
        clear hK K
        try simp only [Act.put, List.setIfInBounds_toArray, List.set_cons_zero, List.set_cons_succ]
        refine wpAnyH_ready (rs := [6]) (by kernel_rfl) (by simp) (AllReadyH.cons (List.getElem?_toArray.trans rfl) (fun K hK => ?_) AllReadyH.nil)
        go_simp
        (go_at_call 29; refine (HREP _ (hyi.keep (m := w.heap.size) ?q1) (hei6.keep (m := w6.heap.size) ?q2)).mono ?_
         case q1 => repeat (first | exact B_refl | exact Below.refl _ _ | assumption | with_reducible refine B_alloc ?_ _ | with_reducible refine B_ext ?_ _ | with_reducible refine B_drew ?_ | with_reducible refine B_drewN ?_ _ | with_reducible refine B_set ?_ (by simp; omega) _)
         case q2 => repeat (first | exact B_refl | exact Below.refl _ _ | assumption | with_reducible refine B_alloc ?_ _ | with_reducible refine B_ext ?_ _ | with_reducible refine B_drew ?_ | with_reducible refine B_drewN ?_ _ | with_reducible refine B_set ?_ (by simp; omega) _)
         rintro e wq ⟨A7, c7, rfl, hS7, z7, rfl⟩)
        refine hK.out _ _ ?_ (fun hHeld => ?_)
        focus ((try dsimp only); ((refine ⟨cell_kept j0 k0 ?_, cell_kept j0 k1 ?_, cell_kept j0 k2' ?_, cell_kept j0 k3' ?_, cell_kept j0 k4 ?_, cell_kept j1 f0 ?_, cell_kept j1 f1 ?_, cell_kept j1 f2 ?_⟩ <;> ((repeat (first | exact B_refl | exact Below.refl _ _ | assumption | with_reducible refine B_alloc ?_ _ | with_reducible refine B_ext ?_ _ | with_reducible refine B_drew ?_ | with_reducible refine B_drewN ?_ _ | with_reducible refine B_set ?_ (by simp; omega) _)); done))))
        clear hK K
        try simp only [Act.put, List.setIfInBounds_toArray, List.set_cons_zero, List.set_cons_succ]
        refine wpAnyH_take (i := 7) (v := ?_) (List.getElem?_toArray.trans rfl) (by kernel_rfl) (by kernel_rfl) (by kernel_rfl) (fun _ _ _ h => h) (Or.inl ⟨by rfl, ?_⟩) (by assumption) ?_
        rotate_left 1
        focus (intro w hSw; (try dsimp only at hSw); go_simp; first | done | with_reducible rfl)
        try simp only [Act.put, List.setIfInBounds_toArray, List.set_cons_zero, List.set_cons_succ]
        refine wpAnyH_take (i := 8) (v := ?_) (List.getElem?_toArray.trans rfl) (by kernel_rfl) (by kernel_rfl) (by kernel_rfl) (fun _ _ _ h => h) (Or.inl ⟨by rfl, ?_⟩) (by assumption) ?_
        rotate_left 1
        focus (intro w hSw; (try dsimp only at hSw); go_simp; first | done | with_reducible rfl)
        try simp only [Act.put, List.setIfInBounds_toArray, List.set_cons_zero, List.set_cons_succ]
        refine wpAnyH_take (i := 9) (v := ?_) (List.getElem?_toArray.trans rfl) (by kernel_rfl) (by kernel_rfl) (by kernel_rfl) (fun _ _ _ h => h) (Or.inl ⟨by rfl, ?_⟩) (by assumption) ?_
        rotate_left 1
        focus (intro w hSw; (try dsimp only at hSw); go_simp; first | done | with_reducible rfl)
        try simp only [Act.put, List.setIfInBounds_toArray, List.set_cons_zero, List.set_cons_succ]
        refine wpAnyH_take (i := 10) (v := ?_) (List.getElem?_toArray.trans rfl) (by kernel_rfl) (by kernel_rfl) (by kernel_rfl) (fun _ _ _ h => h) (Or.inl ⟨by rfl, ?_⟩) (by assumption) ?_
        rotate_left 1
        focus (intro w hSw; (try dsimp only at hSw); go_simp; first | done | with_reducible rfl)
        try simp only [Act.put, List.setIfInBounds_toArray, List.set_cons_zero, List.set_cons_succ]
        refine wpAnyH_ready (rs := [11]) (by kernel_rfl) (by simp) (AllReadyH.cons (List.getElem?_toArray.trans rfl) (fun K hK => ?_) AllReadyH.nil)
        go_simp
        refine hK.out _ _ ?_ (fun hHeld => ?_)
        focus ((try dsimp only); ((refine ⟨cell_kept j0 k0 ?_, cell_kept j0 k1 ?_, cell_kept j0 k2' ?_, cell_kept j0 k3' ?_, cell_kept j0 k4 ?_, cell_kept j1 f0 ?_, cell_kept j1 f1 ?_, cell_kept j1 f2 ?_⟩ <;> ((repeat (first | exact B_refl | exact Below.refl _ _ | assumption | with_reducible refine B_alloc ?_ _ | with_reducible refine B_ext ?_ _ | with_reducible refine B_drew ?_ | with_reducible refine B_drewN ?_ _ | with_reducible refine B_set ?_ (by simp; omega) _)); done))))
        clear hK K
        try simp only [Act.put, List.setIfInBounds_toArray, List.set_cons_zero, List.set_cons_succ]
        refine wpAnyH_ready (rs := [12]) (by kernel_rfl) (by simp) (AllReadyH.cons (List.getElem?_toArray.trans rfl) (fun K hK => ?_) AllReadyH.nil)
        go_simp
        refine hK.out _ _ ?_ (fun hHeld => ?_)
        focus ((try dsimp only); ((refine ⟨cell_kept j0 k0 ?_, cell_kept j0 k1 ?_, cell_kept j0 k2' ?_, cell_kept j0 k3' ?_, cell_kept j0 k4 ?_, cell_kept j1 f0 ?_, cell_kept j1 f1 ?_, cell_kept j1 f2 ?_⟩ <;> ((repeat (first | exact B_refl | exact Below.refl _ _ | assumption | with_reducible refine B_alloc ?_ _ | with_reducible refine B_ext ?_ _ | with_reducible refine B_drew ?_ | with_reducible refine B_drewN ?_ _ | with_reducible refine B_set ?_ (by simp; omega) _)); done))))
        clear hK K
        try simp only [Act.put, List.setIfInBounds_toArray, List.set_cons_zero, List.set_cons_succ]
        refine wpAnyH_ready (rs := [13]) (by kernel_rfl) (by simp) (AllReadyH.cons (List.getElem?_toArray.trans rfl) (fun K hK => ?_) AllReadyH.nil)
        go_simp
        refine hK.out _ _ ?_ (fun hHeld => ?_)
        focus ((try dsimp only); ((refine ⟨cell_kept j0 k0 ?_, cell_kept j0 k1 ?_, cell_kept j0 k2' ?_, cell_kept j0 k3' ?_, cell_kept j0 k4 ?_, cell_kept j1 f0 ?_, cell_kept j1 f1 ?_, cell_kept j1 f2 ?_⟩ <;> ((repeat (first | exact B_refl | exact Below.refl _ _ | assumption | with_reducible refine B_alloc ?_ _ | with_reducible refine B_ext ?_ _ | with_reducible refine B_drew ?_ | with_reducible refine B_drewN ?_ _ | with_reducible refine B_set ?_ (by simp; omega) _)); done))))
        clear hK K
        try simp only [Act.put, List.setIfInBounds_toArray, List.set_cons_zero, List.set_cons_succ]
        refine wpAnyH_done (by kernel_rfl) ?_ _
        generalize hW7 : World.ext w6 z7 = W7 at *
        have hB7 : Below w.heap.size w W7 := by rw [← hW7]; repeat (first | exact B_refl | exact Below.refl _ _ | assumption | with_reducible refine B_alloc ?_ _ | with_reducible refine B_ext ?_ _ | with_reducible refine B_drew ?_ | with_reducible refine B_drewN ?_ _ | with_reducible refine B_set ?_ (by simp; omega) _)
        have hB27 : Below W2.heap.size W2 W7 := by rw [← hW7]; exact B_ext hB6 _ (Nat.le_refl _)
        have u0 := cell_kept j1 f0 hB27
        have u2 := cell_kept j1 f2 hB27
        have jj : w.heap.size + 1 < W7.heap.size := Nat.lt_of_lt_of_le j1 hB27.size
        clear hW7 hB27 hB6 hB06 hB2 k0 k1 k2' k3' k4 f0 f1 f2 j0 j1 hei6 HREP hSF1 hHeld
        go_wp2_with fail
        go_loopw [12] (fun i wr => ∃ j : Nat, j ≤ ls'.length ∧ i = .int .i64 j ∧ ∃ z, wr = W7.ext z) (fun i _ => ls'.length - (intOf i).toNat)
        case atStart => exact ⟨0, Nat.zero_le _, rfl, ext_below (Below.refl _ _)⟩
        case round =>
          obtain ⟨j, hj, rfl, z, rfl⟩ := hrel
          by_cases hjl : j < ls'.length
          · obtain ⟨b, off, rfl, hb, hc0⟩ := hS7.at hjl
            have x0 : W7.cell? ⟨b, off + j * 6, none⟩ = some (.string ls'[j].remain) := hc0 0 _ rfl
            have x1 : W7.cell? ⟨b, off + j * 6 + 1, none⟩ = some (.int .i64 ls'[j].state) := hc0 1 _ rfl
            have x2 : W7.cell? ⟨b, off + j * 6 + 2, none⟩ = some (.string ls'[j].site) := hc0 2 _ rfl
            have hg := g2 _ (List.getElem_mem hjl)
            have hjl2 : (j : Int) < (ls'.length : Int) := by omega
            clear hc0
            generalize ls'[j] = l at *
            obtain ⟨a0, a1, a2, a3, a4, a5⟩ := l
            dsimp only at x0 x1 x2
            unfold liesAt at hg
            dsimp only at hg
            cases h1 : (a1 == 1)
            · clear hg
              go_wp2_with fail
              (refine wp_region_ext_lit (by kernel_rfl) (by kernel_rfl) ?_
               repeat (first | go_big_quiet_skip | (go_big_quiet_want; go_big_quiet_op; first | go_big_quiet_on | (apply Exists.intro; refine ⟨fun _ => ?_, ?_⟩; (fail); go_big_quiet_on)))
               refine wpQuiet_nil ?_
               rintro _ ⟨zq, rfl⟩)
              go_wp2_with fail
              go_roundw
              case rel => exact ⟨j + 1, by omega, by go_num, ext_below (by repeat (first | exact B_refl | exact Below.refl _ _ | assumption | with_reducible refine B_alloc ?_ _ | with_reducible refine B_ext ?_ _ | with_reducible refine B_drew ?_ | with_reducible refine B_drewN ?_ _ | with_reducible refine B_set ?_ (by simp; omega) _))⟩
              case measure => simp [intOf]; omega
            · rw [h1, Bool.true_and] at hg
              go_wp2_with fail
              (refine wp_region_ext_lit (by kernel_rfl) (by kernel_rfl) ?_
               repeat (first | go_big_quiet_skip | (go_big_quiet_want; go_big_quiet_op; first | go_big_quiet_on | (apply Exists.intro; refine ⟨fun _ => ?_, ?_⟩; (fail); go_big_quiet_on)))
               refine wpQuiet_nil ?_
               rintro _ ⟨zq, rfl⟩)
              go_wp2_with fail
              go_roundw
              case rel => exact ⟨j + 1, by omega, by go_num, ext_below (by repeat (first | exact B_refl | exact Below.refl _ _ | assumption | with_reducible refine B_alloc ?_ _ | with_reducible refine B_ext ?_ _ | with_reducible refine B_drew ?_ | with_reducible refine B_drewN ?_ _ | with_reducible refine B_set ?_ (by simp; omega) _))⟩
              case measure => simp [intOf]; omega
          · have hje : j = ls'.length := by omega
            subst hje
            go_wp2_with fail
            go_ret
            exact Ret.of rfl (hB7.trans ((by repeat (first | exact B_refl | exact Below.refl _ _ | assumption | with_reducible refine B_alloc ?_ _ | with_reducible refine B_ext ?_ _ | with_reducible refine B_drew ?_ | with_reducible refine B_drewN ?_ _ | with_reducible refine B_set ?_ (by simp; omega) _) : Below W7.heap.size W7 _).mono hB7.size))
end Go.Proofs.YtpohkolapgofdaaGreat
namespace Go.Proofs.YtpohkolapgofdaaGreat
open Go.ChangeShapes Go.WideShapes Go.ChangeAt Go.RowKit

set_option maxRecDepth 100000 in
theorem graveGathers_lifted (os : Os) (started : os.Started) (H : Type) (enc : TypeId × Value → H) :
    ReturnsInHanded {} Tryz.checked os 5 .any (Rows.graveGathersSpec.pre6 enc Tryz.prog Tryz.f5 Rows.graveGathersRow.domain false) (Rows.graveGathersSpec.post enc Tryz.prog Tryz.f5 false true false false) := by
  refine returnsInHanded_of_change (C := Tryz.checked) own_knob started (by kernel_rfl) Tryz.func5
    (ChangeSpec.witness6 (enc := enc) (C := Tryz.checked) false ⟨#[], #[.agg #[.slice none 0 0, .slice none 0 0, .int .i64 0, .int .i64 0, .int .i64 0], .agg #[.slice none 0 0, .int .i64 0, .string ⟨#[]⟩]], []⟩ 8 (by kernel_rfl) (by kernel_rfl) (by kernel_rfl) (by kernel_rfl)) ?_
  intro W base args ds gs before hval0 hW hcnd _
  have hval : ∀ (j : Nat) t v, Tryz.f5.params[j]? = some t → args[j]? = some v → Value.okWide Tryz.prog W .any base t v := hval0
  have hW' := hW
  obtain ⟨p, q, hA0, hV, rfl, hfz, hnd⟩ := hW
  have hA : DataW.TrodAll enc Tryz.prog W 0 (fun _ => true) true Tryz.f5.params.toList args.toList ds p := hA0
  rw [Tryz.params5] at hA hval
  obtain ⟨v0, vs0, d0, ds0, p0, q0, hargs, rfl, rfl, h0, r0⟩ := trodAll_cons hA
  obtain ⟨v1, vs1, d1, ds1, p1, q1, rfl, rfl, rfl, h1, r1⟩ := trodAll_cons r0
  obtain ⟨rfl, rfl, rfl⟩ := trodAll_nil r1
  obtain rfl : args = #[v0, v1] := by cases args; simp_all
  obtain ⟨rfl, rfl⟩ := trodVars_none hV
  have k0 := h0
  have k1 := h1
  have lt0 : ∀ x ∈ p0, x.block < W.heap.size := by obtain ⟨m, hm⟩ := k0; exact DataW.trod_lt m _ _ _ hm
  have lt1 : ∀ x ∈ p1, x.block < W.heap.size := by obtain ⟨m, hm⟩ := k1; exact DataW.trod_lt m _ _ _ hm
  obtain ⟨ss, rs, A, n, c, R, rn, rc, c0, c1, c2, rfl, hy⟩ := open_yard (hval 0 26 v0 rfl rfl) h0
  obtain ⟨es, E, en, ec, day, nm, rfl, hev, hcap⟩ := open_moment (hval 1 29 v1 rfl rfl) h1
  clear hA0 hval0
  refine (graveGathers_any ss rs A R n c rn rc c0 c1 c2 es E en ec day nm W hy hev hcap).mono fun e W' ⟨he, z, hz⟩ => ?_
  subst he
  have bel : Below W.heap.size W W' := by rw [hz]; exact below_ext W z
  exact ⟨_, rfl, _, _, _, [], _, [], hW', trodAll_mk1 (shut_bool Tryz.underlying4 _), (trodAll_cons_mk (Below.trod laid_out (by kernel_rfl) (of_decide_eq_true (by kernel_rfl)) k0 bel lt0) (trodAll_cons_mk (Below.trod laid_out (by kernel_rfl) (of_decide_eq_true (by kernel_rfl)) k1 bel lt1) trodAll_mk0)), rfl, bel.frame _, fun h => by cases h⟩

theorem graveGathers_holds : Rows.GraveGathersSaid :=
  OpenClaim.holds_of_wide 5 Tryz.f5 rfl rfl rfl rfl rfl rfl rfl ⟨rfl, rfl, rfl, rfl, rfl⟩ rfl rfl rfl rfl rfl (by kernel_rfl) Tryz.func5 (by kernel_rfl)
    (of_decide_eq_true (by kernel_rfl)) (by unfold Func.isWrapper; first | (rw [if_pos (by decide +kernel)]; kernel_rfl) | (rw [if_neg (by decide +kernel)]; exact ⟨rfl, rfl⟩))
    (fun os started H enc _ => graveGathers_lifted os started H enc)
#print axioms graveGathers_holds
end Go.Proofs.YtpohkolapgofdaaGreat
