/- Walk: the law GraveDays. -/
/- GraveDays: for every yard, events, day and name the law returns true, and the input reads as it did. No conditions. -/
import Derived.Test.YtpohkolapgofdaaGreatQE
import Derived.Test.YtpohkolapgofdaaGreatR3
import Derived.Test.YtpohkolapgofdaaGreatRows
import Derived.Test.YtpohkolapgofdaaGreatD1
namespace Go.Proofs.YtpohkolapgofdaaGreat
open Go.RowKit
attribute [local go_sem] World.cell?_alloc_mark ext_size ext_cell ext_frozen lt_add_r lt_add_r2 lt_add_r3 lt_add_r4 lt_add_r5 lt_add_r6 lt_add_r7 lt_add_r8

theorem via6 {P : Program} {id : Nat} {ops : Array Oper} {Q : Exit → Act → World → Prop} {a : Act} {w : World} (act : Nat → Option Addr → Option Addr → Option Addr → Nat → Nat → Nat → Act) (F : Nat → World → Prop)
    (h1 : (Code.region id ops true).wp P (fun ex a' W' => ex = .normal ∧ ∃ (BB : Nat) (A2 R2 E2 : Option Addr) (k2 r2 k3 : Nat), a' = act BB A2 R2 E2 k2 r2 k3 ∧ F BB W') a w)
    (h2 : ∀ (BB : Nat) (A2 R2 E2 : Option Addr) (k2 r2 k3 : Nat) (W' : World), F BB W' → Q .normal (act BB A2 R2 E2 k2 r2 k3) W') : (Code.region id ops true).wp P Q a w :=
  Code.wp_mono (fun _ _ _ ⟨he, _, _, _, _, _, _, _, ha, hf⟩ => by subst he ha; exact h2 _ _ _ _ _ _ _ _ hf) h1
def whereD (nm : ByteArray) (X : List Lot) (l : Lot) (r : Int) : Prop := (findLot nm X = none ∧ l = zeroLot ∧ r = 6) ∨ (findLot nm X = some l ∧ r = 0)
def withD (o : Option Site) (X l : List Lot) (r : Int) : Prop := (o = none ∧ l = [] ∧ r = 6) ∨ (∃ s, o = some s ∧ l = X ∧ r = 0)
set_option maxRecDepth 100000 in
set_option maxHeartbeats 8000000 in
theorem graveDays_any (ss : List Site) (rs : List Rest) (A R : Option Addr) (n c rn rc : Nat) (c0 c1 c2 : Int) (es : List Event) (E : Option Addr) (en ec : Nat) (day : Int) (nm : ByteArray) (w : World) (hy : YardRaw w ss rs A n c R rn rc) (hev : EventsRaw w es E en) (hcap : es.length ≤ ec) :
    Calls Tryz.prog 3 #[.agg #[.slice A n c, .slice R rn rc, .int .i64 c0, .int .i64 c1, .int .i64 c2], .agg #[.slice E en ec, .int .i64 day, .string nm]] w (Ret w (.bool true)) := by
  have h1 := hy.hn
  have h2 := hy.hrn
  subst h1 h2
  go_enter Tryz.func3, Tryz.ntmps3
  cases hsm : smallP ss rs
  · go_wp2_with (first
                  | (go_at_call 6; refine (awake_any _).mono ?_; rintro e wq ⟨rfl, za, rfl⟩)
                  | (go_at_call 7; refine (small_any ss rs _ _ _ _ _ _ _ _ _ _ (hy.keep (m := w.heap.size) (by repeat (first | exact B_refl | exact Below.refl _ _ | assumption | with_reducible refine B_alloc ?_ _ | with_reducible refine B_ext ?_ _ | with_reducible refine B_drew ?_ | with_reducible refine B_drewN ?_ _ | with_reducible refine B_set ?_ (by simp; omega) _)))).mono ?_; rintro e wq ⟨rfl, zs, rfl⟩; rw [hsm])
                  | (go_at_call 8; refine (few_any es _ _ _ _ (hev.keep (m := w.heap.size) (by repeat (first | exact B_refl | exact Below.refl _ _ | assumption | with_reducible refine B_alloc ?_ _ | with_reducible refine B_ext ?_ _ | with_reducible refine B_drew ?_ | with_reducible refine B_drewN ?_ _ | with_reducible refine B_set ?_ (by simp; omega) _)))).mono ?_; rintro e wq ⟨rfl, zf, rfl⟩; rw [hfw]))
    go_ret
    exact Ret.of rfl (by repeat (first | exact B_refl | exact Below.refl _ _ | assumption | with_reducible refine B_alloc ?_ _ | with_reducible refine B_ext ?_ _ | with_reducible refine B_drew ?_ | with_reducible refine B_drewN ?_ _ | with_reducible refine B_set ?_ (by simp; omega) _))
  obtain ⟨hyi, hyl1, hyl2⟩ := small_yard hy hsm
  cases hfw : fewP es
  · go_wp2_with (first
                  | (go_at_call 6; refine (awake_any _).mono ?_; rintro e wq ⟨rfl, za, rfl⟩)
                  | (go_at_call 7; refine (small_any ss rs _ _ _ _ _ _ _ _ _ _ (hy.keep (m := w.heap.size) (by repeat (first | exact B_refl | exact Below.refl _ _ | assumption | with_reducible refine B_alloc ?_ _ | with_reducible refine B_ext ?_ _ | with_reducible refine B_drew ?_ | with_reducible refine B_drewN ?_ _ | with_reducible refine B_set ?_ (by simp; omega) _)))).mono ?_; rintro e wq ⟨rfl, zs, rfl⟩; rw [hsm])
                  | (go_at_call 8; refine (few_any es _ _ _ _ (hev.keep (m := w.heap.size) (by repeat (first | exact B_refl | exact Below.refl _ _ | assumption | with_reducible refine B_alloc ?_ _ | with_reducible refine B_ext ?_ _ | with_reducible refine B_drew ?_ | with_reducible refine B_drewN ?_ _ | with_reducible refine B_set ?_ (by simp; omega) _)))).mono ?_; rintro e wq ⟨rfl, zf, rfl⟩; rw [hfw]))
    go_ret
    exact Ret.of rfl (by repeat (first | exact B_refl | exact Below.refl _ _ | assumption | with_reducible refine B_alloc ?_ _ | with_reducible refine B_ext ?_ _ | with_reducible refine B_drew ?_ | with_reducible refine B_drewN ?_ _ | with_reducible refine B_set ?_ (by simp; omega) _))
  obtain ⟨hei, hel1, hel2⟩ := few_events hev hfw
  have hen := hei.hn
  subst hen
  by_cases hn1 : 30 < (nm.size : Int)
  · go_wp2_with (first
                  | (go_at_call 6; refine (awake_any _).mono ?_; rintro e wq ⟨rfl, za, rfl⟩)
                  | (go_at_call 7; refine (small_any ss rs _ _ _ _ _ _ _ _ _ _ (hy.keep (m := w.heap.size) (by repeat (first | exact B_refl | exact Below.refl _ _ | assumption | with_reducible refine B_alloc ?_ _ | with_reducible refine B_ext ?_ _ | with_reducible refine B_drew ?_ | with_reducible refine B_drewN ?_ _ | with_reducible refine B_set ?_ (by simp; omega) _)))).mono ?_; rintro e wq ⟨rfl, zs, rfl⟩; rw [hsm])
                  | (go_at_call 8; refine (few_any es _ _ _ _ (hev.keep (m := w.heap.size) (by repeat (first | exact B_refl | exact Below.refl _ _ | assumption | with_reducible refine B_alloc ?_ _ | with_reducible refine B_ext ?_ _ | with_reducible refine B_drew ?_ | with_reducible refine B_drewN ?_ _ | with_reducible refine B_set ?_ (by simp; omega) _)))).mono ?_; rintro e wq ⟨rfl, zf, rfl⟩; rw [hfw]))
    go_ret
    exact Ret.of rfl (by repeat (first | exact B_refl | exact Below.refl _ _ | assumption | with_reducible refine B_alloc ?_ _ | with_reducible refine B_ext ?_ _ | with_reducible refine B_drew ?_ | with_reducible refine B_drewN ?_ _ | with_reducible refine B_set ?_ (by simp; omega) _))
  have hc63 : ss.length ≤ 100000 := by omega
  have hc43 : rs.length ≤ 100000 := by omega
  have hel3 : es.length ≤ 100000 := by omega
  have HON := fun A n c R rn rc E ec W h1 h2 => gOn_w ss rs A R n c rn rc c0 c1 c2 es E es.length ec day W h1 h2
  have HWH := fun A n c R rn rc E ec W h1 h2 => gWhere_w ss rs A R n c rn rc c0 c1 c2 es E es.length ec nm day W h1 h2
  have HWI := fun A n c R rn rc E ec W h1 h2 => gWithin_w ss rs A R n c rn rc c0 c1 c2 es E es.length ec nm day W h1 h2 hel2
  generalize hp1 : onW c0 c1 c2 ss rs es day = p1 at HON
  generalize hp2 : whereW c0 c1 c2 ss rs es nm day = p2 at HWH
  generalize hp3 : withinW c0 c1 c2 ss rs es nm day = p3 at HWI
  have HP1 := Lib.hid hp1
  have HP2 := Lib.hid hp2
  have HP3 := Lib.hid hp3
  clear hp1 hp2 hp3
  obtain ⟨l1, r1⟩ := p1
  obtain ⟨⟨trm, tst, tsi, tlv, tco, tsc⟩, er2⟩ := p2
  obtain ⟨l3, r3⟩ := p3
  go_wp2_with (first
                | (go_at_call 6; refine (awake_any _).mono ?_; rintro e wq ⟨rfl, za, rfl⟩)
                | (go_at_call 7; refine (small_any ss rs _ _ _ _ _ _ _ _ _ _ (hy.keep (m := w.heap.size) (by repeat (first | exact B_refl | exact Below.refl _ _ | assumption | with_reducible refine B_alloc ?_ _ | with_reducible refine B_ext ?_ _ | with_reducible refine B_drew ?_ | with_reducible refine B_drewN ?_ _ | with_reducible refine B_set ?_ (by simp; omega) _)))).mono ?_; rintro e wq ⟨rfl, zs, rfl⟩; rw [hsm])
                | (go_at_call 8; refine (few_any es _ _ _ _ (hev.keep (m := w.heap.size) (by repeat (first | exact B_refl | exact Below.refl _ _ | assumption | with_reducible refine B_alloc ?_ _ | with_reducible refine B_ext ?_ _ | with_reducible refine B_drew ?_ | with_reducible refine B_drewN ?_ _ | with_reducible refine B_set ?_ (by simp; omega) _)))).mono ?_; rintro e wq ⟨rfl, zf, rfl⟩; rw [hfw]))
  generalize hW0 : World.ext (World.ext (World.ext ((w.alloc (.cells #[.slice A ss.length c, .slice R rs.length rc, .int .i64 c0, .int .i64 c1, .int .i64 c2] 26)).alloc (.cells #[.slice E es.length ec, .int .i64 day, .string nm] 29)) za) zs) zf = W0
  have hB : Below w.heap.size w W0 := by rw [← hW0]; repeat (first | exact B_refl | exact Below.refl _ _ | assumption | with_reducible refine B_alloc ?_ _ | with_reducible refine B_ext ?_ _ | with_reducible refine B_drew ?_ | with_reducible refine B_drewN ?_ _ | with_reducible refine B_set ?_ (by simp; omega) _)
  have hblk : W0.heap[w.heap.size]? = some (.cells #[.slice A ss.length c, .slice R rs.length rc, .int .i64 c0, .int .i64 c1, .int .i64 c2] 26) := by rw [← hW0]; (repeat (first | with_reducible exact G_new _ _ _ (by simp) | with_reducible exact G_new _ _ _ (by simp [ext_size]) | with_reducible refine G_drew ?_ | with_reducible refine G_ext ?_ | with_reducible refine G_alloc ?_))
  have hblk1 : W0.heap[w.heap.size + 1]? = some (.cells #[.slice E es.length ec, .int .i64 day, .string nm] 29) := by rw [← hW0]; (repeat (first | with_reducible exact G_new _ _ _ (by simp) | with_reducible exact G_new _ _ _ (by simp [ext_size]) | with_reducible refine G_drew ?_ | with_reducible refine G_ext ?_ | with_reducible refine G_alloc ?_))
  have hz := blk_lt hblk
  have hz1 := blk_lt hblk1
  have g0 : W0.cell? ⟨w.heap.size, 0, none⟩ = some (.slice A ss.length c) := by simp [World.cell?, hblk]
  have g1 : W0.cell? ⟨w.heap.size, 1, none⟩ = some (.slice R rs.length rc) := by simp [World.cell?, hblk]
  have g2 : W0.cell? ⟨w.heap.size, 2, none⟩ = some (.int .i64 c0) := by simp [World.cell?, hblk]
  have g3 : W0.cell? ⟨w.heap.size, 3, none⟩ = some (.int .i64 c1) := by simp [World.cell?, hblk]
  have g4 : W0.cell? ⟨w.heap.size, 4, none⟩ = some (.int .i64 c2) := by simp [World.cell?, hblk]
  have e0 : W0.cell? ⟨w.heap.size + 1, 0, none⟩ = some (.slice E es.length ec) := by simp [World.cell?, hblk1]
  have e1 : W0.cell? ⟨w.heap.size + 1, 1, none⟩ = some (.int .i64 day) := by simp [World.cell?, hblk1]
  have e2 : W0.cell? ⟨w.heap.size + 1, 2, none⟩ = some (.string nm) := by simp [World.cell?, hblk1]
  clear hW0 hblk hblk1 hsm hfw hy hev hn1
  go_region_held3 (fun w' => w'.cell? ⟨w.heap.size, 0, none⟩ = some (.slice A ss.length c) ∧ w'.cell? ⟨w.heap.size, 1, none⟩ = some (.slice R rs.length rc) ∧ w'.cell? ⟨w.heap.size, 2, none⟩ = some (.int .i64 c0) ∧ w'.cell? ⟨w.heap.size, 3, none⟩ = some (.int .i64 c1) ∧ w'.cell? ⟨w.heap.size, 4, none⟩ = some (.int .i64 c2) ∧
                     w'.cell? ⟨w.heap.size + 1, 0, none⟩ = some (.slice E es.length ec) ∧ w'.cell? ⟨w.heap.size + 1, 1, none⟩ = some (.int .i64 day) ∧ w'.cell? ⟨w.heap.size + 1, 2, none⟩ = some (.string nm))
                    ((refine ⟨cell_kept hz g0 ?_, cell_kept hz g1 ?_, cell_kept hz g2 ?_, cell_kept hz g3 ?_, cell_kept hz g4 ?_, cell_kept hz1 e0 ?_, cell_kept hz1 e1 ?_, cell_kept hz1 e2 ?_⟩ <;> ((repeat (first | exact B_refl | exact Below.refl _ _ | assumption | with_reducible refine B_alloc ?_ _ | with_reducible refine B_ext ?_ _ | with_reducible refine B_drew ?_ | with_reducible refine B_drewN ?_ _ | with_reducible refine B_set ?_ (by simp; omega) _)); done)))
    (first
      | (go_at_call 10; refine (copyYard_any ss rs _ _ _ _ _ _ _ _ _ _ (hyi.keep (m := w.heap.size) ?q1)).mono ?_
         case q1 => repeat (first | exact B_refl | exact Below.refl _ _ | assumption | with_reducible refine B_alloc ?_ _ | with_reducible refine B_ext ?_ _ | with_reducible refine B_drew ?_ | with_reducible refine B_drewN ?_ _ | with_reducible refine B_set ?_ (by simp; omega) _)
         intro e wq hq; obtain ⟨A2, k2, R2, r2, rfl, hy2, zc1, rfl⟩ := hq.form hc63 hc43 hyi.sh; clear hq)
      | (go_at_call 11; refine (copyEvents_any es E es.length ec _ (hei.keep (m := w.heap.size) ?q1)).mono ?_
         case q1 => repeat (first | exact B_refl | exact Below.refl _ _ | assumption | with_reducible refine B_alloc ?_ _ | with_reducible refine B_ext ?_ _ | with_reducible refine B_drew ?_ | with_reducible refine B_drewN ?_ _ | with_reducible refine B_set ?_ (by simp; omega) _)
         intro e wq hq; obtain ⟨E2, k3, ze1, rfl, rfl, he2⟩ := hq.form hel3 hei.sh; clear hq)
      | (go_at_call 9; refine (HON _ _ _ _ _ _ _ _ _ (hy2.keep ?q1) (he2.keep ?q2)).mono ?_
         case q1 => repeat (first | exact B_refl | exact Below.refl _ _ | assumption | with_reducible refine B_alloc ?_ _ | with_reducible refine B_ext ?_ _ | with_reducible refine B_drew ?_ | with_reducible refine B_drewN ?_ _ | with_reducible refine B_set ?_ (by simp; omega) _)
         case q2 => repeat (first | exact B_refl | exact Below.refl _ _ | assumption | with_reducible refine B_alloc ?_ _ | with_reducible refine B_ext ?_ _ | with_reducible refine B_drew ?_ | with_reducible refine B_drewN ?_ _ | with_reducible refine B_set ?_ (by simp; omega) _)
         rintro e wq ⟨F, fc, rfl, hSF, zd1, rfl⟩))
  generalize hW1 : World.ext (World.ext (World.ext (World.drew W0) zc1) ze1) zd1 = W1
  have hB1 : Below w.heap.size w W1 := by rw [← hW1]; repeat (first | exact B_refl | exact Below.refl _ _ | assumption | with_reducible refine B_alloc ?_ _ | with_reducible refine B_ext ?_ _ | with_reducible refine B_drew ?_ | with_reducible refine B_drewN ?_ _ | with_reducible refine B_set ?_ (by simp; omega) _)
  have hB01 : Below W0.heap.size W0 W1 := by rw [← hW1]; repeat (first | exact B_refl | exact Below.refl _ _ | assumption | with_reducible refine B_alloc ?_ _ | with_reducible refine B_ext ?_ _ | with_reducible refine B_drew ?_ | with_reducible refine B_drewN ?_ _ | with_reducible refine B_set ?_ (by simp; omega) _)
  have hSF1 : Sl W1 6 Lot.cells F l1 := hSF.keep (by rw [← hW1]; repeat (first | exact B_refl | exact Below.refl _ _ | assumption | with_reducible refine B_alloc ?_ _ | with_reducible refine B_ext ?_ _ | with_reducible refine B_drew ?_ | with_reducible refine B_drewN ?_ _ | with_reducible refine B_set ?_ (by simp; omega) _)) (Nat.le_refl _)
  have k0 := cell_kept hz g0 hB01
  have k1 := cell_kept hz g1 hB01
  have k2' := cell_kept hz g2 hB01
  have k3' := cell_kept hz g3 hB01
  have k4 := cell_kept hz g4 hB01
  have f0 := cell_kept hz1 e0 hB01
  have f1 := cell_kept hz1 e1 hB01
  have f2 := cell_kept hz1 e2 hB01
  have j0 : w.heap.size < W1.heap.size := Nat.lt_of_lt_of_le hz hB01.size
  have j1 : w.heap.size + 1 < W1.heap.size := Nat.lt_of_lt_of_le hz1 hB01.size
  clear hW1 hB01 g0 g1 g2 g3 g4 e0 e1 e2 hz hz1 hB hSF HON hy2 he2
  go_wp2_with fail
  apply via6 (F := fun BB W' => Below W1.heap.size W1 W' ∧ W'.heap[BB]? = some (.cells #[.string trm, .int .i64 tst, .string tsi, .int .i64 tlv, .int .i64 tco, .int .i64 tsc] 40))
  case h1 =>
   refine wp_region_held_drew (S := (fun w' => w'.cell? ⟨w.heap.size, 0, none⟩ = some (.slice A ss.length c) ∧ w'.cell? ⟨w.heap.size, 1, none⟩ = some (.slice R rs.length rc) ∧ w'.cell? ⟨w.heap.size, 2, none⟩ = some (.int .i64 c0) ∧ w'.cell? ⟨w.heap.size, 3, none⟩ = some (.int .i64 c1) ∧ w'.cell? ⟨w.heap.size, 4, none⟩ = some (.int .i64 c2) ∧ w'.cell? ⟨w.heap.size + 1, 0, none⟩ = some (.slice E es.length ec) ∧ w'.cell? ⟨w.heap.size + 1, 1, none⟩ = some (.int .i64 day) ∧ w'.cell? ⟨w.heap.size + 1, 2, none⟩ = some (.string nm))) (by kernel_rfl) ?hS ?hrest
   case hS => ((try dsimp only); ((refine ⟨cell_kept j0 k0 ?_, cell_kept j0 k1 ?_, cell_kept j0 k2' ?_, cell_kept j0 k3' ?_, cell_kept j0 k4 ?_, cell_kept j1 f0 ?_, cell_kept j1 f1 ?_, cell_kept j1 f2 ?_⟩ <;> ((repeat (first | exact B_refl | exact Below.refl _ _ | assumption | with_reducible refine B_alloc ?_ _ | with_reducible refine B_ext ?_ _ | with_reducible refine B_drew ?_ | with_reducible refine B_drewN ?_ _ | with_reducible refine B_set ?_ (by simp; omega) _)); done))))
   case hrest =>
    intro hHeld
    refine wpAnyH_take (i := 0) (v := ?_) (List.getElem?_toArray.trans rfl) (by kernel_rfl) (by kernel_rfl) (by kernel_rfl) (fun _ _ _ h => nomatch h.1) (Or.inl ⟨by rfl, ?_⟩) (by assumption) ?_
    rotate_left 1
    focus (intro w hSw; (try dsimp only at hSw); go_simp; first | done | with_reducible rfl)
    try simp only [Act.put, List.setIfInBounds_toArray, List.set_cons_zero, List.set_cons_succ]
    refine wpAnyH_take (i := 2) (v := ?_) (List.getElem?_toArray.trans rfl) (by kernel_rfl) (by kernel_rfl) (by kernel_rfl) (fun _ _ _ h => nomatch h.1) (Or.inl ⟨by rfl, ?_⟩) (by assumption) ?_
    rotate_left 1
    focus (intro w hSw; (try dsimp only at hSw); go_simp; first | done | with_reducible rfl)
    try simp only [Act.put, List.setIfInBounds_toArray, List.set_cons_zero, List.set_cons_succ]
    refine wpAnyH_take (i := 3) (v := ?_) (List.getElem?_toArray.trans rfl) (by kernel_rfl) (by kernel_rfl) (by kernel_rfl) (fun _ _ _ h => nomatch h.1) (Or.inl ⟨by rfl, ?_⟩) (by assumption) ?_
    rotate_left 1
    focus (intro w hSw; (try dsimp only at hSw); go_simp; first | done | with_reducible rfl)
    try simp only [Act.put, List.setIfInBounds_toArray, List.set_cons_zero, List.set_cons_succ]
    refine wpAnyH_take (i := 5) (v := ?_) (List.getElem?_toArray.trans rfl) (by kernel_rfl) (by kernel_rfl) (by kernel_rfl) (fun _ _ _ h => nomatch h.1) (Or.inl ⟨by rfl, ?_⟩) (by assumption) ?_
    rotate_left 1
    focus (intro w hSw; (try dsimp only at hSw); go_simp; first | done | with_reducible rfl)
    try simp only [Act.put, List.setIfInBounds_toArray, List.set_cons_zero, List.set_cons_succ]
    refine wpAnyH_take (i := 6) (v := ?_) (List.getElem?_toArray.trans rfl) (by kernel_rfl) (by kernel_rfl) (by kernel_rfl) (fun _ _ _ h => nomatch h.1) (Or.inl ⟨by rfl, ?_⟩) (by assumption) ?_
    rotate_left 1
    focus (intro w hSw; (try dsimp only at hSw); go_simp; first | done | with_reducible rfl)
    try simp only [Act.put, List.setIfInBounds_toArray, List.set_cons_zero, List.set_cons_succ]
    refine wpAnyH_take (i := 7) (v := ?_) (List.getElem?_toArray.trans rfl) (by kernel_rfl) (by kernel_rfl) (by kernel_rfl) (fun _ _ _ h => nomatch h.1) (Or.inl ⟨by rfl, ?_⟩) (by assumption) ?_
    rotate_left 1
    focus (intro w hSw; (try dsimp only at hSw); go_simp; first | done | with_reducible rfl)
    try simp only [Act.put, List.setIfInBounds_toArray, List.set_cons_zero, List.set_cons_succ]
    refine wpAnyH_take (i := 8) (v := ?_) (List.getElem?_toArray.trans rfl) (by kernel_rfl) (by kernel_rfl) (by kernel_rfl) (fun _ _ _ h => nomatch h.1) (Or.inl ⟨by rfl, ?_⟩) (by assumption) ?_
    rotate_left 1
    focus (intro w hSw; (try dsimp only at hSw); go_simp; first | done | with_reducible rfl)
    try simp only [Act.put, List.setIfInBounds_toArray, List.set_cons_zero, List.set_cons_succ]
    refine wpAnyH_ready (rs := [1, 13]) (by kernel_rfl) (by simp) (AllReadyH.cons (List.getElem?_toArray.trans rfl) (fun K hK => ?_) (AllReadyH.cons (List.getElem?_toArray.trans rfl) (fun K hK => ?_) AllReadyH.nil))
    · go_simp
      (go_at_call 10; refine (copyYard_any ss rs _ _ _ _ _ _ _ _ _ _ (hyi.keep (m := w.heap.size) ?q1)).mono ?_
       case q1 => repeat (first | exact B_refl | exact Below.refl _ _ | assumption | with_reducible refine B_alloc ?_ _ | with_reducible refine B_ext ?_ _ | with_reducible refine B_drew ?_ | with_reducible refine B_drewN ?_ _ | with_reducible refine B_set ?_ (by simp; omega) _)
       intro e wq hq; obtain ⟨A2, k2, R2, r2, rfl, hy2, zc2, rfl⟩ := hq.form hc63 hc43 hyi.sh; clear hq)
      refine hK.out _ _ ?_ (fun hHeld => ?_)
      focus ((try dsimp only); ((refine ⟨cell_kept j0 k0 ?_, cell_kept j0 k1 ?_, cell_kept j0 k2' ?_, cell_kept j0 k3' ?_, cell_kept j0 k4 ?_, cell_kept j1 f0 ?_, cell_kept j1 f1 ?_, cell_kept j1 f2 ?_⟩ <;> ((repeat (first | exact B_refl | exact Below.refl _ _ | assumption | with_reducible refine B_alloc ?_ _ | with_reducible refine B_ext ?_ _ | with_reducible refine B_drew ?_ | with_reducible refine B_drewN ?_ _ | with_reducible refine B_set ?_ (by simp; omega) _)); done))))
      clear hK K
      try simp only [Act.put, List.setIfInBounds_toArray, List.set_cons_zero, List.set_cons_succ]
      refine wpAnyH_ready (rs := [4, 13]) (by kernel_rfl) (by simp) (AllReadyH.cons (List.getElem?_toArray.trans rfl) (fun K hK => ?_) (AllReadyH.cons (List.getElem?_toArray.trans rfl) (fun K hK => ?_) AllReadyH.nil))
      · go_simp
        (go_at_call 11; refine (copyEvents_any es E es.length ec _ (hei.keep (m := w.heap.size) ?q1)).mono ?_
         case q1 => repeat (first | exact B_refl | exact Below.refl _ _ | assumption | with_reducible refine B_alloc ?_ _ | with_reducible refine B_ext ?_ _ | with_reducible refine B_drew ?_ | with_reducible refine B_drewN ?_ _ | with_reducible refine B_set ?_ (by simp; omega) _)
         intro e wq hq; obtain ⟨E2, k3, ze2, rfl, rfl, he2⟩ := hq.form hel3 hei.sh; clear hq)
        refine hK.out _ _ ?_ (fun hHeld => ?_)
        focus ((try dsimp only); ((refine ⟨cell_kept j0 k0 ?_, cell_kept j0 k1 ?_, cell_kept j0 k2' ?_, cell_kept j0 k3' ?_, cell_kept j0 k4 ?_, cell_kept j1 f0 ?_, cell_kept j1 f1 ?_, cell_kept j1 f2 ?_⟩ <;> ((repeat (first | exact B_refl | exact Below.refl _ _ | assumption | with_reducible refine B_alloc ?_ _ | with_reducible refine B_ext ?_ _ | with_reducible refine B_drew ?_ | with_reducible refine B_drewN ?_ _ | with_reducible refine B_set ?_ (by simp; omega) _)); done))))
        clear hK K
        try simp only [Act.put, List.setIfInBounds_toArray, List.set_cons_zero, List.set_cons_succ]
        refine wpAnyH_ready (rs := [9, 13]) (by kernel_rfl) (by simp) (AllReadyH.cons (List.getElem?_toArray.trans rfl) (fun K hK => ?_) (AllReadyH.cons (List.getElem?_toArray.trans rfl) (fun K hK => ?_) AllReadyH.nil))
        · go_simp
          (go_at_call 12; refine (HWH _ _ _ _ _ _ _ _ _ (hy2.keep ?q1) (he2.keep ?q2)).mono ?_
           case q1 => repeat (first | exact B_refl | exact Below.refl _ _ | assumption | with_reducible refine B_alloc ?_ _ | with_reducible refine B_ext ?_ _ | with_reducible refine B_drew ?_ | with_reducible refine B_drewN ?_ _ | with_reducible refine B_set ?_ (by simp; omega) _)
           case q2 => repeat (first | exact B_refl | exact Below.refl _ _ | assumption | with_reducible refine B_alloc ?_ _ | with_reducible refine B_ext ?_ _ | with_reducible refine B_drew ?_ | with_reducible refine B_drewN ?_ _ | with_reducible refine B_set ?_ (by simp; omega) _)
           rintro e wq ⟨rfl, zd2, rfl⟩
           simp only [retErr, Lot.v])
          refine hK.out _ _ ?_ (fun hHeld => ?_)
          focus ((try dsimp only); ((refine ⟨cell_kept j0 k0 ?_, cell_kept j0 k1 ?_, cell_kept j0 k2' ?_, cell_kept j0 k3' ?_, cell_kept j0 k4 ?_, cell_kept j1 f0 ?_, cell_kept j1 f1 ?_, cell_kept j1 f2 ?_⟩ <;> ((repeat (first | exact B_refl | exact Below.refl _ _ | assumption | with_reducible refine B_alloc ?_ _ | with_reducible refine B_ext ?_ _ | with_reducible refine B_drew ?_ | with_reducible refine B_drewN ?_ _ | with_reducible refine B_set ?_ (by simp; omega) _)); done))))
          clear hK K
          try simp only [Act.put, List.setIfInBounds_toArray, List.set_cons_zero, List.set_cons_succ]
          refine wpAnyH_take (i := 10) (v := ?_) (List.getElem?_toArray.trans rfl) (by kernel_rfl) (by kernel_rfl) (by kernel_rfl) (fun _ _ _ h => nomatch h.1) (Or.inl ⟨by rfl, ?_⟩) (by assumption) ?_
          rotate_left 1
          focus (intro w hSw; (try dsimp only at hSw); go_simp; first | done | with_reducible rfl)
          try simp only [Act.put, List.setIfInBounds_toArray, List.set_cons_zero, List.set_cons_succ]
          refine wpAnyH_take (i := 11) (v := ?_) (List.getElem?_toArray.trans rfl) (by kernel_rfl) (by kernel_rfl) (by kernel_rfl) (fun _ _ _ h => nomatch h.1) (Or.inl ⟨by rfl, ?_⟩) (by assumption) ?_
          rotate_left 1
          focus (intro w hSw; (try dsimp only at hSw); go_simp; first | done | with_reducible rfl)
          try simp only [Act.put, List.setIfInBounds_toArray, List.set_cons_zero, List.set_cons_succ]
          refine wpAnyH_take (i := 12) (v := ?_) (List.getElem?_toArray.trans rfl) (by kernel_rfl) (by kernel_rfl) (by kernel_rfl) (fun _ _ _ h => nomatch h.1) (Or.inl ⟨by rfl, ?_⟩) (by assumption) ?_
          rotate_left 1
          focus (intro w hSw; (try dsimp only at hSw); go_simp; first | done | with_reducible rfl)
          try simp only [Act.put, List.setIfInBounds_toArray, List.set_cons_zero, List.set_cons_succ]
          refine wpAnyH_ready (rs := [13]) (by kernel_rfl) (by simp) (AllReadyH.cons (List.getElem?_toArray.trans rfl) (fun K hK => ?_) AllReadyH.nil)
          go_simp
          refine hK.out _ _ ?_ (fun hHeld => ?_)
          focus ((try dsimp only); ((refine ⟨cell_kept j0 k0 ?_, cell_kept j0 k1 ?_, cell_kept j0 k2' ?_, cell_kept j0 k3' ?_, cell_kept j0 k4 ?_, cell_kept j1 f0 ?_, cell_kept j1 f1 ?_, cell_kept j1 f2 ?_⟩ <;> ((repeat (first | exact B_refl | exact Below.refl _ _ | assumption | with_reducible refine B_alloc ?_ _ | with_reducible refine B_ext ?_ _ | with_reducible refine B_drew ?_ | with_reducible refine B_drewN ?_ _ | with_reducible refine B_set ?_ (by simp; omega) _)); done))))
          clear hK K
          try simp only [Act.put, List.setIfInBounds_toArray, List.set_cons_zero, List.set_cons_succ]
          refine wpAnyH_ready (rs := [14]) (by kernel_rfl) (by simp) (AllReadyH.cons (List.getElem?_toArray.trans rfl) (fun K hK => ?_) AllReadyH.nil)
          go_simp
          refine hK.out _ _ ?_ (fun hHeld => ?_)
          focus ((try dsimp only); ((refine ⟨cell_kept j0 k0 ?_, cell_kept j0 k1 ?_, cell_kept j0 k2' ?_, cell_kept j0 k3' ?_, cell_kept j0 k4 ?_, cell_kept j1 f0 ?_, cell_kept j1 f1 ?_, cell_kept j1 f2 ?_⟩ <;> ((repeat (first | exact B_refl | exact Below.refl _ _ | assumption | with_reducible refine B_alloc ?_ _ | with_reducible refine B_ext ?_ _ | with_reducible refine B_drew ?_ | with_reducible refine B_drewN ?_ _ | with_reducible refine B_set ?_ (by simp; omega) _)); done))))
          clear hK K
          try simp only [Act.put, List.setIfInBounds_toArray, List.set_cons_zero, List.set_cons_succ]
          refine wpAnyH_ready (rs := [15]) (by kernel_rfl) (by simp) (AllReadyH.cons (List.getElem?_toArray.trans rfl) (fun K hK => ?_) AllReadyH.nil)
          go_simp
          refine hK.out _ _ ?_ (fun hHeld => ?_)
          focus ((try dsimp only); ((refine ⟨cell_kept j0 k0 ?_, cell_kept j0 k1 ?_, cell_kept j0 k2' ?_, cell_kept j0 k3' ?_, cell_kept j0 k4 ?_, cell_kept j1 f0 ?_, cell_kept j1 f1 ?_, cell_kept j1 f2 ?_⟩ <;> ((repeat (first | exact B_refl | exact Below.refl _ _ | assumption | with_reducible refine B_alloc ?_ _ | with_reducible refine B_ext ?_ _ | with_reducible refine B_drew ?_ | with_reducible refine B_drewN ?_ _ | with_reducible refine B_set ?_ (by simp; omega) _)); done))))
          clear hK K
          try simp only [Act.put, List.setIfInBounds_toArray, List.set_cons_zero, List.set_cons_succ]
          refine wpAnyH_done (by kernel_rfl) ?_ _
          generalize hBB : W1.heap.size + zc2.os.size + ze2.os.size + zd2.os.size = BB
          refine ⟨rfl, BB, A2, R2, E2, k2, r2, k3, rfl, ?_, ?_⟩
          · repeat (first | exact B_refl | exact Below.refl _ _ | assumption | with_reducible refine B_alloc ?_ _ | with_reducible refine B_ext ?_ _ | with_reducible refine B_drew ?_ | with_reducible refine B_drewN ?_ _ | with_reducible refine B_set ?_ (by simp; omega) _)
          · rw [← hBB]; exact G_new _ _ _ (by simp [ext_size])
        · go_simp
          refine hK.out _ _ ?_ (fun hHeld => ?_)
          focus ((try dsimp only); ((refine ⟨cell_kept j0 k0 ?_, cell_kept j0 k1 ?_, cell_kept j0 k2' ?_, cell_kept j0 k3' ?_, cell_kept j0 k4 ?_, cell_kept j1 f0 ?_, cell_kept j1 f1 ?_, cell_kept j1 f2 ?_⟩ <;> ((repeat (first | exact B_refl | exact Below.refl _ _ | assumption | with_reducible refine B_alloc ?_ _ | with_reducible refine B_ext ?_ _ | with_reducible refine B_drew ?_ | with_reducible refine B_drewN ?_ _ | with_reducible refine B_set ?_ (by simp; omega) _)); done))))
          clear hK K
          try simp only [Act.put, List.setIfInBounds_toArray, List.set_cons_zero, List.set_cons_succ]
          refine wpAnyH_ready (rs := [9]) (by kernel_rfl) (by simp) (AllReadyH.cons (List.getElem?_toArray.trans rfl) (fun K hK => ?_) AllReadyH.nil)
          go_simp
          (go_at_call 12; refine (HWH _ _ _ _ _ _ _ _ _ (hy2.keep ?q1) (he2.keep ?q2)).mono ?_
           case q1 => repeat (first | exact B_refl | exact Below.refl _ _ | assumption | with_reducible refine B_alloc ?_ _ | with_reducible refine B_ext ?_ _ | with_reducible refine B_drew ?_ | with_reducible refine B_drewN ?_ _ | with_reducible refine B_set ?_ (by simp; omega) _)
           case q2 => repeat (first | exact B_refl | exact Below.refl _ _ | assumption | with_reducible refine B_alloc ?_ _ | with_reducible refine B_ext ?_ _ | with_reducible refine B_drew ?_ | with_reducible refine B_drewN ?_ _ | with_reducible refine B_set ?_ (by simp; omega) _)
           rintro e wq ⟨rfl, zd2, rfl⟩
           simp only [retErr, Lot.v])
          refine hK.out _ _ ?_ (fun hHeld => ?_)
          focus ((try dsimp only); ((refine ⟨cell_kept j0 k0 ?_, cell_kept j0 k1 ?_, cell_kept j0 k2' ?_, cell_kept j0 k3' ?_, cell_kept j0 k4 ?_, cell_kept j1 f0 ?_, cell_kept j1 f1 ?_, cell_kept j1 f2 ?_⟩ <;> ((repeat (first | exact B_refl | exact Below.refl _ _ | assumption | with_reducible refine B_alloc ?_ _ | with_reducible refine B_ext ?_ _ | with_reducible refine B_drew ?_ | with_reducible refine B_drewN ?_ _ | with_reducible refine B_set ?_ (by simp; omega) _)); done))))
          clear hK K
          try simp only [Act.put, List.setIfInBounds_toArray, List.set_cons_zero, List.set_cons_succ]
          refine wpAnyH_take (i := 10) (v := ?_) (List.getElem?_toArray.trans rfl) (by kernel_rfl) (by kernel_rfl) (by kernel_rfl) (fun _ _ _ h => nomatch h.1) (Or.inl ⟨by rfl, ?_⟩) (by assumption) ?_
          rotate_left 1
          focus (intro w hSw; (try dsimp only at hSw); go_simp; first | done | with_reducible rfl)
          try simp only [Act.put, List.setIfInBounds_toArray, List.set_cons_zero, List.set_cons_succ]
          refine wpAnyH_take (i := 11) (v := ?_) (List.getElem?_toArray.trans rfl) (by kernel_rfl) (by kernel_rfl) (by kernel_rfl) (fun _ _ _ h => nomatch h.1) (Or.inl ⟨by rfl, ?_⟩) (by assumption) ?_
          rotate_left 1
          focus (intro w hSw; (try dsimp only at hSw); go_simp; first | done | with_reducible rfl)
          try simp only [Act.put, List.setIfInBounds_toArray, List.set_cons_zero, List.set_cons_succ]
          refine wpAnyH_take (i := 12) (v := ?_) (List.getElem?_toArray.trans rfl) (by kernel_rfl) (by kernel_rfl) (by kernel_rfl) (fun _ _ _ h => nomatch h.1) (Or.inl ⟨by rfl, ?_⟩) (by assumption) ?_
          rotate_left 1
          focus (intro w hSw; (try dsimp only at hSw); go_simp; first | done | with_reducible rfl)
          try simp only [Act.put, List.setIfInBounds_toArray, List.set_cons_zero, List.set_cons_succ]
          generalize hWs : World.ext (World.alloc (World.ext (World.ext (World.drew W1) zc2) ze2) (.cells #[.string ⟨#[]⟩, .int .i64 0, .string ⟨#[]⟩, .int .i64 0, .int .i64 0, .int .i64 0] 40)) zd2 = Ws
          have hBs : Below W1.heap.size W1 Ws := by rw [← hWs]; repeat (first | exact B_refl | exact Below.refl _ _ | assumption | with_reducible refine B_alloc ?_ _ | with_reducible refine B_ext ?_ _ | with_reducible refine B_drew ?_ | with_reducible refine B_drewN ?_ _ | with_reducible refine B_set ?_ (by simp; omega) _)
          obtain ⟨BB, hBB⟩ : ∃ BB, BB = W1.heap.size + zc2.os.size + ze2.os.size := ⟨_, rfl⟩
          rw [← hBB]
          have hbb : Ws.heap[BB]? = some (.cells #[.string ⟨#[]⟩, .int .i64 0, .string ⟨#[]⟩, .int .i64 0, .int .i64 0, .int .i64 0] 40) := by rw [← hWs, hBB]; (repeat (first | with_reducible exact G_new _ _ _ (by simp) | with_reducible exact G_new _ _ _ (by simp [ext_size]) | with_reducible refine G_drew ?_ | with_reducible refine G_ext ?_ | with_reducible refine G_alloc ?_))
          have hBB1 : W1.heap.size ≤ BB := by rw [hBB]; omega
          have HBB := Lib.hid hBB
          clear hWs hBB
          have s0 : Ws.cell? ⟨BB, 0, none⟩ = some (.string ⟨#[]⟩) := by simp [World.cell?, hbb]
          have s1 : Ws.cell? ⟨BB, 1, none⟩ = some (.int .i64 0) := by simp [World.cell?, hbb]
          have s2 : Ws.cell? ⟨BB, 2, none⟩ = some (.string ⟨#[]⟩) := by simp [World.cell?, hbb]
          have s3 : Ws.cell? ⟨BB, 3, none⟩ = some (.int .i64 0) := by simp [World.cell?, hbb]
          have s4 : Ws.cell? ⟨BB, 4, none⟩ = some (.int .i64 0) := by simp [World.cell?, hbb]
          have s5 : Ws.cell? ⟨BB, 5, none⟩ = some (.int .i64 0) := by simp [World.cell?, hbb]
          have sz : ∀ j, Ws.frozen? ⟨BB, j, none⟩ = false := fun j => by simp [World.frozen?, hbb]
          refine wpAnyH_ready (rs := [14]) (by kernel_rfl) (by simp) (AllReadyH.cons (List.getElem?_toArray.trans rfl) (fun K hK => ?_) AllReadyH.nil)
          go_simp
          have hBx := hBs
          refine hK.out _ _ ?_ (fun hHeld => ?_)
          focus ((try dsimp only); ((refine ⟨cell_kept j0 k0 ?_, cell_kept j0 k1 ?_, cell_kept j0 k2' ?_, cell_kept j0 k3' ?_, cell_kept j0 k4 ?_, cell_kept j1 f0 ?_, cell_kept j1 f1 ?_, cell_kept j1 f2 ?_⟩ <;> ((repeat (first | with_reducible exact hBs | with_reducible refine B_set ?_ hBB1 _)); done))))
          clear hK K
          try simp only [Act.put, List.setIfInBounds_toArray, List.set_cons_zero, List.set_cons_succ]
          refine wpAnyH_ready (rs := [15]) (by kernel_rfl) (by simp) (AllReadyH.cons (List.getElem?_toArray.trans rfl) (fun K hK => ?_) AllReadyH.nil)
          go_simp
          refine hK.out _ _ ?_ (fun hHeld => ?_)
          focus ((try dsimp only); ((refine ⟨cell_kept j0 k0 ?_, cell_kept j0 k1 ?_, cell_kept j0 k2' ?_, cell_kept j0 k3' ?_, cell_kept j0 k4 ?_, cell_kept j1 f0 ?_, cell_kept j1 f1 ?_, cell_kept j1 f2 ?_⟩ <;> ((repeat (first | with_reducible exact hBs | with_reducible refine B_set ?_ hBB1 _)); done))))
          clear hK K
          try simp only [Act.put, List.setIfInBounds_toArray, List.set_cons_zero, List.set_cons_succ]
          refine wpAnyH_done (by kernel_rfl) ?_ _
          refine ⟨rfl, BB, A2, R2, E2, k2, r2, k3, rfl, ?_, G_set6 hbb⟩
          first
            | ((repeat (first | with_reducible exact hBs | with_reducible refine B_set ?_ hBB1 _)); done)
            | (rw [HBB.out]; have hle : W1.heap.size ≤ W1.heap.size := Nat.le_refl _; ((repeat (first | with_reducible exact hBs | with_reducible refine B_set ?_ hle _)); done))
      · go_simp
        refine hK.out _ _ ?_ (fun hHeld => ?_)
        focus ((try dsimp only); ((refine ⟨cell_kept j0 k0 ?_, cell_kept j0 k1 ?_, cell_kept j0 k2' ?_, cell_kept j0 k3' ?_, cell_kept j0 k4 ?_, cell_kept j1 f0 ?_, cell_kept j1 f1 ?_, cell_kept j1 f2 ?_⟩ <;> ((repeat (first | exact B_refl | exact Below.refl _ _ | assumption | with_reducible refine B_alloc ?_ _ | with_reducible refine B_ext ?_ _ | with_reducible refine B_drew ?_ | with_reducible refine B_drewN ?_ _ | with_reducible refine B_set ?_ (by simp; omega) _)); done))))
        clear hK K
        try simp only [Act.put, List.setIfInBounds_toArray, List.set_cons_zero, List.set_cons_succ]
        refine wpAnyH_ready (rs := [4]) (by kernel_rfl) (by simp) (AllReadyH.cons (List.getElem?_toArray.trans rfl) (fun K hK => ?_) AllReadyH.nil)
        go_simp
        (go_at_call 11; refine (copyEvents_any es E es.length ec _ (hei.keep (m := w.heap.size) ?q1)).mono ?_
         case q1 => repeat (first | exact B_refl | exact Below.refl _ _ | assumption | with_reducible refine B_alloc ?_ _ | with_reducible refine B_ext ?_ _ | with_reducible refine B_drew ?_ | with_reducible refine B_drewN ?_ _ | with_reducible refine B_set ?_ (by simp; omega) _)
         intro e wq hq; obtain ⟨E2, k3, ze2, rfl, rfl, he2⟩ := hq.form hel3 hei.sh; clear hq)
        refine hK.out _ _ ?_ (fun hHeld => ?_)
        focus ((try dsimp only); ((refine ⟨cell_kept j0 k0 ?_, cell_kept j0 k1 ?_, cell_kept j0 k2' ?_, cell_kept j0 k3' ?_, cell_kept j0 k4 ?_, cell_kept j1 f0 ?_, cell_kept j1 f1 ?_, cell_kept j1 f2 ?_⟩ <;> ((repeat (first | exact B_refl | exact Below.refl _ _ | assumption | with_reducible refine B_alloc ?_ _ | with_reducible refine B_ext ?_ _ | with_reducible refine B_drew ?_ | with_reducible refine B_drewN ?_ _ | with_reducible refine B_set ?_ (by simp; omega) _)); done))))
        clear hK K
        try simp only [Act.put, List.setIfInBounds_toArray, List.set_cons_zero, List.set_cons_succ]
        refine wpAnyH_ready (rs := [9]) (by kernel_rfl) (by simp) (AllReadyH.cons (List.getElem?_toArray.trans rfl) (fun K hK => ?_) AllReadyH.nil)
        go_simp
        (go_at_call 12; refine (HWH _ _ _ _ _ _ _ _ _ (hy2.keep ?q1) (he2.keep ?q2)).mono ?_
         case q1 => repeat (first | exact B_refl | exact Below.refl _ _ | assumption | with_reducible refine B_alloc ?_ _ | with_reducible refine B_ext ?_ _ | with_reducible refine B_drew ?_ | with_reducible refine B_drewN ?_ _ | with_reducible refine B_set ?_ (by simp; omega) _)
         case q2 => repeat (first | exact B_refl | exact Below.refl _ _ | assumption | with_reducible refine B_alloc ?_ _ | with_reducible refine B_ext ?_ _ | with_reducible refine B_drew ?_ | with_reducible refine B_drewN ?_ _ | with_reducible refine B_set ?_ (by simp; omega) _)
         rintro e wq ⟨rfl, zd2, rfl⟩
         simp only [retErr, Lot.v])
        refine hK.out _ _ ?_ (fun hHeld => ?_)
        focus ((try dsimp only); ((refine ⟨cell_kept j0 k0 ?_, cell_kept j0 k1 ?_, cell_kept j0 k2' ?_, cell_kept j0 k3' ?_, cell_kept j0 k4 ?_, cell_kept j1 f0 ?_, cell_kept j1 f1 ?_, cell_kept j1 f2 ?_⟩ <;> ((repeat (first | exact B_refl | exact Below.refl _ _ | assumption | with_reducible refine B_alloc ?_ _ | with_reducible refine B_ext ?_ _ | with_reducible refine B_drew ?_ | with_reducible refine B_drewN ?_ _ | with_reducible refine B_set ?_ (by simp; omega) _)); done))))
        clear hK K
        try simp only [Act.put, List.setIfInBounds_toArray, List.set_cons_zero, List.set_cons_succ]
        refine wpAnyH_take (i := 10) (v := ?_) (List.getElem?_toArray.trans rfl) (by kernel_rfl) (by kernel_rfl) (by kernel_rfl) (fun _ _ _ h => nomatch h.1) (Or.inl ⟨by rfl, ?_⟩) (by assumption) ?_
        rotate_left 1
        focus (intro w hSw; (try dsimp only at hSw); go_simp; first | done | with_reducible rfl)
        try simp only [Act.put, List.setIfInBounds_toArray, List.set_cons_zero, List.set_cons_succ]
        refine wpAnyH_take (i := 11) (v := ?_) (List.getElem?_toArray.trans rfl) (by kernel_rfl) (by kernel_rfl) (by kernel_rfl) (fun _ _ _ h => nomatch h.1) (Or.inl ⟨by rfl, ?_⟩) (by assumption) ?_
        rotate_left 1
        focus (intro w hSw; (try dsimp only at hSw); go_simp; first | done | with_reducible rfl)
        try simp only [Act.put, List.setIfInBounds_toArray, List.set_cons_zero, List.set_cons_succ]
        refine wpAnyH_take (i := 12) (v := ?_) (List.getElem?_toArray.trans rfl) (by kernel_rfl) (by kernel_rfl) (by kernel_rfl) (fun _ _ _ h => nomatch h.1) (Or.inl ⟨by rfl, ?_⟩) (by assumption) ?_
        rotate_left 1
        focus (intro w hSw; (try dsimp only at hSw); go_simp; first | done | with_reducible rfl)
        try simp only [Act.put, List.setIfInBounds_toArray, List.set_cons_zero, List.set_cons_succ]
        generalize hWs : World.ext (World.ext (World.alloc (World.ext (World.drew W1) zc2) (.cells #[.string ⟨#[]⟩, .int .i64 0, .string ⟨#[]⟩, .int .i64 0, .int .i64 0, .int .i64 0] 40)) ze2) zd2 = Ws
        have hBs : Below W1.heap.size W1 Ws := by rw [← hWs]; repeat (first | exact B_refl | exact Below.refl _ _ | assumption | with_reducible refine B_alloc ?_ _ | with_reducible refine B_ext ?_ _ | with_reducible refine B_drew ?_ | with_reducible refine B_drewN ?_ _ | with_reducible refine B_set ?_ (by simp; omega) _)
        obtain ⟨BB, hBB⟩ : ∃ BB, BB = W1.heap.size + zc2.os.size := ⟨_, rfl⟩
        rw [← hBB]
        have hbb : Ws.heap[BB]? = some (.cells #[.string ⟨#[]⟩, .int .i64 0, .string ⟨#[]⟩, .int .i64 0, .int .i64 0, .int .i64 0] 40) := by rw [← hWs, hBB]; (repeat (first | with_reducible exact G_new _ _ _ (by simp) | with_reducible exact G_new _ _ _ (by simp [ext_size]) | with_reducible refine G_drew ?_ | with_reducible refine G_ext ?_ | with_reducible refine G_alloc ?_))
        have hBB1 : W1.heap.size ≤ BB := by rw [hBB]; omega
        have HBB := Lib.hid hBB
        clear hWs hBB
        have s0 : Ws.cell? ⟨BB, 0, none⟩ = some (.string ⟨#[]⟩) := by simp [World.cell?, hbb]
        have s1 : Ws.cell? ⟨BB, 1, none⟩ = some (.int .i64 0) := by simp [World.cell?, hbb]
        have s2 : Ws.cell? ⟨BB, 2, none⟩ = some (.string ⟨#[]⟩) := by simp [World.cell?, hbb]
        have s3 : Ws.cell? ⟨BB, 3, none⟩ = some (.int .i64 0) := by simp [World.cell?, hbb]
        have s4 : Ws.cell? ⟨BB, 4, none⟩ = some (.int .i64 0) := by simp [World.cell?, hbb]
        have s5 : Ws.cell? ⟨BB, 5, none⟩ = some (.int .i64 0) := by simp [World.cell?, hbb]
        have sz : ∀ j, Ws.frozen? ⟨BB, j, none⟩ = false := fun j => by simp [World.frozen?, hbb]
        refine wpAnyH_ready (rs := [14]) (by kernel_rfl) (by simp) (AllReadyH.cons (List.getElem?_toArray.trans rfl) (fun K hK => ?_) AllReadyH.nil)
        go_simp
        have hBx := hBs
        refine hK.out _ _ ?_ (fun hHeld => ?_)
        focus ((try dsimp only); ((refine ⟨cell_kept j0 k0 ?_, cell_kept j0 k1 ?_, cell_kept j0 k2' ?_, cell_kept j0 k3' ?_, cell_kept j0 k4 ?_, cell_kept j1 f0 ?_, cell_kept j1 f1 ?_, cell_kept j1 f2 ?_⟩ <;> ((repeat (first | with_reducible exact hBs | with_reducible refine B_set ?_ hBB1 _)); done))))
        clear hK K
        try simp only [Act.put, List.setIfInBounds_toArray, List.set_cons_zero, List.set_cons_succ]
        refine wpAnyH_ready (rs := [15]) (by kernel_rfl) (by simp) (AllReadyH.cons (List.getElem?_toArray.trans rfl) (fun K hK => ?_) AllReadyH.nil)
        go_simp
        refine hK.out _ _ ?_ (fun hHeld => ?_)
        focus ((try dsimp only); ((refine ⟨cell_kept j0 k0 ?_, cell_kept j0 k1 ?_, cell_kept j0 k2' ?_, cell_kept j0 k3' ?_, cell_kept j0 k4 ?_, cell_kept j1 f0 ?_, cell_kept j1 f1 ?_, cell_kept j1 f2 ?_⟩ <;> ((repeat (first | with_reducible exact hBs | with_reducible refine B_set ?_ hBB1 _)); done))))
        clear hK K
        try simp only [Act.put, List.setIfInBounds_toArray, List.set_cons_zero, List.set_cons_succ]
        refine wpAnyH_done (by kernel_rfl) ?_ _
        refine ⟨rfl, BB, A2, R2, E2, k2, r2, k3, rfl, ?_, G_set6 hbb⟩
        first
          | ((repeat (first | with_reducible exact hBs | with_reducible refine B_set ?_ hBB1 _)); done)
          | (rw [HBB.out]; have hle : W1.heap.size ≤ W1.heap.size := Nat.le_refl _; ((repeat (first | with_reducible exact hBs | with_reducible refine B_set ?_ hle _)); done))
    · go_simp
      refine hK.out _ _ ?_ (fun hHeld => ?_)
      focus ((try dsimp only); ((refine ⟨cell_kept j0 k0 ?_, cell_kept j0 k1 ?_, cell_kept j0 k2' ?_, cell_kept j0 k3' ?_, cell_kept j0 k4 ?_, cell_kept j1 f0 ?_, cell_kept j1 f1 ?_, cell_kept j1 f2 ?_⟩ <;> ((repeat (first | exact B_refl | exact Below.refl _ _ | assumption | with_reducible refine B_alloc ?_ _ | with_reducible refine B_ext ?_ _ | with_reducible refine B_drew ?_ | with_reducible refine B_drewN ?_ _ | with_reducible refine B_set ?_ (by simp; omega) _)); done))))
      clear hK K
      try simp only [Act.put, List.setIfInBounds_toArray, List.set_cons_zero, List.set_cons_succ]
      refine wpAnyH_ready (rs := [1]) (by kernel_rfl) (by simp) (AllReadyH.cons (List.getElem?_toArray.trans rfl) (fun K hK => ?_) AllReadyH.nil)
      go_simp
      (go_at_call 10; refine (copyYard_any ss rs _ _ _ _ _ _ _ _ _ _ (hyi.keep (m := w.heap.size) ?q1)).mono ?_
       case q1 => repeat (first | exact B_refl | exact Below.refl _ _ | assumption | with_reducible refine B_alloc ?_ _ | with_reducible refine B_ext ?_ _ | with_reducible refine B_drew ?_ | with_reducible refine B_drewN ?_ _ | with_reducible refine B_set ?_ (by simp; omega) _)
       intro e wq hq; obtain ⟨A2, k2, R2, r2, rfl, hy2, zc2, rfl⟩ := hq.form hc63 hc43 hyi.sh; clear hq)
      refine hK.out _ _ ?_ (fun hHeld => ?_)
      focus ((try dsimp only); ((refine ⟨cell_kept j0 k0 ?_, cell_kept j0 k1 ?_, cell_kept j0 k2' ?_, cell_kept j0 k3' ?_, cell_kept j0 k4 ?_, cell_kept j1 f0 ?_, cell_kept j1 f1 ?_, cell_kept j1 f2 ?_⟩ <;> ((repeat (first | exact B_refl | exact Below.refl _ _ | assumption | with_reducible refine B_alloc ?_ _ | with_reducible refine B_ext ?_ _ | with_reducible refine B_drew ?_ | with_reducible refine B_drewN ?_ _ | with_reducible refine B_set ?_ (by simp; omega) _)); done))))
      clear hK K
      try simp only [Act.put, List.setIfInBounds_toArray, List.set_cons_zero, List.set_cons_succ]
      refine wpAnyH_ready (rs := [4]) (by kernel_rfl) (by simp) (AllReadyH.cons (List.getElem?_toArray.trans rfl) (fun K hK => ?_) AllReadyH.nil)
      go_simp
      (go_at_call 11; refine (copyEvents_any es E es.length ec _ (hei.keep (m := w.heap.size) ?q1)).mono ?_
       case q1 => repeat (first | exact B_refl | exact Below.refl _ _ | assumption | with_reducible refine B_alloc ?_ _ | with_reducible refine B_ext ?_ _ | with_reducible refine B_drew ?_ | with_reducible refine B_drewN ?_ _ | with_reducible refine B_set ?_ (by simp; omega) _)
       intro e wq hq; obtain ⟨E2, k3, ze2, rfl, rfl, he2⟩ := hq.form hel3 hei.sh; clear hq)
      refine hK.out _ _ ?_ (fun hHeld => ?_)
      focus ((try dsimp only); ((refine ⟨cell_kept j0 k0 ?_, cell_kept j0 k1 ?_, cell_kept j0 k2' ?_, cell_kept j0 k3' ?_, cell_kept j0 k4 ?_, cell_kept j1 f0 ?_, cell_kept j1 f1 ?_, cell_kept j1 f2 ?_⟩ <;> ((repeat (first | exact B_refl | exact Below.refl _ _ | assumption | with_reducible refine B_alloc ?_ _ | with_reducible refine B_ext ?_ _ | with_reducible refine B_drew ?_ | with_reducible refine B_drewN ?_ _ | with_reducible refine B_set ?_ (by simp; omega) _)); done))))
      clear hK K
      try simp only [Act.put, List.setIfInBounds_toArray, List.set_cons_zero, List.set_cons_succ]
      refine wpAnyH_ready (rs := [9]) (by kernel_rfl) (by simp) (AllReadyH.cons (List.getElem?_toArray.trans rfl) (fun K hK => ?_) AllReadyH.nil)
      go_simp
      (go_at_call 12; refine (HWH _ _ _ _ _ _ _ _ _ (hy2.keep ?q1) (he2.keep ?q2)).mono ?_
       case q1 => repeat (first | exact B_refl | exact Below.refl _ _ | assumption | with_reducible refine B_alloc ?_ _ | with_reducible refine B_ext ?_ _ | with_reducible refine B_drew ?_ | with_reducible refine B_drewN ?_ _ | with_reducible refine B_set ?_ (by simp; omega) _)
       case q2 => repeat (first | exact B_refl | exact Below.refl _ _ | assumption | with_reducible refine B_alloc ?_ _ | with_reducible refine B_ext ?_ _ | with_reducible refine B_drew ?_ | with_reducible refine B_drewN ?_ _ | with_reducible refine B_set ?_ (by simp; omega) _)
       rintro e wq ⟨rfl, zd2, rfl⟩
       simp only [retErr, Lot.v])
      refine hK.out _ _ ?_ (fun hHeld => ?_)
      focus ((try dsimp only); ((refine ⟨cell_kept j0 k0 ?_, cell_kept j0 k1 ?_, cell_kept j0 k2' ?_, cell_kept j0 k3' ?_, cell_kept j0 k4 ?_, cell_kept j1 f0 ?_, cell_kept j1 f1 ?_, cell_kept j1 f2 ?_⟩ <;> ((repeat (first | exact B_refl | exact Below.refl _ _ | assumption | with_reducible refine B_alloc ?_ _ | with_reducible refine B_ext ?_ _ | with_reducible refine B_drew ?_ | with_reducible refine B_drewN ?_ _ | with_reducible refine B_set ?_ (by simp; omega) _)); done))))
      clear hK K
      try simp only [Act.put, List.setIfInBounds_toArray, List.set_cons_zero, List.set_cons_succ]
      refine wpAnyH_take (i := 10) (v := ?_) (List.getElem?_toArray.trans rfl) (by kernel_rfl) (by kernel_rfl) (by kernel_rfl) (fun _ _ _ h => nomatch h.1) (Or.inl ⟨by rfl, ?_⟩) (by assumption) ?_
      rotate_left 1
      focus (intro w hSw; (try dsimp only at hSw); go_simp; first | done | with_reducible rfl)
      try simp only [Act.put, List.setIfInBounds_toArray, List.set_cons_zero, List.set_cons_succ]
      refine wpAnyH_take (i := 11) (v := ?_) (List.getElem?_toArray.trans rfl) (by kernel_rfl) (by kernel_rfl) (by kernel_rfl) (fun _ _ _ h => nomatch h.1) (Or.inl ⟨by rfl, ?_⟩) (by assumption) ?_
      rotate_left 1
      focus (intro w hSw; (try dsimp only at hSw); go_simp; first | done | with_reducible rfl)
      try simp only [Act.put, List.setIfInBounds_toArray, List.set_cons_zero, List.set_cons_succ]
      refine wpAnyH_take (i := 12) (v := ?_) (List.getElem?_toArray.trans rfl) (by kernel_rfl) (by kernel_rfl) (by kernel_rfl) (fun _ _ _ h => nomatch h.1) (Or.inl ⟨by rfl, ?_⟩) (by assumption) ?_
      rotate_left 1
      focus (intro w hSw; (try dsimp only at hSw); go_simp; first | done | with_reducible rfl)
      try simp only [Act.put, List.setIfInBounds_toArray, List.set_cons_zero, List.set_cons_succ]
      generalize hWs : World.ext (World.ext (World.ext (World.drew (World.alloc W1 (.cells #[.string ⟨#[]⟩, .int .i64 0, .string ⟨#[]⟩, .int .i64 0, .int .i64 0, .int .i64 0] 40))) zc2) ze2) zd2 = Ws
      have hBs : Below W1.heap.size W1 Ws := by rw [← hWs]; repeat (first | exact B_refl | exact Below.refl _ _ | assumption | with_reducible refine B_alloc ?_ _ | with_reducible refine B_ext ?_ _ | with_reducible refine B_drew ?_ | with_reducible refine B_drewN ?_ _ | with_reducible refine B_set ?_ (by simp; omega) _)
      obtain ⟨BB, hBB⟩ : ∃ BB, BB = W1.heap.size := ⟨_, rfl⟩
      rw [← hBB]
      have hbb : Ws.heap[BB]? = some (.cells #[.string ⟨#[]⟩, .int .i64 0, .string ⟨#[]⟩, .int .i64 0, .int .i64 0, .int .i64 0] 40) := by rw [← hWs, hBB]; (repeat (first | with_reducible exact G_new _ _ _ (by simp) | with_reducible exact G_new _ _ _ (by simp [ext_size]) | with_reducible refine G_drew ?_ | with_reducible refine G_ext ?_ | with_reducible refine G_alloc ?_))
      have hBB1 : W1.heap.size ≤ BB := by rw [hBB]; omega
      have HBB := Lib.hid hBB
      clear hWs hBB
      have s0 : Ws.cell? ⟨BB, 0, none⟩ = some (.string ⟨#[]⟩) := by simp [World.cell?, hbb]
      have s1 : Ws.cell? ⟨BB, 1, none⟩ = some (.int .i64 0) := by simp [World.cell?, hbb]
      have s2 : Ws.cell? ⟨BB, 2, none⟩ = some (.string ⟨#[]⟩) := by simp [World.cell?, hbb]
      have s3 : Ws.cell? ⟨BB, 3, none⟩ = some (.int .i64 0) := by simp [World.cell?, hbb]
      have s4 : Ws.cell? ⟨BB, 4, none⟩ = some (.int .i64 0) := by simp [World.cell?, hbb]
      have s5 : Ws.cell? ⟨BB, 5, none⟩ = some (.int .i64 0) := by simp [World.cell?, hbb]
      have sz : ∀ j, Ws.frozen? ⟨BB, j, none⟩ = false := fun j => by simp [World.frozen?, hbb]
      refine wpAnyH_ready (rs := [14]) (by kernel_rfl) (by simp) (AllReadyH.cons (List.getElem?_toArray.trans rfl) (fun K hK => ?_) AllReadyH.nil)
      go_simp
      have hBx := hBs
      refine hK.out _ _ ?_ (fun hHeld => ?_)
      focus ((try dsimp only); ((refine ⟨cell_kept j0 k0 ?_, cell_kept j0 k1 ?_, cell_kept j0 k2' ?_, cell_kept j0 k3' ?_, cell_kept j0 k4 ?_, cell_kept j1 f0 ?_, cell_kept j1 f1 ?_, cell_kept j1 f2 ?_⟩ <;> ((repeat (first | with_reducible exact hBs | with_reducible refine B_set ?_ hBB1 _)); done))))
      clear hK K
      try simp only [Act.put, List.setIfInBounds_toArray, List.set_cons_zero, List.set_cons_succ]
      refine wpAnyH_ready (rs := [15]) (by kernel_rfl) (by simp) (AllReadyH.cons (List.getElem?_toArray.trans rfl) (fun K hK => ?_) AllReadyH.nil)
      go_simp
      refine hK.out _ _ ?_ (fun hHeld => ?_)
      focus ((try dsimp only); ((refine ⟨cell_kept j0 k0 ?_, cell_kept j0 k1 ?_, cell_kept j0 k2' ?_, cell_kept j0 k3' ?_, cell_kept j0 k4 ?_, cell_kept j1 f0 ?_, cell_kept j1 f1 ?_, cell_kept j1 f2 ?_⟩ <;> ((repeat (first | with_reducible exact hBs | with_reducible refine B_set ?_ hBB1 _)); done))))
      clear hK K
      try simp only [Act.put, List.setIfInBounds_toArray, List.set_cons_zero, List.set_cons_succ]
      refine wpAnyH_done (by kernel_rfl) ?_ _
      refine ⟨rfl, BB, A2, R2, E2, k2, r2, k3, rfl, ?_, G_set6 hbb⟩
      first
        | ((repeat (first | with_reducible exact hBs | with_reducible refine B_set ?_ hBB1 _)); done)
        | (rw [HBB.out]; have hle : W1.heap.size ≤ W1.heap.size := Nat.le_refl _; ((repeat (first | with_reducible exact hBs | with_reducible refine B_set ?_ hle _)); done))
  case h2 =>
    rintro BB A2 R2 E2 k2 r2' k3 W2 ⟨hB12, hbl⟩
    have hB2 : Below w.heap.size w W2 := hB1.trans (hB12.mono hB1.size)
    have m0 := cell_kept j0 k0 hB12
    have m1 := cell_kept j0 k1 hB12
    have m2 := cell_kept j0 k2' hB12
    have m3 := cell_kept j0 k3' hB12
    have m4 := cell_kept j0 k4 hB12
    have n0 := cell_kept j1 f0 hB12
    have n1 := cell_kept j1 f1 hB12
    have n2 := cell_kept j1 f2 hB12
    have i0 : w.heap.size < W2.heap.size := Nat.lt_of_lt_of_le j0 hB12.size
    have i1 : w.heap.size + 1 < W2.heap.size := Nat.lt_of_lt_of_le j1 hB12.size
    have hSF2 : Sl W2 6 Lot.cells F l1 := hSF1.keep hB12 (Nat.le_refl _)
    clear k0 k1 k2' k3' k4 f0 f1 f2 j0 j1 hSF1 hB1 hB12 HWH
    go_wp2_with fail
    go_region_held3 (fun w' => w'.cell? ⟨w.heap.size, 0, none⟩ = some (.slice A ss.length c) ∧ w'.cell? ⟨w.heap.size, 1, none⟩ = some (.slice R rs.length rc) ∧ w'.cell? ⟨w.heap.size, 2, none⟩ = some (.int .i64 c0) ∧ w'.cell? ⟨w.heap.size, 3, none⟩ = some (.int .i64 c1) ∧ w'.cell? ⟨w.heap.size, 4, none⟩ = some (.int .i64 c2) ∧ w'.cell? ⟨w.heap.size + 1, 0, none⟩ = some (.slice E es.length ec) ∧ w'.cell? ⟨w.heap.size + 1, 1, none⟩ = some (.int .i64 day) ∧ w'.cell? ⟨w.heap.size + 1, 2, none⟩ = some (.string nm))
      ((refine ⟨cell_kept i0 m0 ?_, cell_kept i0 m1 ?_, cell_kept i0 m2 ?_, cell_kept i0 m3 ?_, cell_kept i0 m4 ?_, cell_kept i1 n0 ?_, cell_kept i1 n1 ?_, cell_kept i1 n2 ?_⟩ <;> ((repeat (first | exact B_refl | exact Below.refl _ _ | assumption | with_reducible refine B_alloc ?_ _ | with_reducible refine B_ext ?_ _ | with_reducible refine B_drew ?_ | with_reducible refine B_drewN ?_ _ | with_reducible refine B_set ?_ (by simp; omega) _)); done)))
      (first
        | (go_at_call 10; refine (copyYard_any ss rs _ _ _ _ _ _ _ _ _ _ (hyi.keep (m := w.heap.size) ?q1)).mono ?_
           case q1 => repeat (first | exact B_refl | exact Below.refl _ _ | assumption | with_reducible refine B_alloc ?_ _ | with_reducible refine B_ext ?_ _ | with_reducible refine B_drew ?_ | with_reducible refine B_drewN ?_ _ | with_reducible refine B_set ?_ (by simp; omega) _)
           intro e wq hq; obtain ⟨A2, k2, R2, r2, rfl, hy2, zc3, rfl⟩ := hq.form hc63 hc43 hyi.sh; clear hq)
        | (go_at_call 11; refine (copyEvents_any es E es.length ec _ (hei.keep (m := w.heap.size) ?q1)).mono ?_
           case q1 => repeat (first | exact B_refl | exact Below.refl _ _ | assumption | with_reducible refine B_alloc ?_ _ | with_reducible refine B_ext ?_ _ | with_reducible refine B_drew ?_ | with_reducible refine B_drewN ?_ _ | with_reducible refine B_set ?_ (by simp; omega) _)
           intro e wq hq; obtain ⟨E2, k3, ze3, rfl, rfl, he2⟩ := hq.form hel3 hei.sh; clear hq)
        | (go_at_call 13; refine (HWI _ _ _ _ _ _ _ _ _ (hy2.keep ?q1) (he2.keep ?q2)).mono ?_
           case q1 => repeat (first | exact B_refl | exact Below.refl _ _ | assumption | with_reducible refine B_alloc ?_ _ | with_reducible refine B_ext ?_ _ | with_reducible refine B_drew ?_ | with_reducible refine B_drewN ?_ _ | with_reducible refine B_set ?_ (by simp; omega) _)
           case q2 => repeat (first | exact B_refl | exact Below.refl _ _ | assumption | with_reducible refine B_alloc ?_ _ | with_reducible refine B_ext ?_ _ | with_reducible refine B_drew ?_ | with_reducible refine B_drewN ?_ _ | with_reducible refine B_set ?_ (by simp; omega) _)
           rintro e wq ⟨G, gc, rfl, hSG, zd3, rfl⟩))
    generalize hW3 : World.ext (World.ext (World.ext (World.drew W2) zc3) ze3) zd3 = W3
    have hB3 : Below w.heap.size w W3 := by rw [← hW3]; repeat (first | exact B_refl | exact Below.refl _ _ | assumption | with_reducible refine B_alloc ?_ _ | with_reducible refine B_ext ?_ _ | with_reducible refine B_drew ?_ | with_reducible refine B_drewN ?_ _ | with_reducible refine B_set ?_ (by simp; omega) _)
    have hB23 : Below W2.heap.size W2 W3 := by rw [← hW3]; repeat (first | exact B_refl | exact Below.refl _ _ | assumption | with_reducible refine B_alloc ?_ _ | with_reducible refine B_ext ?_ _ | with_reducible refine B_drew ?_ | with_reducible refine B_drewN ?_ _ | with_reducible refine B_set ?_ (by simp; omega) _)
    have hSG3 : Sl W3 6 Lot.cells G l3 := hSG.keep (by rw [← hW3]; repeat (first | exact B_refl | exact Below.refl _ _ | assumption | with_reducible refine B_alloc ?_ _ | with_reducible refine B_ext ?_ _ | with_reducible refine B_drew ?_ | with_reducible refine B_drewN ?_ _ | with_reducible refine B_set ?_ (by simp; omega) _)) (Nat.le_refl _)
    have hSF3 : Sl W3 6 Lot.cells F l1 := hSF2.keep hB23 (Nat.le_refl _)
    have k0 := cell_kept i0 m0 hB23
    have k1 := cell_kept i0 m1 hB23
    have k2' := cell_kept i0 m2 hB23
    have k3' := cell_kept i0 m3 hB23
    have k4 := cell_kept i0 m4 hB23
    have f0 := cell_kept i1 n0 hB23
    have f1 := cell_kept i1 n1 hB23
    have f2 := cell_kept i1 n2 hB23
    have j0 : w.heap.size < W3.heap.size := Nat.lt_of_lt_of_le i0 hB23.size
    have j1 : w.heap.size + 1 < W3.heap.size := Nat.lt_of_lt_of_le i1 hB23.size
    have hbl3 := (hB23.block BB (blk_lt hbl)).trans hbl
    have jb := blk_lt hbl3
    have q0 : W3.cell? ⟨BB, 0, none⟩ = some (.string trm) := by simp [World.cell?, hbl3]
    have q1 : W3.cell? ⟨BB, 1, none⟩ = some (.int .i64 tst) := by simp [World.cell?, hbl3]
    have q2 : W3.cell? ⟨BB, 2, none⟩ = some (.string tsi) := by simp [World.cell?, hbl3]
    have q3 : W3.cell? ⟨BB, 3, none⟩ = some (.int .i64 tlv) := by simp [World.cell?, hbl3]
    have q4 : W3.cell? ⟨BB, 4, none⟩ = some (.int .i64 tco) := by simp [World.cell?, hbl3]
    have q5 : W3.cell? ⟨BB, 5, none⟩ = some (.int .i64 tsc) := by simp [World.cell?, hbl3]
    clear hW3 hB23 hB2 m0 m1 m2 m3 m4 n0 n1 n2 i0 i1 hSG hSF2 hbl hbl3 HWI hy2 he2
    replace HP1 := HP1.out
    replace HP2 := HP2.out
    replace HP3 := HP3.out
    obtain ⟨C, hC⟩ : ∃ C, rCheckP c0 c1 c2 ss rs es = C := ⟨_, rfl⟩
    have HCK := Lib.hid hC
    unfold onW at HP1
    unfold whereW at HP2
    unfold withinW at HP3
    rw [hC] at HP1 HP2 HP3
    cases hc0 : (C != 0)
    rotate_left
    · rw [if_pos hc0] at HP1 HP2 HP3
      obtain ⟨rfl, rfl⟩ := Prod.mk.inj HP1
      obtain ⟨h1, rfl⟩ := Prod.mk.inj HP2
      obtain ⟨rfl, rfl⟩ := Prod.mk.inj HP3
      simp only [zeroLot, Lot.mk.injEq] at h1
      obtain ⟨rfl, rfl, rfl, rfl, rfl, rfl⟩ := h1
      clear HP1 HP2 HP3 hC
      go_wp2_with (first
                    | (go_at_call 14; refine (rCheck_any ss rs _ _ _ _ _ _ _ _ _ es _ _ _ _ (hyi.keep (m := w.heap.size) (by repeat (first | exact B_refl | exact Below.refl _ _ | assumption | with_reducible refine B_alloc ?_ _ | with_reducible refine B_ext ?_ _ | with_reducible refine B_drew ?_ | with_reducible refine B_drewN ?_ _ | with_reducible refine B_set ?_ (by simp; omega) _))) (hei.keep (m := w.heap.size) (by repeat (first | exact B_refl | exact Below.refl _ _ | assumption | with_reducible refine B_alloc ?_ _ | with_reducible refine B_ext ?_ _ | with_reducible refine B_drew ?_ | with_reducible refine B_drewN ?_ _ | with_reducible refine B_set ?_ (by simp; omega) _)))).mono ?_; rintro e wq ⟨rfl, zk, rfl⟩; rw [HCK.out])
                    | (go_at_call 15; refine (rSite_any ss rs _ _ _ _ _ _ _ _ _ _ _ (hyi.keep (m := w.heap.size) (by repeat (first | exact B_refl | exact Below.refl _ _ | assumption | with_reducible refine B_alloc ?_ _ | with_reducible refine B_ext ?_ _ | with_reducible refine B_drew ?_ | with_reducible refine B_drewN ?_ _ | with_reducible refine B_set ?_ (by simp; omega) _)))).mono ?_; rintro e wq ⟨rfl, zt, rfl⟩; rw [hsi])
                    | (go_at_call 16; refine (rIsDay_any _ _).mono ?_; rintro e wq ⟨rfl, rfl⟩; rw [hd])
                    | (go_at_call 17; refine (HRW _ (hyi.keep (m := w.heap.size) (by repeat (first | exact B_refl | exact Below.refl _ _ | assumption | with_reducible refine B_alloc ?_ _ | with_reducible refine B_ext ?_ _ | with_reducible refine B_drew ?_ | with_reducible refine B_drewN ?_ _ | with_reducible refine B_set ?_ (by simp; omega) _))) (hei.keep (m := w.heap.size) (by repeat (first | exact B_refl | exact Below.refl _ _ | assumption | with_reducible refine B_alloc ?_ _ | with_reducible refine B_ext ?_ _ | with_reducible refine B_drew ?_ | with_reducible refine B_drewN ?_ _ | with_reducible refine B_set ?_ (by simp; omega) _)))).mono ?_; rintro e wq ⟨rfl, zw, rfl⟩)
                    | (go_at_call 19; refine (HRI _ (hyi.keep (m := w.heap.size) (by repeat (first | exact B_refl | exact Below.refl _ _ | assumption | with_reducible refine B_alloc ?_ _ | with_reducible refine B_ext ?_ _ | with_reducible refine B_drew ?_ | with_reducible refine B_drewN ?_ _ | with_reducible refine B_set ?_ (by simp; omega) _))) (hei.keep (m := w.heap.size) (by repeat (first | exact B_refl | exact Below.refl _ _ | assumption | with_reducible refine B_alloc ?_ _ | with_reducible refine B_ext ?_ _ | with_reducible refine B_drew ?_ | with_reducible refine B_drewN ?_ _ | with_reducible refine B_set ?_ (by simp; omega) _)))).mono ?_; rintro e wq ⟨v, rfl, hown2, zv, rfl⟩; obtain ⟨F4, fc4, rfl, hSX, _⟩ := own_sl lot_len hown2; clear hown2)
                    | (go_at_call 20; refine (HRO _ (hyi.keep (m := w.heap.size) (by repeat (first | exact B_refl | exact Below.refl _ _ | assumption | with_reducible refine B_alloc ?_ _ | with_reducible refine B_ext ?_ _ | with_reducible refine B_drew ?_ | with_reducible refine B_drewN ?_ _ | with_reducible refine B_set ?_ (by simp; omega) _))) (hei.keep (m := w.heap.size) (by repeat (first | exact B_refl | exact Below.refl _ _ | assumption | with_reducible refine B_alloc ?_ _ | with_reducible refine B_ext ?_ _ | with_reducible refine B_drew ?_ | with_reducible refine B_drewN ?_ _ | with_reducible refine B_set ?_ (by simp; omega) _)))).mono ?_; rintro e wq ⟨v, rfl, hown2, zo, rfl⟩; obtain ⟨F5, fc5, rfl, hSY, _⟩ := own_sl lot_len hown2; clear hown2)
                    | (go_at_call 18; refine (sameLots_any _ _ _ _ _ _ (hSF3.keep (n := W3.heap.size) (by repeat (first | exact B_refl | exact Below.refl _ _ | assumption | with_reducible refine B_alloc ?_ _ | with_reducible refine B_ext ?_ _ | with_reducible refine B_drew ?_ | with_reducible refine B_drewN ?_ _ | with_reducible refine B_set ?_ (by simp; omega) _))) hSY hx1).mono ?_; rintro e wq ⟨rfl, zu, rfl⟩)
                    | (go_at_call 18; refine (sameLots_any _ _ _ _ _ _ (hSG3.keep (n := W3.heap.size) (by repeat (first | exact B_refl | exact Below.refl _ _ | assumption | with_reducible refine B_alloc ?_ _ | with_reducible refine B_ext ?_ _ | with_reducible refine B_drew ?_ | with_reducible refine B_drewN ?_ _ | with_reducible refine B_set ?_ (by simp; omega) _))) hSX hx3).mono ?_; rintro e wq ⟨rfl, zu2, rfl⟩))
      go_ret
      exact Ret.of rfl (hB3.trans ((by repeat (first | exact B_refl | exact Below.refl _ _ | assumption | with_reducible refine B_alloc ?_ _ | with_reducible refine B_ext ?_ _ | with_reducible refine B_drew ?_ | with_reducible refine B_drewN ?_ _ | with_reducible refine B_set ?_ (by simp; omega) _) : Below W3.heap.size W3 _).mono hB3.size))
    have hC0 : C = 0 := by simpa using hc0
    subst hC0
    rw [if_neg (by simp)] at HP1 HP2 HP3
    have hrooms := fun s hs => yard_rooms ((read_check ss rs A R ss.length c rs.length rc c0 c1 c2 es).2 hC).2.2.2.2.1 s hs
    have hlen := rReplay_len (c0 := c0) (c1 := c1) (c2 := c2) (ss := ss) (rs := rs) (upToE day es)
    have hwl := rWth_le nm (rReplayP c0 c1 c2 ss rs (upToE day es)).1 12
    have HRW := fun W h1 h2 => rWhere_any ss rs A R ss.length c rs.length rc c0 c1 c2 es E es.length ec nm day W h1 h2 hcap hrooms
    have HRI := fun W h1 h2 => rWithin_any ss rs A R ss.length c rs.length rc c0 c1 c2 es E es.length ec nm day W h1 h2 hcap hrooms
    have HRO := fun W h1 h2 => rOn_any ss rs A R ss.length c rs.length rc c0 c1 c2 es E es.length ec day W h1 h2 hcap hrooms
    unfold rWhereP at HRW
    generalize rWthP nm (rReplayP c0 c1 c2 ss rs (upToE day es)).1 12 = X3 at *
    generalize (rReplayP c0 c1 c2 ss rs (upToE day es)).1 = X1 at *
    have hx3 : X3.length ≤ 100000 := by omega
    have hx1 : X1.length ≤ 100000 := by omega
    clear hC hrooms hlen hwl
    cases hd : inR day 0 200000
    · rw [hd] at HP1 HP2 HP3
      rw [if_pos (by rfl)] at HP1 HP2
      obtain ⟨rfl, rfl⟩ := Prod.mk.inj HP1
      obtain ⟨h1, rfl⟩ := Prod.mk.inj HP2
      simp only [zeroLot, Lot.mk.injEq] at h1
      obtain ⟨rfl, rfl, rfl, rfl, rfl, rfl⟩ := h1
      clear HRW HRI HRO HP1 HP2
      cases hf : findSite nm ss with
      | none =>
        have hsi : rSiteR nm ss = -1 := by rw [rSiteR, siteIdx_none hf]
        rw [hf, if_pos (by rfl)] at HP3
        obtain ⟨rfl, rfl⟩ := Prod.mk.inj HP3
        clear HP3 hf
        go_wp2_with (first
                      | (go_at_call 14; refine (rCheck_any ss rs _ _ _ _ _ _ _ _ _ es _ _ _ _ (hyi.keep (m := w.heap.size) (by repeat (first | exact B_refl | exact Below.refl _ _ | assumption | with_reducible refine B_alloc ?_ _ | with_reducible refine B_ext ?_ _ | with_reducible refine B_drew ?_ | with_reducible refine B_drewN ?_ _ | with_reducible refine B_set ?_ (by simp; omega) _))) (hei.keep (m := w.heap.size) (by repeat (first | exact B_refl | exact Below.refl _ _ | assumption | with_reducible refine B_alloc ?_ _ | with_reducible refine B_ext ?_ _ | with_reducible refine B_drew ?_ | with_reducible refine B_drewN ?_ _ | with_reducible refine B_set ?_ (by simp; omega) _)))).mono ?_; rintro e wq ⟨rfl, zk, rfl⟩; rw [HCK.out])
                      | (go_at_call 15; refine (rSite_any ss rs _ _ _ _ _ _ _ _ _ _ _ (hyi.keep (m := w.heap.size) (by repeat (first | exact B_refl | exact Below.refl _ _ | assumption | with_reducible refine B_alloc ?_ _ | with_reducible refine B_ext ?_ _ | with_reducible refine B_drew ?_ | with_reducible refine B_drewN ?_ _ | with_reducible refine B_set ?_ (by simp; omega) _)))).mono ?_; rintro e wq ⟨rfl, zt, rfl⟩; rw [hsi])
                      | (go_at_call 16; refine (rIsDay_any _ _).mono ?_; rintro e wq ⟨rfl, rfl⟩; rw [hd])
                      | (go_at_call 17; refine (HRW _ (hyi.keep (m := w.heap.size) (by repeat (first | exact B_refl | exact Below.refl _ _ | assumption | with_reducible refine B_alloc ?_ _ | with_reducible refine B_ext ?_ _ | with_reducible refine B_drew ?_ | with_reducible refine B_drewN ?_ _ | with_reducible refine B_set ?_ (by simp; omega) _))) (hei.keep (m := w.heap.size) (by repeat (first | exact B_refl | exact Below.refl _ _ | assumption | with_reducible refine B_alloc ?_ _ | with_reducible refine B_ext ?_ _ | with_reducible refine B_drew ?_ | with_reducible refine B_drewN ?_ _ | with_reducible refine B_set ?_ (by simp; omega) _)))).mono ?_; rintro e wq ⟨rfl, zw, rfl⟩)
                      | (go_at_call 19; refine (HRI _ (hyi.keep (m := w.heap.size) (by repeat (first | exact B_refl | exact Below.refl _ _ | assumption | with_reducible refine B_alloc ?_ _ | with_reducible refine B_ext ?_ _ | with_reducible refine B_drew ?_ | with_reducible refine B_drewN ?_ _ | with_reducible refine B_set ?_ (by simp; omega) _))) (hei.keep (m := w.heap.size) (by repeat (first | exact B_refl | exact Below.refl _ _ | assumption | with_reducible refine B_alloc ?_ _ | with_reducible refine B_ext ?_ _ | with_reducible refine B_drew ?_ | with_reducible refine B_drewN ?_ _ | with_reducible refine B_set ?_ (by simp; omega) _)))).mono ?_; rintro e wq ⟨v, rfl, hown2, zv, rfl⟩; obtain ⟨F4, fc4, rfl, hSX, _⟩ := own_sl lot_len hown2; clear hown2)
                      | (go_at_call 20; refine (HRO _ (hyi.keep (m := w.heap.size) (by repeat (first | exact B_refl | exact Below.refl _ _ | assumption | with_reducible refine B_alloc ?_ _ | with_reducible refine B_ext ?_ _ | with_reducible refine B_drew ?_ | with_reducible refine B_drewN ?_ _ | with_reducible refine B_set ?_ (by simp; omega) _))) (hei.keep (m := w.heap.size) (by repeat (first | exact B_refl | exact Below.refl _ _ | assumption | with_reducible refine B_alloc ?_ _ | with_reducible refine B_ext ?_ _ | with_reducible refine B_drew ?_ | with_reducible refine B_drewN ?_ _ | with_reducible refine B_set ?_ (by simp; omega) _)))).mono ?_; rintro e wq ⟨v, rfl, hown2, zo, rfl⟩; obtain ⟨F5, fc5, rfl, hSY, _⟩ := own_sl lot_len hown2; clear hown2)
                      | (go_at_call 18; refine (sameLots_any _ _ _ _ _ _ (hSF3.keep (n := W3.heap.size) (by repeat (first | exact B_refl | exact Below.refl _ _ | assumption | with_reducible refine B_alloc ?_ _ | with_reducible refine B_ext ?_ _ | with_reducible refine B_drew ?_ | with_reducible refine B_drewN ?_ _ | with_reducible refine B_set ?_ (by simp; omega) _))) hSY hx1).mono ?_; rintro e wq ⟨rfl, zu, rfl⟩)
                      | (go_at_call 18; refine (sameLots_any _ _ _ _ _ _ (hSG3.keep (n := W3.heap.size) (by repeat (first | exact B_refl | exact Below.refl _ _ | assumption | with_reducible refine B_alloc ?_ _ | with_reducible refine B_ext ?_ _ | with_reducible refine B_drew ?_ | with_reducible refine B_drewN ?_ _ | with_reducible refine B_set ?_ (by simp; omega) _))) hSX hx3).mono ?_; rintro e wq ⟨rfl, zu2, rfl⟩))
        go_ret
        exact Ret.of rfl (hB3.trans ((by repeat (first | exact B_refl | exact Below.refl _ _ | assumption | with_reducible refine B_alloc ?_ _ | with_reducible refine B_ext ?_ _ | with_reducible refine B_drew ?_ | with_reducible refine B_drewN ?_ _ | with_reducible refine B_set ?_ (by simp; omega) _) : Below W3.heap.size W3 _).mono hB3.size))
      | some s =>
        obtain ⟨si, hik, _⟩ := siteIdx_some hf
        have hsi : rSiteR nm ss = (si : Int) := by rw [rSiteR, hik]
        have hsi0 : (0 : Int) ≤ (si : Int) := by omega
        rw [hf, if_neg (by simp), if_pos (by rfl)] at HP3
        obtain ⟨rfl, rfl⟩ := Prod.mk.inj HP3
        clear HP3 hf hik
        go_wp2_with (first
                      | (go_at_call 14; refine (rCheck_any ss rs _ _ _ _ _ _ _ _ _ es _ _ _ _ (hyi.keep (m := w.heap.size) (by repeat (first | exact B_refl | exact Below.refl _ _ | assumption | with_reducible refine B_alloc ?_ _ | with_reducible refine B_ext ?_ _ | with_reducible refine B_drew ?_ | with_reducible refine B_drewN ?_ _ | with_reducible refine B_set ?_ (by simp; omega) _))) (hei.keep (m := w.heap.size) (by repeat (first | exact B_refl | exact Below.refl _ _ | assumption | with_reducible refine B_alloc ?_ _ | with_reducible refine B_ext ?_ _ | with_reducible refine B_drew ?_ | with_reducible refine B_drewN ?_ _ | with_reducible refine B_set ?_ (by simp; omega) _)))).mono ?_; rintro e wq ⟨rfl, zk, rfl⟩; rw [HCK.out])
                      | (go_at_call 15; refine (rSite_any ss rs _ _ _ _ _ _ _ _ _ _ _ (hyi.keep (m := w.heap.size) (by repeat (first | exact B_refl | exact Below.refl _ _ | assumption | with_reducible refine B_alloc ?_ _ | with_reducible refine B_ext ?_ _ | with_reducible refine B_drew ?_ | with_reducible refine B_drewN ?_ _ | with_reducible refine B_set ?_ (by simp; omega) _)))).mono ?_; rintro e wq ⟨rfl, zt, rfl⟩; rw [hsi])
                      | (go_at_call 16; refine (rIsDay_any _ _).mono ?_; rintro e wq ⟨rfl, rfl⟩; rw [hd])
                      | (go_at_call 17; refine (HRW _ (hyi.keep (m := w.heap.size) (by repeat (first | exact B_refl | exact Below.refl _ _ | assumption | with_reducible refine B_alloc ?_ _ | with_reducible refine B_ext ?_ _ | with_reducible refine B_drew ?_ | with_reducible refine B_drewN ?_ _ | with_reducible refine B_set ?_ (by simp; omega) _))) (hei.keep (m := w.heap.size) (by repeat (first | exact B_refl | exact Below.refl _ _ | assumption | with_reducible refine B_alloc ?_ _ | with_reducible refine B_ext ?_ _ | with_reducible refine B_drew ?_ | with_reducible refine B_drewN ?_ _ | with_reducible refine B_set ?_ (by simp; omega) _)))).mono ?_; rintro e wq ⟨rfl, zw, rfl⟩)
                      | (go_at_call 19; refine (HRI _ (hyi.keep (m := w.heap.size) (by repeat (first | exact B_refl | exact Below.refl _ _ | assumption | with_reducible refine B_alloc ?_ _ | with_reducible refine B_ext ?_ _ | with_reducible refine B_drew ?_ | with_reducible refine B_drewN ?_ _ | with_reducible refine B_set ?_ (by simp; omega) _))) (hei.keep (m := w.heap.size) (by repeat (first | exact B_refl | exact Below.refl _ _ | assumption | with_reducible refine B_alloc ?_ _ | with_reducible refine B_ext ?_ _ | with_reducible refine B_drew ?_ | with_reducible refine B_drewN ?_ _ | with_reducible refine B_set ?_ (by simp; omega) _)))).mono ?_; rintro e wq ⟨v, rfl, hown2, zv, rfl⟩; obtain ⟨F4, fc4, rfl, hSX, _⟩ := own_sl lot_len hown2; clear hown2)
                      | (go_at_call 20; refine (HRO _ (hyi.keep (m := w.heap.size) (by repeat (first | exact B_refl | exact Below.refl _ _ | assumption | with_reducible refine B_alloc ?_ _ | with_reducible refine B_ext ?_ _ | with_reducible refine B_drew ?_ | with_reducible refine B_drewN ?_ _ | with_reducible refine B_set ?_ (by simp; omega) _))) (hei.keep (m := w.heap.size) (by repeat (first | exact B_refl | exact Below.refl _ _ | assumption | with_reducible refine B_alloc ?_ _ | with_reducible refine B_ext ?_ _ | with_reducible refine B_drew ?_ | with_reducible refine B_drewN ?_ _ | with_reducible refine B_set ?_ (by simp; omega) _)))).mono ?_; rintro e wq ⟨v, rfl, hown2, zo, rfl⟩; obtain ⟨F5, fc5, rfl, hSY, _⟩ := own_sl lot_len hown2; clear hown2)
                      | (go_at_call 18; refine (sameLots_any _ _ _ _ _ _ (hSF3.keep (n := W3.heap.size) (by repeat (first | exact B_refl | exact Below.refl _ _ | assumption | with_reducible refine B_alloc ?_ _ | with_reducible refine B_ext ?_ _ | with_reducible refine B_drew ?_ | with_reducible refine B_drewN ?_ _ | with_reducible refine B_set ?_ (by simp; omega) _))) hSY hx1).mono ?_; rintro e wq ⟨rfl, zu, rfl⟩)
                      | (go_at_call 18; refine (sameLots_any _ _ _ _ _ _ (hSG3.keep (n := W3.heap.size) (by repeat (first | exact B_refl | exact Below.refl _ _ | assumption | with_reducible refine B_alloc ?_ _ | with_reducible refine B_ext ?_ _ | with_reducible refine B_drew ?_ | with_reducible refine B_drewN ?_ _ | with_reducible refine B_set ?_ (by simp; omega) _))) hSX hx3).mono ?_; rintro e wq ⟨rfl, zu2, rfl⟩))
        go_ret
        exact Ret.of rfl (hB3.trans ((by repeat (first | exact B_refl | exact Below.refl _ _ | assumption | with_reducible refine B_alloc ?_ _ | with_reducible refine B_ext ?_ _ | with_reducible refine B_drew ?_ | with_reducible refine B_drewN ?_ _ | with_reducible refine B_set ?_ (by simp; omega) _) : Below W3.heap.size W3 _).mono hB3.size))
    · rw [hd] at HP1 HP2 HP3
      rw [if_neg (by simp)] at HP1 HP2
      obtain ⟨rfl, rfl⟩ := Prod.mk.inj HP1
      clear HP1
      have hD : whereD nm X1 (⟨trm, tst, tsi, tlv, tco, tsc⟩ : Lot) er2 := by
        unfold whereD
        cases hl : findLot nm X1 with
        | none =>
          rw [hl] at HP2
          obtain ⟨h1, rfl⟩ := Prod.mk.inj HP2
          exact .inl ⟨rfl, h1.symm, rfl⟩
        | some l =>
          rw [hl] at HP2
          obtain ⟨rfl, rfl⟩ := Prod.mk.inj HP2
          exact .inr ⟨rfl, rfl⟩
      clear HP2
      have hE : withD (findSite nm ss) X3 l3 r3 := by
        unfold withD
        cases hf : findSite nm ss with
        | none =>
          rw [hf, if_pos (by rfl)] at HP3
          obtain ⟨rfl, rfl⟩ := Prod.mk.inj HP3
          exact .inl ⟨rfl, rfl, rfl⟩
        | some s =>
          rw [hf, if_neg (by simp), if_neg (by simp)] at HP3
          obtain ⟨rfl, rfl⟩ := Prod.mk.inj HP3
          exact .inr ⟨s, rfl, rfl, rfl⟩
      clear HP3
      rcases hD with ⟨hl, h1, rfl⟩ | ⟨hl, rfl⟩
      · rw [hl] at HRW
        simp only [zeroLot, Lot.mk.injEq] at h1
        obtain ⟨rfl, rfl, rfl, rfl, rfl, rfl⟩ := h1
        clear hl
        unfold zeroLot Lot.v at HRW
        dsimp only at HRW
        rcases hE with ⟨hf, rfl, rfl⟩ | ⟨s, hf, rfl, rfl⟩
        · have hsi : rSiteR nm ss = -1 := by rw [rSiteR, siteIdx_none hf]
          clear hf HRI
          go_wp2_with (first
                        | (go_at_call 14; refine (rCheck_any ss rs _ _ _ _ _ _ _ _ _ es _ _ _ _ (hyi.keep (m := w.heap.size) (by repeat (first | exact B_refl | exact Below.refl _ _ | assumption | with_reducible refine B_alloc ?_ _ | with_reducible refine B_ext ?_ _ | with_reducible refine B_drew ?_ | with_reducible refine B_drewN ?_ _ | with_reducible refine B_set ?_ (by simp; omega) _))) (hei.keep (m := w.heap.size) (by repeat (first | exact B_refl | exact Below.refl _ _ | assumption | with_reducible refine B_alloc ?_ _ | with_reducible refine B_ext ?_ _ | with_reducible refine B_drew ?_ | with_reducible refine B_drewN ?_ _ | with_reducible refine B_set ?_ (by simp; omega) _)))).mono ?_; rintro e wq ⟨rfl, zk, rfl⟩; rw [HCK.out])
                        | (go_at_call 15; refine (rSite_any ss rs _ _ _ _ _ _ _ _ _ _ _ (hyi.keep (m := w.heap.size) (by repeat (first | exact B_refl | exact Below.refl _ _ | assumption | with_reducible refine B_alloc ?_ _ | with_reducible refine B_ext ?_ _ | with_reducible refine B_drew ?_ | with_reducible refine B_drewN ?_ _ | with_reducible refine B_set ?_ (by simp; omega) _)))).mono ?_; rintro e wq ⟨rfl, zt, rfl⟩; rw [hsi])
                        | (go_at_call 16; refine (rIsDay_any _ _).mono ?_; rintro e wq ⟨rfl, rfl⟩; rw [hd])
                        | (go_at_call 17; refine (HRW _ (hyi.keep (m := w.heap.size) (by repeat (first | exact B_refl | exact Below.refl _ _ | assumption | with_reducible refine B_alloc ?_ _ | with_reducible refine B_ext ?_ _ | with_reducible refine B_drew ?_ | with_reducible refine B_drewN ?_ _ | with_reducible refine B_set ?_ (by simp; omega) _))) (hei.keep (m := w.heap.size) (by repeat (first | exact B_refl | exact Below.refl _ _ | assumption | with_reducible refine B_alloc ?_ _ | with_reducible refine B_ext ?_ _ | with_reducible refine B_drew ?_ | with_reducible refine B_drewN ?_ _ | with_reducible refine B_set ?_ (by simp; omega) _)))).mono ?_; rintro e wq ⟨rfl, zw, rfl⟩)
                        | (go_at_call 19; refine (HRI _ (hyi.keep (m := w.heap.size) (by repeat (first | exact B_refl | exact Below.refl _ _ | assumption | with_reducible refine B_alloc ?_ _ | with_reducible refine B_ext ?_ _ | with_reducible refine B_drew ?_ | with_reducible refine B_drewN ?_ _ | with_reducible refine B_set ?_ (by simp; omega) _))) (hei.keep (m := w.heap.size) (by repeat (first | exact B_refl | exact Below.refl _ _ | assumption | with_reducible refine B_alloc ?_ _ | with_reducible refine B_ext ?_ _ | with_reducible refine B_drew ?_ | with_reducible refine B_drewN ?_ _ | with_reducible refine B_set ?_ (by simp; omega) _)))).mono ?_; rintro e wq ⟨v, rfl, hown2, zv, rfl⟩; obtain ⟨F4, fc4, rfl, hSX, _⟩ := own_sl lot_len hown2; clear hown2)
                        | (go_at_call 20; refine (HRO _ (hyi.keep (m := w.heap.size) (by repeat (first | exact B_refl | exact Below.refl _ _ | assumption | with_reducible refine B_alloc ?_ _ | with_reducible refine B_ext ?_ _ | with_reducible refine B_drew ?_ | with_reducible refine B_drewN ?_ _ | with_reducible refine B_set ?_ (by simp; omega) _))) (hei.keep (m := w.heap.size) (by repeat (first | exact B_refl | exact Below.refl _ _ | assumption | with_reducible refine B_alloc ?_ _ | with_reducible refine B_ext ?_ _ | with_reducible refine B_drew ?_ | with_reducible refine B_drewN ?_ _ | with_reducible refine B_set ?_ (by simp; omega) _)))).mono ?_; rintro e wq ⟨v, rfl, hown2, zo, rfl⟩; obtain ⟨F5, fc5, rfl, hSY, _⟩ := own_sl lot_len hown2; clear hown2)
                        | (go_at_call 18; refine (sameLots_any _ _ _ _ _ _ (hSF3.keep (n := W3.heap.size) (by repeat (first | exact B_refl | exact Below.refl _ _ | assumption | with_reducible refine B_alloc ?_ _ | with_reducible refine B_ext ?_ _ | with_reducible refine B_drew ?_ | with_reducible refine B_drewN ?_ _ | with_reducible refine B_set ?_ (by simp; omega) _))) hSY hx1).mono ?_; rintro e wq ⟨rfl, zu, rfl⟩)
                        | (go_at_call 18; refine (sameLots_any _ _ _ _ _ _ (hSG3.keep (n := W3.heap.size) (by repeat (first | exact B_refl | exact Below.refl _ _ | assumption | with_reducible refine B_alloc ?_ _ | with_reducible refine B_ext ?_ _ | with_reducible refine B_drew ?_ | with_reducible refine B_drewN ?_ _ | with_reducible refine B_set ?_ (by simp; omega) _))) hSX hx3).mono ?_; rintro e wq ⟨rfl, zu2, rfl⟩))
          go_ret
          exact Ret.of rfl (hB3.trans ((by repeat (first | exact B_refl | exact Below.refl _ _ | assumption | with_reducible refine B_alloc ?_ _ | with_reducible refine B_ext ?_ _ | with_reducible refine B_drew ?_ | with_reducible refine B_drewN ?_ _ | with_reducible refine B_set ?_ (by simp; omega) _) : Below W3.heap.size W3 _).mono hB3.size))
        · obtain ⟨si, hik, _⟩ := siteIdx_some hf
          have hsi : rSiteR nm ss = (si : Int) := by rw [rSiteR, hik]
          have hsi0 : (0 : Int) ≤ (si : Int) := by omega
          clear hf hik
          go_wp2_with (first
                        | (go_at_call 14; refine (rCheck_any ss rs _ _ _ _ _ _ _ _ _ es _ _ _ _ (hyi.keep (m := w.heap.size) (by repeat (first | exact B_refl | exact Below.refl _ _ | assumption | with_reducible refine B_alloc ?_ _ | with_reducible refine B_ext ?_ _ | with_reducible refine B_drew ?_ | with_reducible refine B_drewN ?_ _ | with_reducible refine B_set ?_ (by simp; omega) _))) (hei.keep (m := w.heap.size) (by repeat (first | exact B_refl | exact Below.refl _ _ | assumption | with_reducible refine B_alloc ?_ _ | with_reducible refine B_ext ?_ _ | with_reducible refine B_drew ?_ | with_reducible refine B_drewN ?_ _ | with_reducible refine B_set ?_ (by simp; omega) _)))).mono ?_; rintro e wq ⟨rfl, zk, rfl⟩; rw [HCK.out])
                        | (go_at_call 15; refine (rSite_any ss rs _ _ _ _ _ _ _ _ _ _ _ (hyi.keep (m := w.heap.size) (by repeat (first | exact B_refl | exact Below.refl _ _ | assumption | with_reducible refine B_alloc ?_ _ | with_reducible refine B_ext ?_ _ | with_reducible refine B_drew ?_ | with_reducible refine B_drewN ?_ _ | with_reducible refine B_set ?_ (by simp; omega) _)))).mono ?_; rintro e wq ⟨rfl, zt, rfl⟩; rw [hsi])
                        | (go_at_call 16; refine (rIsDay_any _ _).mono ?_; rintro e wq ⟨rfl, rfl⟩; rw [hd])
                        | (go_at_call 17; refine (HRW _ (hyi.keep (m := w.heap.size) (by repeat (first | exact B_refl | exact Below.refl _ _ | assumption | with_reducible refine B_alloc ?_ _ | with_reducible refine B_ext ?_ _ | with_reducible refine B_drew ?_ | with_reducible refine B_drewN ?_ _ | with_reducible refine B_set ?_ (by simp; omega) _))) (hei.keep (m := w.heap.size) (by repeat (first | exact B_refl | exact Below.refl _ _ | assumption | with_reducible refine B_alloc ?_ _ | with_reducible refine B_ext ?_ _ | with_reducible refine B_drew ?_ | with_reducible refine B_drewN ?_ _ | with_reducible refine B_set ?_ (by simp; omega) _)))).mono ?_; rintro e wq ⟨rfl, zw, rfl⟩)
                        | (go_at_call 19; refine (HRI _ (hyi.keep (m := w.heap.size) (by repeat (first | exact B_refl | exact Below.refl _ _ | assumption | with_reducible refine B_alloc ?_ _ | with_reducible refine B_ext ?_ _ | with_reducible refine B_drew ?_ | with_reducible refine B_drewN ?_ _ | with_reducible refine B_set ?_ (by simp; omega) _))) (hei.keep (m := w.heap.size) (by repeat (first | exact B_refl | exact Below.refl _ _ | assumption | with_reducible refine B_alloc ?_ _ | with_reducible refine B_ext ?_ _ | with_reducible refine B_drew ?_ | with_reducible refine B_drewN ?_ _ | with_reducible refine B_set ?_ (by simp; omega) _)))).mono ?_; rintro e wq ⟨v, rfl, hown2, zv, rfl⟩; obtain ⟨F4, fc4, rfl, hSX, _⟩ := own_sl lot_len hown2; clear hown2)
                        | (go_at_call 20; refine (HRO _ (hyi.keep (m := w.heap.size) (by repeat (first | exact B_refl | exact Below.refl _ _ | assumption | with_reducible refine B_alloc ?_ _ | with_reducible refine B_ext ?_ _ | with_reducible refine B_drew ?_ | with_reducible refine B_drewN ?_ _ | with_reducible refine B_set ?_ (by simp; omega) _))) (hei.keep (m := w.heap.size) (by repeat (first | exact B_refl | exact Below.refl _ _ | assumption | with_reducible refine B_alloc ?_ _ | with_reducible refine B_ext ?_ _ | with_reducible refine B_drew ?_ | with_reducible refine B_drewN ?_ _ | with_reducible refine B_set ?_ (by simp; omega) _)))).mono ?_; rintro e wq ⟨v, rfl, hown2, zo, rfl⟩; obtain ⟨F5, fc5, rfl, hSY, _⟩ := own_sl lot_len hown2; clear hown2)
                        | (go_at_call 18; refine (sameLots_any _ _ _ _ _ _ (hSF3.keep (n := W3.heap.size) (by repeat (first | exact B_refl | exact Below.refl _ _ | assumption | with_reducible refine B_alloc ?_ _ | with_reducible refine B_ext ?_ _ | with_reducible refine B_drew ?_ | with_reducible refine B_drewN ?_ _ | with_reducible refine B_set ?_ (by simp; omega) _))) hSY hx1).mono ?_; rintro e wq ⟨rfl, zu, rfl⟩)
                        | (go_at_call 18; refine (sameLots_any _ _ _ _ _ _ (hSG3.keep (n := W3.heap.size) (by repeat (first | exact B_refl | exact Below.refl _ _ | assumption | with_reducible refine B_alloc ?_ _ | with_reducible refine B_ext ?_ _ | with_reducible refine B_drew ?_ | with_reducible refine B_drewN ?_ _ | with_reducible refine B_set ?_ (by simp; omega) _))) hSX hx3).mono ?_; rintro e wq ⟨rfl, zu2, rfl⟩))
          go_ret
          exact Ret.of rfl (hB3.trans ((by repeat (first | exact B_refl | exact Below.refl _ _ | assumption | with_reducible refine B_alloc ?_ _ | with_reducible refine B_ext ?_ _ | with_reducible refine B_drew ?_ | with_reducible refine B_drewN ?_ _ | with_reducible refine B_set ?_ (by simp; omega) _) : Below W3.heap.size W3 _).mono hB3.size))
      · rw [hl] at HRW
        clear hl
        unfold Lot.v at HRW
        dsimp only at HRW
        rcases hE with ⟨hf, rfl, rfl⟩ | ⟨s, hf, rfl, rfl⟩
        · have hsi : rSiteR nm ss = -1 := by rw [rSiteR, siteIdx_none hf]
          clear hf HRI
          go_wp2_with (first
                        | (go_at_call 14; refine (rCheck_any ss rs _ _ _ _ _ _ _ _ _ es _ _ _ _ (hyi.keep (m := w.heap.size) (by repeat (first | exact B_refl | exact Below.refl _ _ | assumption | with_reducible refine B_alloc ?_ _ | with_reducible refine B_ext ?_ _ | with_reducible refine B_drew ?_ | with_reducible refine B_drewN ?_ _ | with_reducible refine B_set ?_ (by simp; omega) _))) (hei.keep (m := w.heap.size) (by repeat (first | exact B_refl | exact Below.refl _ _ | assumption | with_reducible refine B_alloc ?_ _ | with_reducible refine B_ext ?_ _ | with_reducible refine B_drew ?_ | with_reducible refine B_drewN ?_ _ | with_reducible refine B_set ?_ (by simp; omega) _)))).mono ?_; rintro e wq ⟨rfl, zk, rfl⟩; rw [HCK.out])
                        | (go_at_call 15; refine (rSite_any ss rs _ _ _ _ _ _ _ _ _ _ _ (hyi.keep (m := w.heap.size) (by repeat (first | exact B_refl | exact Below.refl _ _ | assumption | with_reducible refine B_alloc ?_ _ | with_reducible refine B_ext ?_ _ | with_reducible refine B_drew ?_ | with_reducible refine B_drewN ?_ _ | with_reducible refine B_set ?_ (by simp; omega) _)))).mono ?_; rintro e wq ⟨rfl, zt, rfl⟩; rw [hsi])
                        | (go_at_call 16; refine (rIsDay_any _ _).mono ?_; rintro e wq ⟨rfl, rfl⟩; rw [hd])
                        | (go_at_call 17; refine (HRW _ (hyi.keep (m := w.heap.size) (by repeat (first | exact B_refl | exact Below.refl _ _ | assumption | with_reducible refine B_alloc ?_ _ | with_reducible refine B_ext ?_ _ | with_reducible refine B_drew ?_ | with_reducible refine B_drewN ?_ _ | with_reducible refine B_set ?_ (by simp; omega) _))) (hei.keep (m := w.heap.size) (by repeat (first | exact B_refl | exact Below.refl _ _ | assumption | with_reducible refine B_alloc ?_ _ | with_reducible refine B_ext ?_ _ | with_reducible refine B_drew ?_ | with_reducible refine B_drewN ?_ _ | with_reducible refine B_set ?_ (by simp; omega) _)))).mono ?_; rintro e wq ⟨rfl, zw, rfl⟩)
                        | (go_at_call 19; refine (HRI _ (hyi.keep (m := w.heap.size) (by repeat (first | exact B_refl | exact Below.refl _ _ | assumption | with_reducible refine B_alloc ?_ _ | with_reducible refine B_ext ?_ _ | with_reducible refine B_drew ?_ | with_reducible refine B_drewN ?_ _ | with_reducible refine B_set ?_ (by simp; omega) _))) (hei.keep (m := w.heap.size) (by repeat (first | exact B_refl | exact Below.refl _ _ | assumption | with_reducible refine B_alloc ?_ _ | with_reducible refine B_ext ?_ _ | with_reducible refine B_drew ?_ | with_reducible refine B_drewN ?_ _ | with_reducible refine B_set ?_ (by simp; omega) _)))).mono ?_; rintro e wq ⟨v, rfl, hown2, zv, rfl⟩; obtain ⟨F4, fc4, rfl, hSX, _⟩ := own_sl lot_len hown2; clear hown2)
                        | (go_at_call 20; refine (HRO _ (hyi.keep (m := w.heap.size) (by repeat (first | exact B_refl | exact Below.refl _ _ | assumption | with_reducible refine B_alloc ?_ _ | with_reducible refine B_ext ?_ _ | with_reducible refine B_drew ?_ | with_reducible refine B_drewN ?_ _ | with_reducible refine B_set ?_ (by simp; omega) _))) (hei.keep (m := w.heap.size) (by repeat (first | exact B_refl | exact Below.refl _ _ | assumption | with_reducible refine B_alloc ?_ _ | with_reducible refine B_ext ?_ _ | with_reducible refine B_drew ?_ | with_reducible refine B_drewN ?_ _ | with_reducible refine B_set ?_ (by simp; omega) _)))).mono ?_; rintro e wq ⟨v, rfl, hown2, zo, rfl⟩; obtain ⟨F5, fc5, rfl, hSY, _⟩ := own_sl lot_len hown2; clear hown2)
                        | (go_at_call 18; refine (sameLots_any _ _ _ _ _ _ (hSF3.keep (n := W3.heap.size) (by repeat (first | exact B_refl | exact Below.refl _ _ | assumption | with_reducible refine B_alloc ?_ _ | with_reducible refine B_ext ?_ _ | with_reducible refine B_drew ?_ | with_reducible refine B_drewN ?_ _ | with_reducible refine B_set ?_ (by simp; omega) _))) hSY hx1).mono ?_; rintro e wq ⟨rfl, zu, rfl⟩)
                        | (go_at_call 18; refine (sameLots_any _ _ _ _ _ _ (hSG3.keep (n := W3.heap.size) (by repeat (first | exact B_refl | exact Below.refl _ _ | assumption | with_reducible refine B_alloc ?_ _ | with_reducible refine B_ext ?_ _ | with_reducible refine B_drew ?_ | with_reducible refine B_drewN ?_ _ | with_reducible refine B_set ?_ (by simp; omega) _))) hSX hx3).mono ?_; rintro e wq ⟨rfl, zu2, rfl⟩))
          go_ret
          exact Ret.of rfl (hB3.trans ((by repeat (first | exact B_refl | exact Below.refl _ _ | assumption | with_reducible refine B_alloc ?_ _ | with_reducible refine B_ext ?_ _ | with_reducible refine B_drew ?_ | with_reducible refine B_drewN ?_ _ | with_reducible refine B_set ?_ (by simp; omega) _) : Below W3.heap.size W3 _).mono hB3.size))
        · obtain ⟨si, hik, _⟩ := siteIdx_some hf
          have hsi : rSiteR nm ss = (si : Int) := by rw [rSiteR, hik]
          have hsi0 : (0 : Int) ≤ (si : Int) := by omega
          clear hf hik
          go_wp2_with (first
                        | (go_at_call 14; refine (rCheck_any ss rs _ _ _ _ _ _ _ _ _ es _ _ _ _ (hyi.keep (m := w.heap.size) (by repeat (first | exact B_refl | exact Below.refl _ _ | assumption | with_reducible refine B_alloc ?_ _ | with_reducible refine B_ext ?_ _ | with_reducible refine B_drew ?_ | with_reducible refine B_drewN ?_ _ | with_reducible refine B_set ?_ (by simp; omega) _))) (hei.keep (m := w.heap.size) (by repeat (first | exact B_refl | exact Below.refl _ _ | assumption | with_reducible refine B_alloc ?_ _ | with_reducible refine B_ext ?_ _ | with_reducible refine B_drew ?_ | with_reducible refine B_drewN ?_ _ | with_reducible refine B_set ?_ (by simp; omega) _)))).mono ?_; rintro e wq ⟨rfl, zk, rfl⟩; rw [HCK.out])
                        | (go_at_call 15; refine (rSite_any ss rs _ _ _ _ _ _ _ _ _ _ _ (hyi.keep (m := w.heap.size) (by repeat (first | exact B_refl | exact Below.refl _ _ | assumption | with_reducible refine B_alloc ?_ _ | with_reducible refine B_ext ?_ _ | with_reducible refine B_drew ?_ | with_reducible refine B_drewN ?_ _ | with_reducible refine B_set ?_ (by simp; omega) _)))).mono ?_; rintro e wq ⟨rfl, zt, rfl⟩; rw [hsi])
                        | (go_at_call 16; refine (rIsDay_any _ _).mono ?_; rintro e wq ⟨rfl, rfl⟩; rw [hd])
                        | (go_at_call 17; refine (HRW _ (hyi.keep (m := w.heap.size) (by repeat (first | exact B_refl | exact Below.refl _ _ | assumption | with_reducible refine B_alloc ?_ _ | with_reducible refine B_ext ?_ _ | with_reducible refine B_drew ?_ | with_reducible refine B_drewN ?_ _ | with_reducible refine B_set ?_ (by simp; omega) _))) (hei.keep (m := w.heap.size) (by repeat (first | exact B_refl | exact Below.refl _ _ | assumption | with_reducible refine B_alloc ?_ _ | with_reducible refine B_ext ?_ _ | with_reducible refine B_drew ?_ | with_reducible refine B_drewN ?_ _ | with_reducible refine B_set ?_ (by simp; omega) _)))).mono ?_; rintro e wq ⟨rfl, zw, rfl⟩)
                        | (go_at_call 19; refine (HRI _ (hyi.keep (m := w.heap.size) (by repeat (first | exact B_refl | exact Below.refl _ _ | assumption | with_reducible refine B_alloc ?_ _ | with_reducible refine B_ext ?_ _ | with_reducible refine B_drew ?_ | with_reducible refine B_drewN ?_ _ | with_reducible refine B_set ?_ (by simp; omega) _))) (hei.keep (m := w.heap.size) (by repeat (first | exact B_refl | exact Below.refl _ _ | assumption | with_reducible refine B_alloc ?_ _ | with_reducible refine B_ext ?_ _ | with_reducible refine B_drew ?_ | with_reducible refine B_drewN ?_ _ | with_reducible refine B_set ?_ (by simp; omega) _)))).mono ?_; rintro e wq ⟨v, rfl, hown2, zv, rfl⟩; obtain ⟨F4, fc4, rfl, hSX, _⟩ := own_sl lot_len hown2; clear hown2)
                        | (go_at_call 20; refine (HRO _ (hyi.keep (m := w.heap.size) (by repeat (first | exact B_refl | exact Below.refl _ _ | assumption | with_reducible refine B_alloc ?_ _ | with_reducible refine B_ext ?_ _ | with_reducible refine B_drew ?_ | with_reducible refine B_drewN ?_ _ | with_reducible refine B_set ?_ (by simp; omega) _))) (hei.keep (m := w.heap.size) (by repeat (first | exact B_refl | exact Below.refl _ _ | assumption | with_reducible refine B_alloc ?_ _ | with_reducible refine B_ext ?_ _ | with_reducible refine B_drew ?_ | with_reducible refine B_drewN ?_ _ | with_reducible refine B_set ?_ (by simp; omega) _)))).mono ?_; rintro e wq ⟨v, rfl, hown2, zo, rfl⟩; obtain ⟨F5, fc5, rfl, hSY, _⟩ := own_sl lot_len hown2; clear hown2)
                        | (go_at_call 18; refine (sameLots_any _ _ _ _ _ _ (hSF3.keep (n := W3.heap.size) (by repeat (first | exact B_refl | exact Below.refl _ _ | assumption | with_reducible refine B_alloc ?_ _ | with_reducible refine B_ext ?_ _ | with_reducible refine B_drew ?_ | with_reducible refine B_drewN ?_ _ | with_reducible refine B_set ?_ (by simp; omega) _))) hSY hx1).mono ?_; rintro e wq ⟨rfl, zu, rfl⟩)
                        | (go_at_call 18; refine (sameLots_any _ _ _ _ _ _ (hSG3.keep (n := W3.heap.size) (by repeat (first | exact B_refl | exact Below.refl _ _ | assumption | with_reducible refine B_alloc ?_ _ | with_reducible refine B_ext ?_ _ | with_reducible refine B_drew ?_ | with_reducible refine B_drewN ?_ _ | with_reducible refine B_set ?_ (by simp; omega) _))) hSX hx3).mono ?_; rintro e wq ⟨rfl, zu2, rfl⟩))
          go_ret
          exact Ret.of rfl (hB3.trans ((by repeat (first | exact B_refl | exact Below.refl _ _ | assumption | with_reducible refine B_alloc ?_ _ | with_reducible refine B_ext ?_ _ | with_reducible refine B_drew ?_ | with_reducible refine B_drewN ?_ _ | with_reducible refine B_set ?_ (by simp; omega) _) : Below W3.heap.size W3 _).mono hB3.size))
end Go.Proofs.YtpohkolapgofdaaGreat
namespace Go.Proofs.YtpohkolapgofdaaGreat
open Go.ChangeShapes Go.WideShapes Go.ChangeAt Go.RowKit

set_option maxRecDepth 100000 in
theorem graveDays_lifted (os : Os) (started : os.Started) (H : Type) (enc : TypeId × Value → H) :
    ReturnsInHanded {} Tryz.checked os 3 .any (Rows.graveDaysSpec.pre6 enc Tryz.prog Tryz.f3 Rows.graveDaysRow.domain false) (Rows.graveDaysSpec.post enc Tryz.prog Tryz.f3 false true false false) := by
  refine returnsInHanded_of_change (C := Tryz.checked) own_knob started (by kernel_rfl) Tryz.func3
    (ChangeSpec.witness6 (enc := enc) (C := Tryz.checked) false ⟨#[], #[.agg #[.slice none 0 0, .slice none 0 0, .int .i64 0, .int .i64 0, .int .i64 0], .agg #[.slice none 0 0, .int .i64 0, .string ⟨#[]⟩]], []⟩ 8 (by kernel_rfl) (by kernel_rfl) (by kernel_rfl) (by kernel_rfl)) ?_
  intro W base args ds gs before hval0 hW hcnd _
  have hval : ∀ (j : Nat) t v, Tryz.f3.params[j]? = some t → args[j]? = some v → Value.okWide Tryz.prog W .any base t v := hval0
  have hW' := hW
  obtain ⟨p, q, hA0, hV, rfl, hfz, hnd⟩ := hW
  have hA : DataW.TrodAll enc Tryz.prog W 0 (fun _ => true) true Tryz.f3.params.toList args.toList ds p := hA0
  rw [Tryz.params3] at hA hval
  obtain ⟨v0, vs0, d0, ds0, p0, q0, hargs, rfl, rfl, h0, r0⟩ := trodAll_cons hA
  obtain ⟨v1, vs1, d1, ds1, p1, q1, rfl, rfl, rfl, h1, r1⟩ := trodAll_cons r0
  obtain ⟨rfl, rfl, rfl⟩ := trodAll_nil r1
  obtain rfl : args = #[v0, v1] := by cases args; simp_all
  obtain ⟨rfl, rfl⟩ := trodVars_none hV
  have k0 := h0
  have k1 := h1
  have lt0 : ∀ x ∈ p0, x.block < W.heap.size := by obtain ⟨m, hm⟩ := k0; exact DataW.trod_lt m _ _ _ hm
  have lt1 : ∀ x ∈ p1, x.block < W.heap.size := by obtain ⟨m, hm⟩ := k1; exact DataW.trod_lt m _ _ _ hm
  obtain ⟨ss, rs, A, n, c, R, rn, rc, c0, c1, c2, rfl, hy⟩ := open_yard (hval 0 26 v0 rfl rfl) h0
  obtain ⟨es, E, en, ec, day, nm, rfl, hev, hcap⟩ := open_moment (hval 1 29 v1 rfl rfl) h1
  clear hA0 hval0
  refine (graveDays_any ss rs A R n c rn rc c0 c1 c2 es E en ec day nm W hy hev hcap).mono fun e W' ⟨he, z, hz⟩ => ?_
  subst he
  have bel : Below W.heap.size W W' := by rw [hz]; exact below_ext W z
  exact ⟨_, rfl, _, _, _, [], _, [], hW', trodAll_mk1 (shut_bool Tryz.underlying4 _), (trodAll_cons_mk (Below.trod laid_out (by kernel_rfl) (of_decide_eq_true (by kernel_rfl)) k0 bel lt0) (trodAll_cons_mk (Below.trod laid_out (by kernel_rfl) (of_decide_eq_true (by kernel_rfl)) k1 bel lt1) trodAll_mk0)), rfl, bel.frame _, fun h => by cases h⟩

theorem graveDays_holds : Rows.GraveDaysSaid :=
  OpenClaim.holds_of_wide 3 Tryz.f3 rfl rfl rfl rfl rfl rfl rfl ⟨rfl, rfl, rfl, rfl, rfl⟩ rfl rfl rfl rfl rfl (by kernel_rfl) Tryz.func3 (by kernel_rfl)
    (of_decide_eq_true (by kernel_rfl)) (by unfold Func.isWrapper; first | (rw [if_pos (by decide +kernel)]; kernel_rfl) | (rw [if_neg (by decide +kernel)]; exact ⟨rfl, rfl⟩))
    (fun os started H enc _ => graveDays_lifted os started H enc)
#print axioms graveDays_holds
end Go.Proofs.YtpohkolapgofdaaGreat
