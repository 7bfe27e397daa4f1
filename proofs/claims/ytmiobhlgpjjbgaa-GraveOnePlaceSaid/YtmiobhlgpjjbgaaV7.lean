/- Walk: the law GraveOnePlace. -/
import Derived.Test.YtmiobhlgpjjbgaaQ8
import Derived.Test.YtmiobhlgpjjbgaaH4
namespace Go.Proofs.Ytmiobhlgpjjbgaa
open Go.RowKit
attribute [local go_sem] World.cell?_alloc_mark ext_size ext_cell ext_frozen lt_add_r lt_add_r2 lt_add_r3 lt_add_r4 lt_add_r5 lt_add_r6 lt_add_r7 lt_add_r8

set_option maxRecDepth 100000 in
set_option maxHeartbeats 2000000 in
theorem graveOnePlace_any (ss : List Site) (rs : List Rest) (A R : Option Addr) (n c rn rc : Nat) (c0 c1 c2 : Int) (es : List Event) (E : Option Addr) (en ec : Nat) (day : Int) (w : World) (hy : YardRaw w ss rs A n c R rn rc) (hev : EventsRaw w es E en) :
    Calls Try.prog 10 #[.agg #[.slice A n c, .slice R rn rc, .int .i64 c0, .int .i64 c1, .int .i64 c2], .slice E en ec, .int .i64 day] w (Ret w (.bool true)) := by
  go_enter Try.func10, Try.ntmps10
  cases hsm : smallP ss rs
  · go_wp2_with (first
                  | (go_at_call 12; refine (awake_any _).mono ?_; rintro e wq ⟨rfl, za, rfl⟩)
                  | (go_at_call 13; refine (small_any ss rs _ _ _ _ _ _ _ _ _ _ (hy.keep (m := w.heap.size) (by repeat (first | exact B_refl | exact Below.refl _ _ | assumption | with_reducible refine B_alloc ?_ _ | with_reducible refine B_ext ?_ _ | with_reducible refine B_drew ?_ | with_reducible refine B_drewN ?_ _ | with_reducible refine B_set ?_ (by simp; omega) _)))).mono ?_; rintro e wq ⟨rfl, zs, rfl⟩; rw [hsm])
                  | (go_at_call 19; refine (few_any es _ _ _ _ (hev.keep (m := w.heap.size) (by repeat (first | exact B_refl | exact Below.refl _ _ | assumption | with_reducible refine B_alloc ?_ _ | with_reducible refine B_ext ?_ _ | with_reducible refine B_drew ?_ | with_reducible refine B_drewN ?_ _ | with_reducible refine B_set ?_ (by simp; omega) _)))).mono ?_; rintro e wq ⟨rfl, zf, rfl⟩; rw [hfw])
                  | (go_at_call 20; refine (rCheck_any ss rs _ _ _ _ _ _ _ _ _ es _ _ _ _ (hyi.keep (m := w.heap.size) (by repeat (first | exact B_refl | exact Below.refl _ _ | assumption | with_reducible refine B_alloc ?_ _ | with_reducible refine B_ext ?_ _ | with_reducible refine B_drew ?_ | with_reducible refine B_drewN ?_ _ | with_reducible refine B_set ?_ (by simp; omega) _))) (hei.keep (m := w.heap.size) (by repeat (first | exact B_refl | exact Below.refl _ _ | assumption | with_reducible refine B_alloc ?_ _ | with_reducible refine B_ext ?_ _ | with_reducible refine B_drew ?_ | with_reducible refine B_drewN ?_ _ | with_reducible refine B_set ?_ (by simp; omega) _)))).mono ?_; rintro e wq ⟨rfl, zk, rfl⟩; rw [HCK.out])
                  | (go_at_call 21; refine (rIsDay_any _ _).mono ?_; rintro e wq ⟨rfl, rfl⟩; rw [hdy])
                  | (go_at_call 51; refine (HON _ (hyi.keep (m := w.heap.size) (by repeat (first | exact B_refl | exact Below.refl _ _ | assumption | with_reducible refine B_alloc ?_ _ | with_reducible refine B_ext ?_ _ | with_reducible refine B_drew ?_ | with_reducible refine B_drewN ?_ _ | with_reducible refine B_set ?_ (by simp; omega) _))) (hei.keep (m := w.heap.size) (by repeat (first | exact B_refl | exact Below.refl _ _ | assumption | with_reducible refine B_alloc ?_ _ | with_reducible refine B_ext ?_ _ | with_reducible refine B_drew ?_ | with_reducible refine B_drewN ?_ _ | with_reducible refine B_set ?_ (by simp; omega) _)))).mono ?_; rintro e wq ⟨F, fc, rfl, hS, zo, rfl⟩))
    go_ret
    exact Ret.of rfl (by repeat (first | exact B_refl | exact Below.refl _ _ | assumption | with_reducible refine B_alloc ?_ _ | with_reducible refine B_ext ?_ _ | with_reducible refine B_drew ?_ | with_reducible refine B_drewN ?_ _ | with_reducible refine B_set ?_ (by simp; omega) _))
  obtain ⟨hyi, hyl1, hyl2⟩ := small_yard hy hsm
  cases hfw : fewP es
  · go_wp2_with (first
                  | (go_at_call 12; refine (awake_any _).mono ?_; rintro e wq ⟨rfl, za, rfl⟩)
                  | (go_at_call 13; refine (small_any ss rs _ _ _ _ _ _ _ _ _ _ (hy.keep (m := w.heap.size) (by repeat (first | exact B_refl | exact Below.refl _ _ | assumption | with_reducible refine B_alloc ?_ _ | with_reducible refine B_ext ?_ _ | with_reducible refine B_drew ?_ | with_reducible refine B_drewN ?_ _ | with_reducible refine B_set ?_ (by simp; omega) _)))).mono ?_; rintro e wq ⟨rfl, zs, rfl⟩; rw [hsm])
                  | (go_at_call 19; refine (few_any es _ _ _ _ (hev.keep (m := w.heap.size) (by repeat (first | exact B_refl | exact Below.refl _ _ | assumption | with_reducible refine B_alloc ?_ _ | with_reducible refine B_ext ?_ _ | with_reducible refine B_drew ?_ | with_reducible refine B_drewN ?_ _ | with_reducible refine B_set ?_ (by simp; omega) _)))).mono ?_; rintro e wq ⟨rfl, zf, rfl⟩; rw [hfw])
                  | (go_at_call 20; refine (rCheck_any ss rs _ _ _ _ _ _ _ _ _ es _ _ _ _ (hyi.keep (m := w.heap.size) (by repeat (first | exact B_refl | exact Below.refl _ _ | assumption | with_reducible refine B_alloc ?_ _ | with_reducible refine B_ext ?_ _ | with_reducible refine B_drew ?_ | with_reducible refine B_drewN ?_ _ | with_reducible refine B_set ?_ (by simp; omega) _))) (hei.keep (m := w.heap.size) (by repeat (first | exact B_refl | exact Below.refl _ _ | assumption | with_reducible refine B_alloc ?_ _ | with_reducible refine B_ext ?_ _ | with_reducible refine B_drew ?_ | with_reducible refine B_drewN ?_ _ | with_reducible refine B_set ?_ (by simp; omega) _)))).mono ?_; rintro e wq ⟨rfl, zk, rfl⟩; rw [HCK.out])
                  | (go_at_call 21; refine (rIsDay_any _ _).mono ?_; rintro e wq ⟨rfl, rfl⟩; rw [hdy])
                  | (go_at_call 51; refine (HON _ (hyi.keep (m := w.heap.size) (by repeat (first | exact B_refl | exact Below.refl _ _ | assumption | with_reducible refine B_alloc ?_ _ | with_reducible refine B_ext ?_ _ | with_reducible refine B_drew ?_ | with_reducible refine B_drewN ?_ _ | with_reducible refine B_set ?_ (by simp; omega) _))) (hei.keep (m := w.heap.size) (by repeat (first | exact B_refl | exact Below.refl _ _ | assumption | with_reducible refine B_alloc ?_ _ | with_reducible refine B_ext ?_ _ | with_reducible refine B_drew ?_ | with_reducible refine B_drewN ?_ _ | with_reducible refine B_set ?_ (by simp; omega) _)))).mono ?_; rintro e wq ⟨F, fc, rfl, hS, zo, rfl⟩))
    go_ret
    exact Ret.of rfl (by repeat (first | exact B_refl | exact Below.refl _ _ | assumption | with_reducible refine B_alloc ?_ _ | with_reducible refine B_ext ?_ _ | with_reducible refine B_drew ?_ | with_reducible refine B_drewN ?_ _ | with_reducible refine B_set ?_ (by simp; omega) _))
  obtain ⟨hei, hel1, hel2⟩ := few_events hev hfw
  have hen := hei.hn
  subst hen
  obtain ⟨X, hX⟩ : ∃ X, rCheckP c0 c1 c2 ss rs es = X := ⟨_, rfl⟩
  have HCK := Lib.hid hX
  cases hX0 : (X != 0)
  rotate_left
  · clear hX
    go_wp2_with (first
                  | (go_at_call 12; refine (awake_any _).mono ?_; rintro e wq ⟨rfl, za, rfl⟩)
                  | (go_at_call 13; refine (small_any ss rs _ _ _ _ _ _ _ _ _ _ (hy.keep (m := w.heap.size) (by repeat (first | exact B_refl | exact Below.refl _ _ | assumption | with_reducible refine B_alloc ?_ _ | with_reducible refine B_ext ?_ _ | with_reducible refine B_drew ?_ | with_reducible refine B_drewN ?_ _ | with_reducible refine B_set ?_ (by simp; omega) _)))).mono ?_; rintro e wq ⟨rfl, zs, rfl⟩; rw [hsm])
                  | (go_at_call 19; refine (few_any es _ _ _ _ (hev.keep (m := w.heap.size) (by repeat (first | exact B_refl | exact Below.refl _ _ | assumption | with_reducible refine B_alloc ?_ _ | with_reducible refine B_ext ?_ _ | with_reducible refine B_drew ?_ | with_reducible refine B_drewN ?_ _ | with_reducible refine B_set ?_ (by simp; omega) _)))).mono ?_; rintro e wq ⟨rfl, zf, rfl⟩; rw [hfw])
                  | (go_at_call 20; refine (rCheck_any ss rs _ _ _ _ _ _ _ _ _ es _ _ _ _ (hyi.keep (m := w.heap.size) (by repeat (first | exact B_refl | exact Below.refl _ _ | assumption | with_reducible refine B_alloc ?_ _ | with_reducible refine B_ext ?_ _ | with_reducible refine B_drew ?_ | with_reducible refine B_drewN ?_ _ | with_reducible refine B_set ?_ (by simp; omega) _))) (hei.keep (m := w.heap.size) (by repeat (first | exact B_refl | exact Below.refl _ _ | assumption | with_reducible refine B_alloc ?_ _ | with_reducible refine B_ext ?_ _ | with_reducible refine B_drew ?_ | with_reducible refine B_drewN ?_ _ | with_reducible refine B_set ?_ (by simp; omega) _)))).mono ?_; rintro e wq ⟨rfl, zk, rfl⟩; rw [HCK.out])
                  | (go_at_call 21; refine (rIsDay_any _ _).mono ?_; rintro e wq ⟨rfl, rfl⟩; rw [hdy])
                  | (go_at_call 51; refine (HON _ (hyi.keep (m := w.heap.size) (by repeat (first | exact B_refl | exact Below.refl _ _ | assumption | with_reducible refine B_alloc ?_ _ | with_reducible refine B_ext ?_ _ | with_reducible refine B_drew ?_ | with_reducible refine B_drewN ?_ _ | with_reducible refine B_set ?_ (by simp; omega) _))) (hei.keep (m := w.heap.size) (by repeat (first | exact B_refl | exact Below.refl _ _ | assumption | with_reducible refine B_alloc ?_ _ | with_reducible refine B_ext ?_ _ | with_reducible refine B_drew ?_ | with_reducible refine B_drewN ?_ _ | with_reducible refine B_set ?_ (by simp; omega) _)))).mono ?_; rintro e wq ⟨F, fc, rfl, hS, zo, rfl⟩))
    go_ret
    exact Ret.of rfl (by repeat (first | exact B_refl | exact Below.refl _ _ | assumption | with_reducible refine B_alloc ?_ _ | with_reducible refine B_ext ?_ _ | with_reducible refine B_drew ?_ | with_reducible refine B_drewN ?_ _ | with_reducible refine B_set ?_ (by simp; omega) _))
  have hX1 : X = 0 := by simpa using hX0
  subst hX1
  cases hdy : inR day 0 200000
  · clear hX
    go_wp2_with (first
                  | (go_at_call 12; refine (awake_any _).mono ?_; rintro e wq ⟨rfl, za, rfl⟩)
                  | (go_at_call 13; refine (small_any ss rs _ _ _ _ _ _ _ _ _ _ (hy.keep (m := w.heap.size) (by repeat (first | exact B_refl | exact Below.refl _ _ | assumption | with_reducible refine B_alloc ?_ _ | with_reducible refine B_ext ?_ _ | with_reducible refine B_drew ?_ | with_reducible refine B_drewN ?_ _ | with_reducible refine B_set ?_ (by simp; omega) _)))).mono ?_; rintro e wq ⟨rfl, zs, rfl⟩; rw [hsm])
                  | (go_at_call 19; refine (few_any es _ _ _ _ (hev.keep (m := w.heap.size) (by repeat (first | exact B_refl | exact Below.refl _ _ | assumption | with_reducible refine B_alloc ?_ _ | with_reducible refine B_ext ?_ _ | with_reducible refine B_drew ?_ | with_reducible refine B_drewN ?_ _ | with_reducible refine B_set ?_ (by simp; omega) _)))).mono ?_; rintro e wq ⟨rfl, zf, rfl⟩; rw [hfw])
                  | (go_at_call 20; refine (rCheck_any ss rs _ _ _ _ _ _ _ _ _ es _ _ _ _ (hyi.keep (m := w.heap.size) (by repeat (first | exact B_refl | exact Below.refl _ _ | assumption | with_reducible refine B_alloc ?_ _ | with_reducible refine B_ext ?_ _ | with_reducible refine B_drew ?_ | with_reducible refine B_drewN ?_ _ | with_reducible refine B_set ?_ (by simp; omega) _))) (hei.keep (m := w.heap.size) (by repeat (first | exact B_refl | exact Below.refl _ _ | assumption | with_reducible refine B_alloc ?_ _ | with_reducible refine B_ext ?_ _ | with_reducible refine B_drew ?_ | with_reducible refine B_drewN ?_ _ | with_reducible refine B_set ?_ (by simp; omega) _)))).mono ?_; rintro e wq ⟨rfl, zk, rfl⟩; rw [HCK.out])
                  | (go_at_call 21; refine (rIsDay_any _ _).mono ?_; rintro e wq ⟨rfl, rfl⟩; rw [hdy])
                  | (go_at_call 51; refine (HON _ (hyi.keep (m := w.heap.size) (by repeat (first | exact B_refl | exact Below.refl _ _ | assumption | with_reducible refine B_alloc ?_ _ | with_reducible refine B_ext ?_ _ | with_reducible refine B_drew ?_ | with_reducible refine B_drewN ?_ _ | with_reducible refine B_set ?_ (by simp; omega) _))) (hei.keep (m := w.heap.size) (by repeat (first | exact B_refl | exact Below.refl _ _ | assumption | with_reducible refine B_alloc ?_ _ | with_reducible refine B_ext ?_ _ | with_reducible refine B_drew ?_ | with_reducible refine B_drewN ?_ _ | with_reducible refine B_set ?_ (by simp; omega) _)))).mono ?_; rintro e wq ⟨F, fc, rfl, hS, zo, rfl⟩))
    go_ret
    exact Ret.of rfl (by repeat (first | exact B_refl | exact Below.refl _ _ | assumption | with_reducible refine B_alloc ?_ _ | with_reducible refine B_ext ?_ _ | with_reducible refine B_drew ?_ | with_reducible refine B_drewN ?_ _ | with_reducible refine B_set ?_ (by simp; omega) _))
  have hrc := (read_check ss rs A R n c rn rc c0 c1 c2 es).1
  rw [hX] at hrc
  have hod : onDayR ss rs (bk0 A n c R rn rc c0 c1 c2) es day = (upToP ss rs day (bk0 A n c R rn rc c0 c1 c2) es, 0) := by
    unfold onDayR
    rw [hrc, hdy]
    simp
  obtain ⟨ls, hrel, hap, hll, hfind⟩ := one_place A R n c rn rc hX day
  have HON : ∀ W, YardIn W ss rs A n c R rn rc → EventsIn W es E es.length → Calls Try.prog 51 #[.agg #[.slice A n c, .slice R rn rc, .int .i64 c0, .int .i64 c1, .int .i64 c2], .slice E es.length ec, .int .i64 day] W fun e w' => ∃ F fc, e = .returned (.tuple #[.slice F ls.length fc, .int .i64 0]) ∧ Sl w' 6 Lot.cells F ls ∧ ∃ z, w' = W.ext z := by
    intro W h1 h2
    have h3 := gOn_any all_any ss rs A R n c rn rc c0 c1 c2 es E es.length ec day W h1 h2
    rw [hod] at h3
    refine h3.mono ?_
    rintro e w' ⟨F, fc, L, rfl, _, hL, hS, z, rfl⟩
    obtain ⟨hp, hu⟩ := hL rfl
    obtain rfl := rel_all hrel hp hu
    exact ⟨F, fc, rfl, hS, z, rfl⟩
  have hasc := hrel.asc
  have HPAIR : Hid (∀ i k (hi : i < ls.length) (hk : k < ls.length), k < i → (ls[i].remain.toList == ls[k].remain.toList) = false ∧ ((ls[i].state == 1) = true → (ls[k].state == 1) = true → (ls[i].site.toList == ls[k].site.toList) = true → (ls[i].level == ls[k].level) = false)) := by
    intro i k hi hk hki
    have h1 := List.pairwise_iff_getElem.1 hasc k i hk hi hki
    have hne : ls[i].remain ≠ ls[k].remain := by
      intro e
      rw [e, lessS_irr] at h1
      cases h1
    refine ⟨?_, fun h3 h4 h5 => ?_⟩
    · rw [beq_eq_false_iff_ne]
      exact fun e => hne (bytes_ext e)
    · rw [beq_eq_false_iff_ne]
      intro h6
      exact hne (congrArg Lot.remain (hap _ (List.getElem_mem hi) _ (List.getElem_mem hk) (by simpa using h3) (by simpa using h4) (bytes_ext (eq_of_beq h5)) h6))
  have HFIND := Lib.hid hfind
  have HASC := Lib.hid hasc
  have hel3 : es.length ≤ 100000 := hei.l1
  have hll2 : ¬ ((es.length : Int) < (ls.length : Int)) := by omega
  have hl5 : ls.length ≤ 100000 := by omega
  clear hrc hod hrel hap hfind hX hX0 hasc
  go_wp2_with (first
                | (go_at_call 12; refine (awake_any _).mono ?_; rintro e wq ⟨rfl, za, rfl⟩)
                | (go_at_call 13; refine (small_any ss rs _ _ _ _ _ _ _ _ _ _ (hy.keep (m := w.heap.size) (by repeat (first | exact B_refl | exact Below.refl _ _ | assumption | with_reducible refine B_alloc ?_ _ | with_reducible refine B_ext ?_ _ | with_reducible refine B_drew ?_ | with_reducible refine B_drewN ?_ _ | with_reducible refine B_set ?_ (by simp; omega) _)))).mono ?_; rintro e wq ⟨rfl, zs, rfl⟩; rw [hsm])
                | (go_at_call 19; refine (few_any es _ _ _ _ (hev.keep (m := w.heap.size) (by repeat (first | exact B_refl | exact Below.refl _ _ | assumption | with_reducible refine B_alloc ?_ _ | with_reducible refine B_ext ?_ _ | with_reducible refine B_drew ?_ | with_reducible refine B_drewN ?_ _ | with_reducible refine B_set ?_ (by simp; omega) _)))).mono ?_; rintro e wq ⟨rfl, zf, rfl⟩; rw [hfw])
                | (go_at_call 20; refine (rCheck_any ss rs _ _ _ _ _ _ _ _ _ es _ _ _ _ (hyi.keep (m := w.heap.size) (by repeat (first | exact B_refl | exact Below.refl _ _ | assumption | with_reducible refine B_alloc ?_ _ | with_reducible refine B_ext ?_ _ | with_reducible refine B_drew ?_ | with_reducible refine B_drewN ?_ _ | with_reducible refine B_set ?_ (by simp; omega) _))) (hei.keep (m := w.heap.size) (by repeat (first | exact B_refl | exact Below.refl _ _ | assumption | with_reducible refine B_alloc ?_ _ | with_reducible refine B_ext ?_ _ | with_reducible refine B_drew ?_ | with_reducible refine B_drewN ?_ _ | with_reducible refine B_set ?_ (by simp; omega) _)))).mono ?_; rintro e wq ⟨rfl, zk, rfl⟩; rw [HCK.out])
                | (go_at_call 21; refine (rIsDay_any _ _).mono ?_; rintro e wq ⟨rfl, rfl⟩; rw [hdy])
                | (go_at_call 51; refine (HON _ (hyi.keep (m := w.heap.size) (by repeat (first | exact B_refl | exact Below.refl _ _ | assumption | with_reducible refine B_alloc ?_ _ | with_reducible refine B_ext ?_ _ | with_reducible refine B_drew ?_ | with_reducible refine B_drewN ?_ _ | with_reducible refine B_set ?_ (by simp; omega) _))) (hei.keep (m := w.heap.size) (by repeat (first | exact B_refl | exact Below.refl _ _ | assumption | with_reducible refine B_alloc ?_ _ | with_reducible refine B_ext ?_ _ | with_reducible refine B_drew ?_ | with_reducible refine B_drewN ?_ _ | with_reducible refine B_set ?_ (by simp; omega) _)))).mono ?_; rintro e wq ⟨F, fc, rfl, hS, zo, rfl⟩))
  generalize hW0 : World.ext (World.ext (World.ext (World.ext (World.ext (w.alloc (.cells #[.slice A n c, .slice R rn rc, .int .i64 c0, .int .i64 c1, .int .i64 c2] 26)) za) zs) zf) zk) zo = W0 at *
  have hB : Below w.heap.size w W0 := by rw [← hW0]; repeat (first | exact B_refl | exact Below.refl _ _ | assumption | with_reducible refine B_alloc ?_ _ | with_reducible refine B_ext ?_ _ | with_reducible refine B_drew ?_ | with_reducible refine B_drewN ?_ _ | with_reducible refine B_set ?_ (by simp; omega) _)
  have hblk : W0.heap[w.heap.size]? = some (.cells #[.slice A n c, .slice R rn rc, .int .i64 c0, .int .i64 c1, .int .i64 c2] 26) := by rw [← hW0]; (repeat (first | with_reducible exact G_new _ _ _ (by simp) | with_reducible exact G_new _ _ _ (by simp [ext_size]) | with_reducible refine G_drew ?_ | with_reducible refine G_ext ?_ | with_reducible refine G_alloc ?_))
  have hz := blk_lt hblk
  have hSE := hei.sl.keep hB
  clear hW0 hblk HON hy hev hyi hei hsm hfw HCK
  go_loopw [9, 10] (fun i _ wr => ∃ j : Nat, j ≤ ls.length ∧ i = .int .i64 j ∧ ∃ z, wr = W0.ext z) (fun i _ _ => ls.length - (intOf i).toNat)
  case atStart => exact ⟨0, Nat.zero_le _, rfl, ext_below (Below.refl _ _)⟩
  case round =>
    obtain ⟨j, hj, rfl, z, rfl⟩ := hrel
    by_cases hlt : j < ls.length
    · obtain ⟨b, off, rfl, hb, hc⟩ := hS.at hlt
      have hlt2 : (j : Int) < (ls.length : Int) := by omega
      have hj0 : (0 : Int) ≤ (j : Int) := by omega
      have x0 : W0.cell? ⟨b, off + j * 6, none⟩ = some (.string ls[j].remain) := hc 0 _ rfl
      have x1 : W0.cell? ⟨b, off + j * 6 + 1, none⟩ = some (.int .i64 ls[j].state) := hc 1 _ rfl
      have x2 : W0.cell? ⟨b, off + j * 6 + 2, none⟩ = some (.string ls[j].site) := hc 2 _ rfl
      have x3 : W0.cell? ⟨b, off + j * 6 + 3, none⟩ = some (.int .i64 ls[j].level) := hc 3 _ rfl
      have HJ := Lib.hid (fun k hk hkj => HPAIR.out j k hlt hk hkj)
      clear hc
      generalize ls[j] = x at *
      go_wp2_with fail
      go_loopw [10] (fun k wr => ∃ i : Nat, i ≤ j ∧ k = .int .i64 i ∧ ∃ z, wr = W0.ext z) (fun k _ => j - (intOf k).toNat)
      case atStart => exact ⟨0, Nat.zero_le _, rfl, ext_below (by repeat (first | exact B_refl | exact Below.refl _ _ | assumption | with_reducible refine B_alloc ?_ _ | with_reducible refine B_ext ?_ _ | with_reducible refine B_drew ?_ | with_reducible refine B_drewN ?_ _ | with_reducible refine B_set ?_ (by simp; omega) _))⟩
      case round =>
        obtain ⟨i, hi, rfl, zi, rfl⟩ := hrel
        by_cases hij : i < j
        · have hil : i < ls.length := by omega
          obtain ⟨b', off', hbb, _, hc'⟩ := hS.at hil
          simp only [Option.some.injEq, Addr.mk.injEq, and_true] at hbb
          obtain ⟨rfl, rfl⟩ := hbb
          have y0 : W0.cell? ⟨b, off + i * 6, none⟩ = some (.string ls[i].remain) := hc' 0 _ rfl
          have y1 : W0.cell? ⟨b, off + i * 6 + 1, none⟩ = some (.int .i64 ls[i].state) := hc' 1 _ rfl
          have y2 : W0.cell? ⟨b, off + i * 6 + 2, none⟩ = some (.string ls[i].site) := hc' 2 _ rfl
          have y3 : W0.cell? ⟨b, off + i * 6 + 3, none⟩ = some (.int .i64 ls[i].level) := hc' 3 _ rfl
          obtain ⟨p1, p2⟩ := HJ.out i hil hij
          have hij2 : (i : Int) < (j : Int) := by omega
          have hi2 : (i : Int) < (ls.length : Int) := by omega
          have hi0 : (0 : Int) ≤ (i : Int) := by omega
          clear hc'
          generalize ls[i] = y at *
          have HP2 := Lib.hid p2
          clear p2
          cases q1 : (x.state == 1)
          · go_wp2_with fail
            (refine wp_region_ext_lit (by kernel_rfl) (by kernel_rfl) ?_
             repeat (first | go_big_quiet_skip | (go_big_quiet_want; go_big_quiet_op; first | go_big_quiet_on | (apply Exists.intro; refine ⟨fun _ => ?_, ?_⟩; (fail); go_big_quiet_on)))
             refine wpQuiet_nil ?_
             rintro _ ⟨zq, rfl⟩)
            go_wp2_with fail
            go_roundw
            case rel => exact ⟨i + 1, by omega, by go_num, ext_below (by repeat (first | exact B_refl | exact Below.refl _ _ | assumption | with_reducible refine B_alloc ?_ _ | with_reducible refine B_ext ?_ _ | with_reducible refine B_drew ?_ | with_reducible refine B_drewN ?_ _ | with_reducible refine B_set ?_ (by simp; omega) _))⟩
            case measure => simp [intOf]; omega
          · cases q2 : (y.state == 1)
            · go_wp2_with fail
              (refine wp_region_ext_lit (by kernel_rfl) (by kernel_rfl) ?_
               repeat (first | go_big_quiet_skip | (go_big_quiet_want; go_big_quiet_op; first | go_big_quiet_on | (apply Exists.intro; refine ⟨fun _ => ?_, ?_⟩; (fail); go_big_quiet_on)))
               refine wpQuiet_nil ?_
               rintro _ ⟨zq, rfl⟩)
              go_wp2_with fail
              go_roundw
              case rel => exact ⟨i + 1, by omega, by go_num, ext_below (by repeat (first | exact B_refl | exact Below.refl _ _ | assumption | with_reducible refine B_alloc ?_ _ | with_reducible refine B_ext ?_ _ | with_reducible refine B_drew ?_ | with_reducible refine B_drewN ?_ _ | with_reducible refine B_set ?_ (by simp; omega) _))⟩
              case measure => simp [intOf]; omega
            · cases q3 : (x.site.toList == y.site.toList)
              · go_wp2_with fail
                (refine wp_region_ext_lit (by kernel_rfl) (by kernel_rfl) ?_
                 repeat (first | go_big_quiet_skip | (go_big_quiet_want; go_big_quiet_op; first | go_big_quiet_on | (apply Exists.intro; refine ⟨fun _ => ?_, ?_⟩; (fail); go_big_quiet_on)))
                 refine wpQuiet_nil ?_
                 rintro _ ⟨zq, rfl⟩)
                go_wp2_with fail
                go_roundw
                case rel => exact ⟨i + 1, by omega, by go_num, ext_below (by repeat (first | exact B_refl | exact Below.refl _ _ | assumption | with_reducible refine B_alloc ?_ _ | with_reducible refine B_ext ?_ _ | with_reducible refine B_drew ?_ | with_reducible refine B_drewN ?_ _ | with_reducible refine B_set ?_ (by simp; omega) _))⟩
                case measure => simp [intOf]; omega
              · have q4 := HP2.out q1 q2 q3
                go_wp2_with fail
                (refine wp_region_ext_lit (by kernel_rfl) (by kernel_rfl) ?_
                 repeat (first | go_big_quiet_skip | (go_big_quiet_want; go_big_quiet_op; first | go_big_quiet_on | (apply Exists.intro; refine ⟨fun _ => ?_, ?_⟩; (fail); go_big_quiet_on)))
                 refine wpQuiet_nil ?_
                 rintro _ ⟨zq, rfl⟩)
                go_wp2_with fail
                go_roundw
                case rel => exact ⟨i + 1, by omega, by go_num, ext_below (by repeat (first | exact B_refl | exact Below.refl _ _ | assumption | with_reducible refine B_alloc ?_ _ | with_reducible refine B_ext ?_ _ | with_reducible refine B_drew ?_ | with_reducible refine B_drewN ?_ _ | with_reducible refine B_set ?_ (by simp; omega) _))⟩
                case measure => simp [intOf]; omega
        · go_wp2_with fail
          go_roundw
          case rel => exact ⟨j + 1, by omega, by go_num, ext_below (by repeat (first | exact B_refl | exact Below.refl _ _ | assumption | with_reducible refine B_alloc ?_ _ | with_reducible refine B_ext ?_ _ | with_reducible refine B_drew ?_ | with_reducible refine B_drewN ?_ _ | with_reducible refine B_set ?_ (by simp; omega) _))⟩
          case measure => simp [intOf]; omega
    · go_wp2_with fail
      go_loopw [11, 12, 13] (fun i _ _ wr => ∃ j : Nat, j ≤ es.length ∧ i = .int .i64 j ∧ ∃ z, wr = W0.ext z) (fun i _ _ _ => es.length - (intOf i).toNat)
      case atStart => exact ⟨0, Nat.zero_le _, rfl, ext_below (by repeat (first | exact B_refl | exact Below.refl _ _ | assumption | with_reducible refine B_alloc ?_ _ | with_reducible refine B_ext ?_ _ | with_reducible refine B_drew ?_ | with_reducible refine B_drewN ?_ _ | with_reducible refine B_set ?_ (by simp; omega) _))⟩
      case round =>
        obtain ⟨m, hm, rfl, zm, rfl⟩ := hrel
        by_cases hmt : m < es.length
        · obtain ⟨b, off, rfl, hb, hc⟩ := hSE.at hmt
          have hm2 : (m : Int) < (es.length : Int) := by omega
          have hm0 : (0 : Int) ≤ (m : Int) := by omega
          have x0 : W0.cell? ⟨b, off + m * 7, none⟩ = some (.int .i64 es[m].day) := hc 0 _ rfl
          have x1 : W0.cell? ⟨b, off + m * 7 + 1, none⟩ = some (.int .i64 es[m].kind) := hc 1 _ rfl
          have x4 : W0.cell? ⟨b, off + m * 7 + 4, none⟩ = some (.string es[m].remain) := hc 4 _ rfl
          have HX := Lib.hid (HFIND.out es[m] (List.getElem_mem hmt))
          clear hc
          generalize es[m] = x at *
          go_wp2_with fail
          go_loopw [12, 13] (fun h k wr => ∃ i : Nat, i ≤ ls.length ∧ k = .int .i64 i ∧ h = .int .i64 ((ls.take i).countP fun t => t.remain.toList == x.remain.toList) ∧ ∃ z, wr = W0.ext z) (fun _ k _ => ls.length - (intOf k).toNat)
          case atStart => exact ⟨0, Nat.zero_le _, rfl, rfl, ext_below (by repeat (first | exact B_refl | exact Below.refl _ _ | assumption | with_reducible refine B_alloc ?_ _ | with_reducible refine B_ext ?_ _ | with_reducible refine B_drew ?_ | with_reducible refine B_drewN ?_ _ | with_reducible refine B_set ?_ (by simp; omega) _))⟩
          case round =>
            obtain ⟨i, hi, rfl, rfl, zi, rfl⟩ := hrel
            by_cases hil : i < ls.length
            · obtain ⟨b', off', hbb, _, hc'⟩ := hS.at hil
              have y0 : W0.cell? ⟨b', off' + i * 6, none⟩ = some (.string ls[i].remain) := hc' 0 _ rfl
              have hi2 : (i : Int) < (ls.length : Int) := by omega
              have hi0 : (0 : Int) ≤ (i : Int) := by omega
              have hct : (ls.take (i + 1)).countP (fun t => t.remain.toList == x.remain.toList) = (ls.take i).countP (fun t => t.remain.toList == x.remain.toList) + if (ls[i].remain.toList == x.remain.toList) = true then 1 else 0 := by
                rw [List.take_succ_eq_append_getElem hil, List.countP_append, List.countP_singleton]
              have hcl : (ls.take i).countP (fun t => t.remain.toList == x.remain.toList) ≤ 100000 := by
                have := List.countP_le_length (p := fun t : Lot => t.remain.toList == x.remain.toList) (l := ls.take i)
                simp at this
                omega
              have HCT := Lib.hid hct
              clear hc' hct
              subst hbb
              generalize (ls.take i).countP (fun t => t.remain.toList == x.remain.toList) = cn at *
              generalize ls[i] = y at *
              cases hq : (y.remain.toList == x.remain.toList)
              · go_wp2_with fail
                (refine wp_region_ext_lit (by kernel_rfl) (by kernel_rfl) ?_
                 repeat (first | go_big_quiet_skip | (go_big_quiet_want; go_big_quiet_op; first | go_big_quiet_on | (apply Exists.intro; refine ⟨fun _ => ?_, ?_⟩; (fail); go_big_quiet_on)))
                 refine wpQuiet_nil ?_
                 rintro _ ⟨zq, rfl⟩)
                go_wp2_with fail
                go_roundw
                case rel => exact ⟨i + 1, by omega, by go_num, by rw [HCT.out, hq]; rfl, ext_below (by repeat (first | exact B_refl | exact Below.refl _ _ | assumption | with_reducible refine B_alloc ?_ _ | with_reducible refine B_ext ?_ _ | with_reducible refine B_drew ?_ | with_reducible refine B_drewN ?_ _ | with_reducible refine B_set ?_ (by simp; omega) _))⟩
                case measure => simp [intOf]; omega
              · go_wp2_with fail
                (refine wp_region_ext_lit (by kernel_rfl) (by kernel_rfl) ?_
                 repeat (first | go_big_quiet_skip | (go_big_quiet_want; go_big_quiet_op; first | go_big_quiet_on | (apply Exists.intro; refine ⟨fun _ => ?_, ?_⟩; (fail); go_big_quiet_on)))
                 refine wpQuiet_nil ?_
                 rintro _ ⟨zq, rfl⟩)
                go_wp2_with fail
                go_roundw
                case rel => exact ⟨i + 1, by omega, by go_num, by rw [HCT.out, hq, if_pos rfl]; go_num, ext_below (by repeat (first | exact B_refl | exact Below.refl _ _ | assumption | with_reducible refine B_alloc ?_ _ | with_reducible refine B_ext ?_ _ | with_reducible refine B_drew ?_ | with_reducible refine B_drewN ?_ _ | with_reducible refine B_set ?_ (by simp; omega) _))⟩
                case measure => simp [intOf]; omega
            · have hil2 : i = ls.length := by omega
              subst hil2
              rw [List.take_length]
              have hcn : (x.day ≤ day → ls.countP (fun t => t.remain.toList == x.remain.toList) = 1) ∧ (x.kind = 0 → day < x.day → ls.countP (fun t => t.remain.toList == x.remain.toList) = 0) :=
                ⟨fun h => cnt_asc HASC.out (HX.out.1 h), fun h1 h2 => cnt_none (HX.out.2 h1 h2)⟩
              generalize ls.countP (fun t => t.remain.toList == x.remain.toList) = cn at *
              by_cases hd : x.day ≤ day
              · have hcn1 := hcn.1 hd
                subst hcn1
                clear hcn
                have hd2 : ¬ (day < x.day) := by omega
                have hd3 : decide (day < x.day) = false := by simpa using hd
                have hd4 : decide (x.day ≤ day) = true := by simpa using hd
                by_cases hk : x.kind = 0
                · have hk2 : (x.kind == 0) = true := by simpa using hk
                  go_wp2_with fail
                  go_roundw
                  case rel => exact ⟨m + 1, by omega, by go_num, ext_below (by repeat (first | exact B_refl | exact Below.refl _ _ | assumption | with_reducible refine B_alloc ?_ _ | with_reducible refine B_ext ?_ _ | with_reducible refine B_drew ?_ | with_reducible refine B_drewN ?_ _ | with_reducible refine B_set ?_ (by simp; omega) _))⟩
                  case measure => simp [intOf]; omega
                · have hk2 : (x.kind == 0) = false := by simpa using hk
                  go_wp2_with fail
                  go_roundw
                  case rel => exact ⟨m + 1, by omega, by go_num, ext_below (by repeat (first | exact B_refl | exact Below.refl _ _ | assumption | with_reducible refine B_alloc ?_ _ | with_reducible refine B_ext ?_ _ | with_reducible refine B_drew ?_ | with_reducible refine B_drewN ?_ _ | with_reducible refine B_set ?_ (by simp; omega) _))⟩
                  case measure => simp [intOf]; omega
              · have hd3 : decide (day < x.day) = true := by simp; omega
                have hd4 : decide (x.day ≤ day) = false := by simpa using hd
                by_cases hk : x.kind = 0
                · have hk2 : (x.kind == 0) = true := by simpa using hk
                  have hcn1 := hcn.2 hk (by omega)
                  subst hcn1
                  clear hcn
                  go_wp2_with fail
                  go_roundw
                  case rel => exact ⟨m + 1, by omega, by go_num, ext_below (by repeat (first | exact B_refl | exact Below.refl _ _ | assumption | with_reducible refine B_alloc ?_ _ | with_reducible refine B_ext ?_ _ | with_reducible refine B_drew ?_ | with_reducible refine B_drewN ?_ _ | with_reducible refine B_set ?_ (by simp; omega) _))⟩
                  case measure => simp [intOf]; omega
                · have hk2 : (x.kind == 0) = false := by simpa using hk
                  clear hcn
                  go_wp2_with fail
                  go_roundw
                  case rel => exact ⟨m + 1, by omega, by go_num, ext_below (by repeat (first | exact B_refl | exact Below.refl _ _ | assumption | with_reducible refine B_alloc ?_ _ | with_reducible refine B_ext ?_ _ | with_reducible refine B_drew ?_ | with_reducible refine B_drewN ?_ _ | with_reducible refine B_set ?_ (by simp; omega) _))⟩
                  case measure => simp [intOf]; omega
        · go_wp2_with fail
          go_ret
          exact Ret.of rfl (by repeat (first | exact B_refl | exact Below.refl _ _ | assumption | with_reducible refine B_alloc ?_ _ | with_reducible refine B_ext ?_ _ | with_reducible refine B_drew ?_ | with_reducible refine B_drewN ?_ _ | with_reducible refine B_set ?_ (by simp; omega) _))
end Go.Proofs.Ytmiobhlgpjjbgaa
