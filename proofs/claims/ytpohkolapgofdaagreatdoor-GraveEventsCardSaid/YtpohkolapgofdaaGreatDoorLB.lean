/- Walk of the reference: the lots behind an event, or its error. -/
import Derived.Test.YtpohkolapgofdaaGreatDoorL9
import Derived.Test.YtpohkolapgofdaaGreatDoorLE
namespace Go.Proofs.YtpohkolapgofdaaGreatDoor
open Go.RowKit
attribute [local go_sem] World.cell?_alloc_mark ext_size ext_cell ext_frozen lt_add_r lt_add_r2 lt_add_r3 lt_add_r4 lt_add_r5 lt_add_r6 lt_add_r7 lt_add_r8

theorem rPlaceP_site {c0 c1 c2 : Int} {ss : List Site} {ls : List Lot} {si : ByteArray} {l c : Int} (h : rPlaceP c0 c1 c2 ss ls si l c = 0) : ∃ s, findSite si ss = some s := by
  unfold rPlaceP at h
  cases hf : findSite si ss with
  | none => rw [hf] at h; cases h
  | some s => exact ⟨s, rfl⟩
theorem rErr_put {c0 c1 c2 : Int} {ss : List Site} {rs : List Rest} {ls : List Lot} {e : Event} (h : rErrP c0 c1 c2 ss rs ls e = 0) (hk : e.kind = 0 ∨ e.kind = 2) : ∃ s, findSite e.site ss = some s := by
  unfold rErrP at h
  rw [if_pos (by simpa using hk)] at h
  unfold rPutP at h
  split at h
  · cases h
  split at h
  · cases h
  split at h
  · cases h
  · exact rPlaceP_site h
theorem rErr_low {c0 c1 c2 : Int} {ss : List Site} {rs : List Rest} {ls : List Lot} {e : Event} (h : rErrP c0 c1 c2 ss rs ls e = 0) (hk : e.kind = 3) : ∃ t, findLot e.remain ls = some t := by
  unfold rErrP at h
  rw [if_neg (by simp [hk])] at h
  unfold rTakeP at h
  cases hf : findLot e.remain ls with
  | none => rw [hf] at h; cases h
  | some t => exact ⟨t, rfl⟩
def NextPost (w : World) (r : List Lot × Int) : Ending → World → Prop := ListPost w 107 6 (r.1.flatMap Lot.cells, r.1.length) r.2

theorem NextPost.none {w w' : World} {c : Int} (h : Below w.heap.size w w') : NextPost w ([], c) (.returned (.tuple #[.slice none 0 0, .int .i64 c])) w' := ListPost.none h
theorem NextPost.bad {w w' : World} {p : List Lot × Int} {e : Ending} (h : NextPost w p e w') : ∃ A c z, e = .returned (.tuple #[.slice A p.1.length c, .int .i64 p.2]) ∧ w' = w.ext z ∧ w'.ownsRow w.heap.size 107 6 (.slice A p.1.length c) p.1.length (p.1.flatMap Lot.cells) ∧ Sl w' 6 Lot.cells A p.1 ∧ p.1.length ≤ c := by
  obtain ⟨v, rfl, hown, z, rfl⟩ := h
  obtain ⟨A, c, rfl, hS, hc⟩ := own_sl lot_len hown
  exact ⟨A, c, z, rfl, rfl, hown, hS, hc⟩
set_option maxRecDepth 100000 in
set_option maxHeartbeats 2000000 in
theorem rNext_any (ss : List Site) (rs : List Rest) (A R : Option Addr) (n c rn rc : Nat) (c0 c1 c2 : Int) (ls : List Lot) (L : Option Addr) (ln lc : Nat) (last dy kd : Int) (si : ByteArray) (lv : Int) (rm : ByteArray) (co : Int) (o : Bool) (w : World) (hy : YardIn w ss rs A n c R rn rc) (hl : LotsIn w ls L ln) (hcap : ls.length ≤ lc) (hl2 : ls.length ≤ 10000)
    (hr : ∀ s ∈ ss, s.room ≤ 100000) (hst : ∀ t ∈ ls, t.state = 1 → (∃ s, findSite t.site ss = some s) ∧ 0 ≤ t.level ∧ t.level ≤ 100000) (hs1 : si.size ≤ 100000) (hs2 : rm.size ≤ 100000) :
    Calls Tryz.prog 80 #[.agg #[.slice A n c, .slice R rn rc, .int .i64 c0, .int .i64 c1, .int .i64 c2], .slice L ln lc, .int .i64 last, .agg #[.int .i64 dy, .int .i64 kd, .string si, .int .i64 lv, .string rm, .int .i64 co, .bool o]] w (NextPost w (rNextP c0 c1 c2 ss rs ls last ⟨dy, kd, si, lv, rm, co, o⟩)) := by
  have HS := Lib.hid hs1
  have HM := Lib.hid hs2
  clear hs1 hs2
  go_enter Tryz.func80, Tryz.ntmps80
  by_cases hce : checkEventP ⟨dy, kd, si, lv, rm, co, o⟩ = 0
  · obtain ⟨k1, k2, d1, d2, hput, hlow⟩ := checkEvent_ok hce
    dsimp only at k1 k2 d1 d2 hput hlow
    by_cases hday : dy < last
    · have hX : rNextP c0 c1 c2 ss rs ls last ⟨dy, kd, si, lv, rm, co, o⟩ = ([], 9) := by rw [rNextP, if_neg (by simp [hce]), if_pos (by simpa using hday)]
      rw [hX]
      clear hX
      go_wp2_with (first
                      | (go_at_call 9; refine (rCheckEvent_any _ _ _ _ _ _ _ _ HS.out HM.out).mono ?_; rintro e wq ⟨rfl, zc, rfl⟩; rw [hce])
                      | (go_at_call 98; refine (rPut_any ss rs _ _ _ _ _ _ _ _ _ ls _ _ _ _ _ _ _ _ _ _ _ (hy.keep (m := w.heap.size) (by repeat (first | exact B_refl | exact Below.refl _ _ | assumption | with_reducible refine B_alloc ?_ _ | with_reducible refine B_ext ?_ _ | with_reducible refine B_drew ?_ | with_reducible refine B_drewN ?_ _ | with_reducible refine B_set ?_ (by simp; omega) _))) (hl.keep (m := w.heap.size) (by repeat (first | exact B_refl | exact Below.refl _ _ | assumption | with_reducible refine B_alloc ?_ _ | with_reducible refine B_ext ?_ _ | with_reducible refine B_drew ?_ | with_reducible refine B_drewN ?_ _ | with_reducible refine B_set ?_ (by simp; omega) _))) hr (by first | exact .inl rfl | exact .inr rfl) kp.1 kp.2.1 kp.2.2.1 kp.2.2.2).mono ?_; rintro e wq ⟨rfl, zp, rfl⟩; rw [HP.out])
                      | (go_at_call 99; refine (rTake_any ss rs _ _ _ _ _ _ _ _ _ ls _ _ _ _ _ _ _ _ _ _ _ (hy.keep (m := w.heap.size) (by repeat (first | exact B_refl | exact Below.refl _ _ | assumption | with_reducible refine B_alloc ?_ _ | with_reducible refine B_ext ?_ _ | with_reducible refine B_drew ?_ | with_reducible refine B_drewN ?_ _ | with_reducible refine B_set ?_ (by simp; omega) _))) (hl.keep (m := w.heap.size) (by repeat (first | exact B_refl | exact Below.refl _ _ | assumption | with_reducible refine B_alloc ?_ _ | with_reducible refine B_ext ?_ _ | with_reducible refine B_drew ?_ | with_reducible refine B_drewN ?_ _ | with_reducible refine B_set ?_ (by simp; omega) _))) hr hst kt).mono ?_; rintro e wq ⟨rfl, zp, rfl⟩; rw [HP.out])
                      | (go_at_call 101; refine (rLotOf_any ss rs _ _ _ _ _ _ _ _ _ ls _ _ _ _ _ _ _ _ _ _ _ (hy.keep (m := w.heap.size) (by repeat (first | exact B_refl | exact Below.refl _ _ | assumption | with_reducible refine B_alloc ?_ _ | with_reducible refine B_ext ?_ _ | with_reducible refine B_drew ?_ | with_reducible refine B_drewN ?_ _ | with_reducible refine B_set ?_ (by simp; omega) _))) (hl.keep (m := w.heap.size) (by repeat (first | exact B_refl | exact Below.refl _ _ | assumption | with_reducible refine B_alloc ?_ _ | with_reducible refine B_ext ?_ _ | with_reducible refine B_drew ?_ | with_reducible refine B_drewN ?_ _ | with_reducible refine B_set ?_ (by simp; omega) _))) (by omega) (by omega) (fun h => by first | exact HPU.out | (exfalso; omega)) (fun h => by first | exact HLO.out h | (exfalso; omega))).mono ?_; rintro e wq ⟨rfl, zl, rfl⟩; rw [HLT.out]; unfold Lot.v)
                      | (go_at_call 100; refine (rWith_any ls _ _ _ _ _ _ _ _ _ _ (hl.keep (m := w.heap.size) (by repeat (first | exact B_refl | exact Below.refl _ _ | assumption | with_reducible refine B_alloc ?_ _ | with_reducible refine B_ext ?_ _ | with_reducible refine B_drew ?_ | with_reducible refine B_drewN ?_ _ | with_reducible refine B_set ?_ (by simp; omega) _))) hcap hl2).mono ?_; rintro e wq ⟨v, rfl, hown, zw, rfl⟩))
      go_ret2
      exact NextPost.none (by repeat (first | exact B_refl | exact Below.refl _ _ | assumption | with_reducible refine B_alloc ?_ _ | with_reducible refine B_ext ?_ _ | with_reducible refine B_drew ?_ | with_reducible refine B_drewN ?_ _ | with_reducible refine B_set ?_ (by simp; omega) _))
    · by_cases hp : kd = 0 ∨ kd = 2
      · have HP : Hid (rPutP c0 c1 c2 ss ls kd si lv rm co = rErrP c0 c1 c2 ss rs ls ⟨dy, kd, si, lv, rm, co, o⟩) := by
          show _ = _
          rw [rErrP, if_pos (by simpa using hp)]
        have kp : 0 ≤ lv ∧ lv ≤ 100000 ∧ 0 ≤ co ∧ co ≤ 2 := by have := hput hp; omega
        clear hput hlow d1 d2 k1 k2
        rcases hp with rfl | rfl
        ·
          cases her : (rErrP c0 c1 c2 ss rs ls ⟨dy, 0, si, lv, rm, co, o⟩ != 0)
          · have her0 : rErrP c0 c1 c2 ss rs ls ⟨dy, 0, si, lv, rm, co, o⟩ = 0 := by simpa using her
            have HPU := Lib.hid (rErr_put her0 (.inl rfl))
            have HX : Hid (rNextP c0 c1 c2 ss rs ls last ⟨dy, 0, si, lv, rm, co, o⟩ = (rWithP (rLotP ss ls ⟨dy, 0, si, lv, rm, co, o⟩) ls, 0)) := by
              show _ = _
              rw [rNextP, if_neg (by simp [hce]), if_neg (by simpa using hday), if_neg (by rw [her]; exact Bool.false_ne_true)]
            rw [her0] at HP
            obtain ⟨⟨lrm, lst, lsi, llv, lco, lsc⟩, hlt⟩ : ∃ l, rLotP ss ls ⟨dy, 0, si, lv, rm, co, o⟩ = l := ⟨_, rfl⟩
            have HLT := Lib.hid hlt
            clear her her0 hlt
            generalize rNextP c0 c1 c2 ss rs ls last ⟨dy, 0, si, lv, rm, co, o⟩ = Y at *
            go_wp2_with (first
                            | (go_at_call 9; refine (rCheckEvent_any _ _ _ _ _ _ _ _ HS.out HM.out).mono ?_; rintro e wq ⟨rfl, zc, rfl⟩; rw [hce])
                            | (go_at_call 98; refine (rPut_any ss rs _ _ _ _ _ _ _ _ _ ls _ _ _ _ _ _ _ _ _ _ _ (hy.keep (m := w.heap.size) (by repeat (first | exact B_refl | exact Below.refl _ _ | assumption | with_reducible refine B_alloc ?_ _ | with_reducible refine B_ext ?_ _ | with_reducible refine B_drew ?_ | with_reducible refine B_drewN ?_ _ | with_reducible refine B_set ?_ (by simp; omega) _))) (hl.keep (m := w.heap.size) (by repeat (first | exact B_refl | exact Below.refl _ _ | assumption | with_reducible refine B_alloc ?_ _ | with_reducible refine B_ext ?_ _ | with_reducible refine B_drew ?_ | with_reducible refine B_drewN ?_ _ | with_reducible refine B_set ?_ (by simp; omega) _))) hr (by first | exact .inl rfl | exact .inr rfl) kp.1 kp.2.1 kp.2.2.1 kp.2.2.2).mono ?_; rintro e wq ⟨rfl, zp, rfl⟩; rw [HP.out])
                            | (go_at_call 99; refine (rTake_any ss rs _ _ _ _ _ _ _ _ _ ls _ _ _ _ _ _ _ _ _ _ _ (hy.keep (m := w.heap.size) (by repeat (first | exact B_refl | exact Below.refl _ _ | assumption | with_reducible refine B_alloc ?_ _ | with_reducible refine B_ext ?_ _ | with_reducible refine B_drew ?_ | with_reducible refine B_drewN ?_ _ | with_reducible refine B_set ?_ (by simp; omega) _))) (hl.keep (m := w.heap.size) (by repeat (first | exact B_refl | exact Below.refl _ _ | assumption | with_reducible refine B_alloc ?_ _ | with_reducible refine B_ext ?_ _ | with_reducible refine B_drew ?_ | with_reducible refine B_drewN ?_ _ | with_reducible refine B_set ?_ (by simp; omega) _))) hr hst kt).mono ?_; rintro e wq ⟨rfl, zp, rfl⟩; rw [HP.out])
                            | (go_at_call 101; refine (rLotOf_any ss rs _ _ _ _ _ _ _ _ _ ls _ _ _ _ _ _ _ _ _ _ _ (hy.keep (m := w.heap.size) (by repeat (first | exact B_refl | exact Below.refl _ _ | assumption | with_reducible refine B_alloc ?_ _ | with_reducible refine B_ext ?_ _ | with_reducible refine B_drew ?_ | with_reducible refine B_drewN ?_ _ | with_reducible refine B_set ?_ (by simp; omega) _))) (hl.keep (m := w.heap.size) (by repeat (first | exact B_refl | exact Below.refl _ _ | assumption | with_reducible refine B_alloc ?_ _ | with_reducible refine B_ext ?_ _ | with_reducible refine B_drew ?_ | with_reducible refine B_drewN ?_ _ | with_reducible refine B_set ?_ (by simp; omega) _))) (by omega) (by omega) (fun h => by first | exact HPU.out | (exfalso; omega)) (fun h => by first | exact HLO.out h | (exfalso; omega))).mono ?_; rintro e wq ⟨rfl, zl, rfl⟩; rw [HLT.out]; unfold Lot.v)
                            | (go_at_call 100; refine (rWith_any ls _ _ _ _ _ _ _ _ _ _ (hl.keep (m := w.heap.size) (by repeat (first | exact B_refl | exact Below.refl _ _ | assumption | with_reducible refine B_alloc ?_ _ | with_reducible refine B_ext ?_ _ | with_reducible refine B_drew ?_ | with_reducible refine B_drewN ?_ _ | with_reducible refine B_set ?_ (by simp; omega) _))) hcap hl2).mono ?_; rintro e wq ⟨v, rfl, hown, zw, rfl⟩))
            go_ret2
            rw [HX.out, HLT.out]
            refine ⟨_, rfl, own_mono' hown (by simp [ext_size]; omega), ext_below (by repeat (first | exact B_refl | exact Below.refl _ _ | assumption | with_reducible refine B_alloc ?_ _ | with_reducible refine B_ext ?_ _ | with_reducible refine B_drew ?_ | with_reducible refine B_drewN ?_ _ | with_reducible refine B_set ?_ (by simp; omega) _))⟩
          · have HX : Hid (rNextP c0 c1 c2 ss rs ls last ⟨dy, 0, si, lv, rm, co, o⟩ = ([], rErrP c0 c1 c2 ss rs ls ⟨dy, 0, si, lv, rm, co, o⟩)) := by
              show _ = _
              rw [rNextP, if_neg (by simp [hce]), if_neg (by simpa using hday), if_pos her]
            generalize rNextP c0 c1 c2 ss rs ls last ⟨dy, 0, si, lv, rm, co, o⟩ = Y at *
            generalize rErrP c0 c1 c2 ss rs ls ⟨dy, 0, si, lv, rm, co, o⟩ = X at *
            go_wp2_with (first
                            | (go_at_call 9; refine (rCheckEvent_any _ _ _ _ _ _ _ _ HS.out HM.out).mono ?_; rintro e wq ⟨rfl, zc, rfl⟩; rw [hce])
                            | (go_at_call 98; refine (rPut_any ss rs _ _ _ _ _ _ _ _ _ ls _ _ _ _ _ _ _ _ _ _ _ (hy.keep (m := w.heap.size) (by repeat (first | exact B_refl | exact Below.refl _ _ | assumption | with_reducible refine B_alloc ?_ _ | with_reducible refine B_ext ?_ _ | with_reducible refine B_drew ?_ | with_reducible refine B_drewN ?_ _ | with_reducible refine B_set ?_ (by simp; omega) _))) (hl.keep (m := w.heap.size) (by repeat (first | exact B_refl | exact Below.refl _ _ | assumption | with_reducible refine B_alloc ?_ _ | with_reducible refine B_ext ?_ _ | with_reducible refine B_drew ?_ | with_reducible refine B_drewN ?_ _ | with_reducible refine B_set ?_ (by simp; omega) _))) hr (by first | exact .inl rfl | exact .inr rfl) kp.1 kp.2.1 kp.2.2.1 kp.2.2.2).mono ?_; rintro e wq ⟨rfl, zp, rfl⟩; rw [HP.out])
                            | (go_at_call 99; refine (rTake_any ss rs _ _ _ _ _ _ _ _ _ ls _ _ _ _ _ _ _ _ _ _ _ (hy.keep (m := w.heap.size) (by repeat (first | exact B_refl | exact Below.refl _ _ | assumption | with_reducible refine B_alloc ?_ _ | with_reducible refine B_ext ?_ _ | with_reducible refine B_drew ?_ | with_reducible refine B_drewN ?_ _ | with_reducible refine B_set ?_ (by simp; omega) _))) (hl.keep (m := w.heap.size) (by repeat (first | exact B_refl | exact Below.refl _ _ | assumption | with_reducible refine B_alloc ?_ _ | with_reducible refine B_ext ?_ _ | with_reducible refine B_drew ?_ | with_reducible refine B_drewN ?_ _ | with_reducible refine B_set ?_ (by simp; omega) _))) hr hst kt).mono ?_; rintro e wq ⟨rfl, zp, rfl⟩; rw [HP.out])
                            | (go_at_call 101; refine (rLotOf_any ss rs _ _ _ _ _ _ _ _ _ ls _ _ _ _ _ _ _ _ _ _ _ (hy.keep (m := w.heap.size) (by repeat (first | exact B_refl | exact Below.refl _ _ | assumption | with_reducible refine B_alloc ?_ _ | with_reducible refine B_ext ?_ _ | with_reducible refine B_drew ?_ | with_reducible refine B_drewN ?_ _ | with_reducible refine B_set ?_ (by simp; omega) _))) (hl.keep (m := w.heap.size) (by repeat (first | exact B_refl | exact Below.refl _ _ | assumption | with_reducible refine B_alloc ?_ _ | with_reducible refine B_ext ?_ _ | with_reducible refine B_drew ?_ | with_reducible refine B_drewN ?_ _ | with_reducible refine B_set ?_ (by simp; omega) _))) (by omega) (by omega) (fun h => by first | exact HPU.out | (exfalso; omega)) (fun h => by first | exact HLO.out h | (exfalso; omega))).mono ?_; rintro e wq ⟨rfl, zl, rfl⟩; rw [HLT.out]; unfold Lot.v)
                            | (go_at_call 100; refine (rWith_any ls _ _ _ _ _ _ _ _ _ _ (hl.keep (m := w.heap.size) (by repeat (first | exact B_refl | exact Below.refl _ _ | assumption | with_reducible refine B_alloc ?_ _ | with_reducible refine B_ext ?_ _ | with_reducible refine B_drew ?_ | with_reducible refine B_drewN ?_ _ | with_reducible refine B_set ?_ (by simp; omega) _))) hcap hl2).mono ?_; rintro e wq ⟨v, rfl, hown, zw, rfl⟩))
            go_ret2
            rw [HX.out]
            exact NextPost.none (by repeat (first | exact B_refl | exact Below.refl _ _ | assumption | with_reducible refine B_alloc ?_ _ | with_reducible refine B_ext ?_ _ | with_reducible refine B_drew ?_ | with_reducible refine B_drewN ?_ _ | with_reducible refine B_set ?_ (by simp; omega) _))
        ·
          cases her : (rErrP c0 c1 c2 ss rs ls ⟨dy, 2, si, lv, rm, co, o⟩ != 0)
          · have her0 : rErrP c0 c1 c2 ss rs ls ⟨dy, 2, si, lv, rm, co, o⟩ = 0 := by simpa using her
            have HPU := Lib.hid (rErr_put her0 (.inr rfl))
            have HX : Hid (rNextP c0 c1 c2 ss rs ls last ⟨dy, 2, si, lv, rm, co, o⟩ = (rWithP (rLotP ss ls ⟨dy, 2, si, lv, rm, co, o⟩) ls, 0)) := by
              show _ = _
              rw [rNextP, if_neg (by simp [hce]), if_neg (by simpa using hday), if_neg (by rw [her]; exact Bool.false_ne_true)]
            rw [her0] at HP
            obtain ⟨⟨lrm, lst, lsi, llv, lco, lsc⟩, hlt⟩ : ∃ l, rLotP ss ls ⟨dy, 2, si, lv, rm, co, o⟩ = l := ⟨_, rfl⟩
            have HLT := Lib.hid hlt
            clear her her0 hlt
            generalize rNextP c0 c1 c2 ss rs ls last ⟨dy, 2, si, lv, rm, co, o⟩ = Y at *
            go_wp2_with (first
                            | (go_at_call 9; refine (rCheckEvent_any _ _ _ _ _ _ _ _ HS.out HM.out).mono ?_; rintro e wq ⟨rfl, zc, rfl⟩; rw [hce])
                            | (go_at_call 98; refine (rPut_any ss rs _ _ _ _ _ _ _ _ _ ls _ _ _ _ _ _ _ _ _ _ _ (hy.keep (m := w.heap.size) (by repeat (first | exact B_refl | exact Below.refl _ _ | assumption | with_reducible refine B_alloc ?_ _ | with_reducible refine B_ext ?_ _ | with_reducible refine B_drew ?_ | with_reducible refine B_drewN ?_ _ | with_reducible refine B_set ?_ (by simp; omega) _))) (hl.keep (m := w.heap.size) (by repeat (first | exact B_refl | exact Below.refl _ _ | assumption | with_reducible refine B_alloc ?_ _ | with_reducible refine B_ext ?_ _ | with_reducible refine B_drew ?_ | with_reducible refine B_drewN ?_ _ | with_reducible refine B_set ?_ (by simp; omega) _))) hr (by first | exact .inl rfl | exact .inr rfl) kp.1 kp.2.1 kp.2.2.1 kp.2.2.2).mono ?_; rintro e wq ⟨rfl, zp, rfl⟩; rw [HP.out])
                            | (go_at_call 99; refine (rTake_any ss rs _ _ _ _ _ _ _ _ _ ls _ _ _ _ _ _ _ _ _ _ _ (hy.keep (m := w.heap.size) (by repeat (first | exact B_refl | exact Below.refl _ _ | assumption | with_reducible refine B_alloc ?_ _ | with_reducible refine B_ext ?_ _ | with_reducible refine B_drew ?_ | with_reducible refine B_drewN ?_ _ | with_reducible refine B_set ?_ (by simp; omega) _))) (hl.keep (m := w.heap.size) (by repeat (first | exact B_refl | exact Below.refl _ _ | assumption | with_reducible refine B_alloc ?_ _ | with_reducible refine B_ext ?_ _ | with_reducible refine B_drew ?_ | with_reducible refine B_drewN ?_ _ | with_reducible refine B_set ?_ (by simp; omega) _))) hr hst kt).mono ?_; rintro e wq ⟨rfl, zp, rfl⟩; rw [HP.out])
                            | (go_at_call 101; refine (rLotOf_any ss rs _ _ _ _ _ _ _ _ _ ls _ _ _ _ _ _ _ _ _ _ _ (hy.keep (m := w.heap.size) (by repeat (first | exact B_refl | exact Below.refl _ _ | assumption | with_reducible refine B_alloc ?_ _ | with_reducible refine B_ext ?_ _ | with_reducible refine B_drew ?_ | with_reducible refine B_drewN ?_ _ | with_reducible refine B_set ?_ (by simp; omega) _))) (hl.keep (m := w.heap.size) (by repeat (first | exact B_refl | exact Below.refl _ _ | assumption | with_reducible refine B_alloc ?_ _ | with_reducible refine B_ext ?_ _ | with_reducible refine B_drew ?_ | with_reducible refine B_drewN ?_ _ | with_reducible refine B_set ?_ (by simp; omega) _))) (by omega) (by omega) (fun h => by first | exact HPU.out | (exfalso; omega)) (fun h => by first | exact HLO.out h | (exfalso; omega))).mono ?_; rintro e wq ⟨rfl, zl, rfl⟩; rw [HLT.out]; unfold Lot.v)
                            | (go_at_call 100; refine (rWith_any ls _ _ _ _ _ _ _ _ _ _ (hl.keep (m := w.heap.size) (by repeat (first | exact B_refl | exact Below.refl _ _ | assumption | with_reducible refine B_alloc ?_ _ | with_reducible refine B_ext ?_ _ | with_reducible refine B_drew ?_ | with_reducible refine B_drewN ?_ _ | with_reducible refine B_set ?_ (by simp; omega) _))) hcap hl2).mono ?_; rintro e wq ⟨v, rfl, hown, zw, rfl⟩))
            go_ret2
            rw [HX.out, HLT.out]
            refine ⟨_, rfl, own_mono' hown (by simp [ext_size]; omega), ext_below (by repeat (first | exact B_refl | exact Below.refl _ _ | assumption | with_reducible refine B_alloc ?_ _ | with_reducible refine B_ext ?_ _ | with_reducible refine B_drew ?_ | with_reducible refine B_drewN ?_ _ | with_reducible refine B_set ?_ (by simp; omega) _))⟩
          · have HX : Hid (rNextP c0 c1 c2 ss rs ls last ⟨dy, 2, si, lv, rm, co, o⟩ = ([], rErrP c0 c1 c2 ss rs ls ⟨dy, 2, si, lv, rm, co, o⟩)) := by
              show _ = _
              rw [rNextP, if_neg (by simp [hce]), if_neg (by simpa using hday), if_pos her]
            generalize rNextP c0 c1 c2 ss rs ls last ⟨dy, 2, si, lv, rm, co, o⟩ = Y at *
            generalize rErrP c0 c1 c2 ss rs ls ⟨dy, 2, si, lv, rm, co, o⟩ = X at *
            go_wp2_with (first
                            | (go_at_call 9; refine (rCheckEvent_any _ _ _ _ _ _ _ _ HS.out HM.out).mono ?_; rintro e wq ⟨rfl, zc, rfl⟩; rw [hce])
                            | (go_at_call 98; refine (rPut_any ss rs _ _ _ _ _ _ _ _ _ ls _ _ _ _ _ _ _ _ _ _ _ (hy.keep (m := w.heap.size) (by repeat (first | exact B_refl | exact Below.refl _ _ | assumption | with_reducible refine B_alloc ?_ _ | with_reducible refine B_ext ?_ _ | with_reducible refine B_drew ?_ | with_reducible refine B_drewN ?_ _ | with_reducible refine B_set ?_ (by simp; omega) _))) (hl.keep (m := w.heap.size) (by repeat (first | exact B_refl | exact Below.refl _ _ | assumption | with_reducible refine B_alloc ?_ _ | with_reducible refine B_ext ?_ _ | with_reducible refine B_drew ?_ | with_reducible refine B_drewN ?_ _ | with_reducible refine B_set ?_ (by simp; omega) _))) hr (by first | exact .inl rfl | exact .inr rfl) kp.1 kp.2.1 kp.2.2.1 kp.2.2.2).mono ?_; rintro e wq ⟨rfl, zp, rfl⟩; rw [HP.out])
                            | (go_at_call 99; refine (rTake_any ss rs _ _ _ _ _ _ _ _ _ ls _ _ _ _ _ _ _ _ _ _ _ (hy.keep (m := w.heap.size) (by repeat (first | exact B_refl | exact Below.refl _ _ | assumption | with_reducible refine B_alloc ?_ _ | with_reducible refine B_ext ?_ _ | with_reducible refine B_drew ?_ | with_reducible refine B_drewN ?_ _ | with_reducible refine B_set ?_ (by simp; omega) _))) (hl.keep (m := w.heap.size) (by repeat (first | exact B_refl | exact Below.refl _ _ | assumption | with_reducible refine B_alloc ?_ _ | with_reducible refine B_ext ?_ _ | with_reducible refine B_drew ?_ | with_reducible refine B_drewN ?_ _ | with_reducible refine B_set ?_ (by simp; omega) _))) hr hst kt).mono ?_; rintro e wq ⟨rfl, zp, rfl⟩; rw [HP.out])
                            | (go_at_call 101; refine (rLotOf_any ss rs _ _ _ _ _ _ _ _ _ ls _ _ _ _ _ _ _ _ _ _ _ (hy.keep (m := w.heap.size) (by repeat (first | exact B_refl | exact Below.refl _ _ | assumption | with_reducible refine B_alloc ?_ _ | with_reducible refine B_ext ?_ _ | with_reducible refine B_drew ?_ | with_reducible refine B_drewN ?_ _ | with_reducible refine B_set ?_ (by simp; omega) _))) (hl.keep (m := w.heap.size) (by repeat (first | exact B_refl | exact Below.refl _ _ | assumption | with_reducible refine B_alloc ?_ _ | with_reducible refine B_ext ?_ _ | with_reducible refine B_drew ?_ | with_reducible refine B_drewN ?_ _ | with_reducible refine B_set ?_ (by simp; omega) _))) (by omega) (by omega) (fun h => by first | exact HPU.out | (exfalso; omega)) (fun h => by first | exact HLO.out h | (exfalso; omega))).mono ?_; rintro e wq ⟨rfl, zl, rfl⟩; rw [HLT.out]; unfold Lot.v)
                            | (go_at_call 100; refine (rWith_any ls _ _ _ _ _ _ _ _ _ _ (hl.keep (m := w.heap.size) (by repeat (first | exact B_refl | exact Below.refl _ _ | assumption | with_reducible refine B_alloc ?_ _ | with_reducible refine B_ext ?_ _ | with_reducible refine B_drew ?_ | with_reducible refine B_drewN ?_ _ | with_reducible refine B_set ?_ (by simp; omega) _))) hcap hl2).mono ?_; rintro e wq ⟨v, rfl, hown, zw, rfl⟩))
            go_ret2
            rw [HX.out]
            exact NextPost.none (by repeat (first | exact B_refl | exact Below.refl _ _ | assumption | with_reducible refine B_alloc ?_ _ | with_reducible refine B_ext ?_ _ | with_reducible refine B_drew ?_ | with_reducible refine B_drewN ?_ _ | with_reducible refine B_set ?_ (by simp; omega) _))
      · have HP : Hid (rTakeP ss rs ls dy kd lv rm o = rErrP c0 c1 c2 ss rs ls ⟨dy, kd, si, lv, rm, co, o⟩) := by
          show _ = _
          rw [rErrP, if_neg (by simpa using hp)]
        have kt : 0 ≤ lv := by
          have : checkEventP ⟨dy, kd, si, lv, rm, co, o⟩ = 0 := hce
          by_cases h3 : kd = 3
          · exact (hlow h3).1
          · unfold checkEventP at this
            simp only [] at this
            repeat (split at this; · cases this)
            rename_i hz
            have hk14 : kd = 1 ∨ kd = 4 := by omega
            rcases hk14 with rfl | rfl <;> simp at hz <;> omega
        clear hput hlow d1 d2
        have n0 : (kd == 0) = false := by simp; omega
        have n2 : (kd == 2) = false := by simp; omega
        cases her : (rErrP c0 c1 c2 ss rs ls ⟨dy, kd, si, lv, rm, co, o⟩ != 0)
        · have her0 : rErrP c0 c1 c2 ss rs ls ⟨dy, kd, si, lv, rm, co, o⟩ = 0 := by simpa using her
          have HLO := Lib.hid (fun h : kd = 3 => rErr_low her0 h)
          have HX : Hid (rNextP c0 c1 c2 ss rs ls last ⟨dy, kd, si, lv, rm, co, o⟩ = (rWithP (rLotP ss ls ⟨dy, kd, si, lv, rm, co, o⟩) ls, 0)) := by
            show _ = _
            rw [rNextP, if_neg (by simp [hce]), if_neg (by simpa using hday), if_neg (by rw [her]; exact Bool.false_ne_true)]
          rw [her0] at HP
          obtain ⟨⟨lrm, lst, lsi, llv, lco, lsc⟩, hlt⟩ : ∃ l, rLotP ss ls ⟨dy, kd, si, lv, rm, co, o⟩ = l := ⟨_, rfl⟩
          have HLT := Lib.hid hlt
          clear her her0 hlt
          generalize rNextP c0 c1 c2 ss rs ls last ⟨dy, kd, si, lv, rm, co, o⟩ = Y at *
          go_wp2_with (first
                          | (go_at_call 9; refine (rCheckEvent_any _ _ _ _ _ _ _ _ HS.out HM.out).mono ?_; rintro e wq ⟨rfl, zc, rfl⟩; rw [hce])
                          | (go_at_call 98; refine (rPut_any ss rs _ _ _ _ _ _ _ _ _ ls _ _ _ _ _ _ _ _ _ _ _ (hy.keep (m := w.heap.size) (by repeat (first | exact B_refl | exact Below.refl _ _ | assumption | with_reducible refine B_alloc ?_ _ | with_reducible refine B_ext ?_ _ | with_reducible refine B_drew ?_ | with_reducible refine B_drewN ?_ _ | with_reducible refine B_set ?_ (by simp; omega) _))) (hl.keep (m := w.heap.size) (by repeat (first | exact B_refl | exact Below.refl _ _ | assumption | with_reducible refine B_alloc ?_ _ | with_reducible refine B_ext ?_ _ | with_reducible refine B_drew ?_ | with_reducible refine B_drewN ?_ _ | with_reducible refine B_set ?_ (by simp; omega) _))) hr (by first | exact .inl rfl | exact .inr rfl) kp.1 kp.2.1 kp.2.2.1 kp.2.2.2).mono ?_; rintro e wq ⟨rfl, zp, rfl⟩; rw [HP.out])
                          | (go_at_call 99; refine (rTake_any ss rs _ _ _ _ _ _ _ _ _ ls _ _ _ _ _ _ _ _ _ _ _ (hy.keep (m := w.heap.size) (by repeat (first | exact B_refl | exact Below.refl _ _ | assumption | with_reducible refine B_alloc ?_ _ | with_reducible refine B_ext ?_ _ | with_reducible refine B_drew ?_ | with_reducible refine B_drewN ?_ _ | with_reducible refine B_set ?_ (by simp; omega) _))) (hl.keep (m := w.heap.size) (by repeat (first | exact B_refl | exact Below.refl _ _ | assumption | with_reducible refine B_alloc ?_ _ | with_reducible refine B_ext ?_ _ | with_reducible refine B_drew ?_ | with_reducible refine B_drewN ?_ _ | with_reducible refine B_set ?_ (by simp; omega) _))) hr hst kt).mono ?_; rintro e wq ⟨rfl, zp, rfl⟩; rw [HP.out])
                          | (go_at_call 101; refine (rLotOf_any ss rs _ _ _ _ _ _ _ _ _ ls _ _ _ _ _ _ _ _ _ _ _ (hy.keep (m := w.heap.size) (by repeat (first | exact B_refl | exact Below.refl _ _ | assumption | with_reducible refine B_alloc ?_ _ | with_reducible refine B_ext ?_ _ | with_reducible refine B_drew ?_ | with_reducible refine B_drewN ?_ _ | with_reducible refine B_set ?_ (by simp; omega) _))) (hl.keep (m := w.heap.size) (by repeat (first | exact B_refl | exact Below.refl _ _ | assumption | with_reducible refine B_alloc ?_ _ | with_reducible refine B_ext ?_ _ | with_reducible refine B_drew ?_ | with_reducible refine B_drewN ?_ _ | with_reducible refine B_set ?_ (by simp; omega) _))) (by omega) (by omega) (fun h => by first | exact HPU.out | (exfalso; omega)) (fun h => by first | exact HLO.out h | (exfalso; omega))).mono ?_; rintro e wq ⟨rfl, zl, rfl⟩; rw [HLT.out]; unfold Lot.v)
                          | (go_at_call 100; refine (rWith_any ls _ _ _ _ _ _ _ _ _ _ (hl.keep (m := w.heap.size) (by repeat (first | exact B_refl | exact Below.refl _ _ | assumption | with_reducible refine B_alloc ?_ _ | with_reducible refine B_ext ?_ _ | with_reducible refine B_drew ?_ | with_reducible refine B_drewN ?_ _ | with_reducible refine B_set ?_ (by simp; omega) _))) hcap hl2).mono ?_; rintro e wq ⟨v, rfl, hown, zw, rfl⟩))
          go_ret2
          rw [HX.out, HLT.out]
          refine ⟨_, rfl, own_mono' hown (by simp [ext_size]; omega), ext_below (by repeat (first | exact B_refl | exact Below.refl _ _ | assumption | with_reducible refine B_alloc ?_ _ | with_reducible refine B_ext ?_ _ | with_reducible refine B_drew ?_ | with_reducible refine B_drewN ?_ _ | with_reducible refine B_set ?_ (by simp; omega) _))⟩
        · have HX : Hid (rNextP c0 c1 c2 ss rs ls last ⟨dy, kd, si, lv, rm, co, o⟩ = ([], rErrP c0 c1 c2 ss rs ls ⟨dy, kd, si, lv, rm, co, o⟩)) := by
            show _ = _
            rw [rNextP, if_neg (by simp [hce]), if_neg (by simpa using hday), if_pos her]
          generalize rNextP c0 c1 c2 ss rs ls last ⟨dy, kd, si, lv, rm, co, o⟩ = Y at *
          generalize rErrP c0 c1 c2 ss rs ls ⟨dy, kd, si, lv, rm, co, o⟩ = X at *
          go_wp2_with (first
                          | (go_at_call 9; refine (rCheckEvent_any _ _ _ _ _ _ _ _ HS.out HM.out).mono ?_; rintro e wq ⟨rfl, zc, rfl⟩; rw [hce])
                          | (go_at_call 98; refine (rPut_any ss rs _ _ _ _ _ _ _ _ _ ls _ _ _ _ _ _ _ _ _ _ _ (hy.keep (m := w.heap.size) (by repeat (first | exact B_refl | exact Below.refl _ _ | assumption | with_reducible refine B_alloc ?_ _ | with_reducible refine B_ext ?_ _ | with_reducible refine B_drew ?_ | with_reducible refine B_drewN ?_ _ | with_reducible refine B_set ?_ (by simp; omega) _))) (hl.keep (m := w.heap.size) (by repeat (first | exact B_refl | exact Below.refl _ _ | assumption | with_reducible refine B_alloc ?_ _ | with_reducible refine B_ext ?_ _ | with_reducible refine B_drew ?_ | with_reducible refine B_drewN ?_ _ | with_reducible refine B_set ?_ (by simp; omega) _))) hr (by first | exact .inl rfl | exact .inr rfl) kp.1 kp.2.1 kp.2.2.1 kp.2.2.2).mono ?_; rintro e wq ⟨rfl, zp, rfl⟩; rw [HP.out])
                          | (go_at_call 99; refine (rTake_any ss rs _ _ _ _ _ _ _ _ _ ls _ _ _ _ _ _ _ _ _ _ _ (hy.keep (m := w.heap.size) (by repeat (first | exact B_refl | exact Below.refl _ _ | assumption | with_reducible refine B_alloc ?_ _ | with_reducible refine B_ext ?_ _ | with_reducible refine B_drew ?_ | with_reducible refine B_drewN ?_ _ | with_reducible refine B_set ?_ (by simp; omega) _))) (hl.keep (m := w.heap.size) (by repeat (first | exact B_refl | exact Below.refl _ _ | assumption | with_reducible refine B_alloc ?_ _ | with_reducible refine B_ext ?_ _ | with_reducible refine B_drew ?_ | with_reducible refine B_drewN ?_ _ | with_reducible refine B_set ?_ (by simp; omega) _))) hr hst kt).mono ?_; rintro e wq ⟨rfl, zp, rfl⟩; rw [HP.out])
                          | (go_at_call 101; refine (rLotOf_any ss rs _ _ _ _ _ _ _ _ _ ls _ _ _ _ _ _ _ _ _ _ _ (hy.keep (m := w.heap.size) (by repeat (first | exact B_refl | exact Below.refl _ _ | assumption | with_reducible refine B_alloc ?_ _ | with_reducible refine B_ext ?_ _ | with_reducible refine B_drew ?_ | with_reducible refine B_drewN ?_ _ | with_reducible refine B_set ?_ (by simp; omega) _))) (hl.keep (m := w.heap.size) (by repeat (first | exact B_refl | exact Below.refl _ _ | assumption | with_reducible refine B_alloc ?_ _ | with_reducible refine B_ext ?_ _ | with_reducible refine B_drew ?_ | with_reducible refine B_drewN ?_ _ | with_reducible refine B_set ?_ (by simp; omega) _))) (by omega) (by omega) (fun h => by first | exact HPU.out | (exfalso; omega)) (fun h => by first | exact HLO.out h | (exfalso; omega))).mono ?_; rintro e wq ⟨rfl, zl, rfl⟩; rw [HLT.out]; unfold Lot.v)
                          | (go_at_call 100; refine (rWith_any ls _ _ _ _ _ _ _ _ _ _ (hl.keep (m := w.heap.size) (by repeat (first | exact B_refl | exact Below.refl _ _ | assumption | with_reducible refine B_alloc ?_ _ | with_reducible refine B_ext ?_ _ | with_reducible refine B_drew ?_ | with_reducible refine B_drewN ?_ _ | with_reducible refine B_set ?_ (by simp; omega) _))) hcap hl2).mono ?_; rintro e wq ⟨v, rfl, hown, zw, rfl⟩))
          go_ret2
          rw [HX.out]
          exact NextPost.none (by repeat (first | exact B_refl | exact Below.refl _ _ | assumption | with_reducible refine B_alloc ?_ _ | with_reducible refine B_ext ?_ _ | with_reducible refine B_drew ?_ | with_reducible refine B_drewN ?_ _ | with_reducible refine B_set ?_ (by simp; omega) _))
  · have hX : rNextP c0 c1 c2 ss rs ls last ⟨dy, kd, si, lv, rm, co, o⟩ = ([], checkEventP ⟨dy, kd, si, lv, rm, co, o⟩) := by rw [rNextP, if_pos (by simpa using hce)]
    have HX := Lib.hid hX
    obtain ⟨X, hX2⟩ : ∃ X, checkEventP ⟨dy, kd, si, lv, rm, co, o⟩ = X := ⟨_, rfl⟩
    rw [hX2] at hce
    have hce2 : (X != 0) = true := by simpa using hce
    have HX2 := Lib.hid hX2
    clear hX2 hX hce
    generalize rNextP c0 c1 c2 ss rs ls last ⟨dy, kd, si, lv, rm, co, o⟩ = Y at *
    go_wp2_with (go_at_call 9; refine (rCheckEvent_any _ _ _ _ _ _ _ _ HS.out HM.out).mono ?_; rintro e wq ⟨rfl, zc, rfl⟩; rw [HX2.out])
    go_ret2
    rw [HX.out, HX2.out]
    exact NextPost.none (by repeat (first | exact B_refl | exact Below.refl _ _ | assumption | with_reducible refine B_alloc ?_ _ | with_reducible refine B_ext ?_ _ | with_reducible refine B_drew ?_ | with_reducible refine B_drewN ?_ _ | with_reducible refine B_set ?_ (by simp; omega) _))
end Go.Proofs.YtpohkolapgofdaaGreatDoor
