/- Walk of chapter 5's renewal; plain part of surrender. -/
import Derived.Test.YtkhkhnellekofaaGreatDoorJK
set_option linter.unusedSimpArgs false
set_option linter.unusedVariables false
namespace Go.Proofs.YtkhkhnellekofaaGreatDoor
open Go.RowKit Go.Shelf
attribute [local go_sem] World.cell?_alloc_mark ext_size ext_cell ext_frozen lt_add_r lt_add_r2 lt_add_r3 lt_add_r4 lt_add_r5 lt_add_r6 lt_add_r7 lt_add_r8
attribute [local go_sem] ext_setCell alloc_setCell_lt

theorem tomb_set3 {W : World} {T : Nat} {pl : ByteArray} {cl fr en : Int} {v dv : Value} {cs3 : Int} (h : TombC W T pl cl fr en v dv) : TombC (W.setCell ⟨T, 3, none⟩ (.int .i64 cs3)) T pl cl fr cs3 v dv := by
 unfold TombC at *
 have := Joins.block_setCell (i := 3) h (.int .i64 cs3)
 simpa using this
set_option maxRecDepth 100000 in
set_option maxHeartbeats 2000000 in
theorem renewal_any (base b : Nat) (s : St) (la co last : Int) (d : Deed) (B : Option Addr) (c : Nat) (w : World) (hW : WldAt base w b s la co) (hL : LensIn w) (hd : OkD d) (hlen : s.graves.length ≤ 1000) (hfin : ∀ g ∈ s.graves, g.fin ≤ 200000) :
    Calls Tryz.prog 119 #[.pointer (some ⟨b, 0, none⟩), d.v B c] w (TakePost base b (renewP s d) la co w) := by
 have hd2 := hd.years
 clear hd
 have hW0 := hW
 obtain ⟨Bk, dd, cc, pp, wl, rr, mv, tv, ps, hb0, hC, hP, hT⟩ := hW
 have hbl := blk_lt hC
 obtain ⟨kd, dy, pl, fr, ts, cl, yr⟩ := d
 simp only at *
 have HIN := Lib.hid (fun W (hB : Below w.heap.size w W) => in_any base b s la co pl dy W (hC.keep hB) (hT.keep hB) (by omega))
 have HW := Lib.hid hW0
 have HC := Lib.hid hC
 have HP := Lib.hid hP
 cases hix : graveIx s pl dy with
 | none =>
  rw [hix] at HIN
  have HG : Hid (renewP s ⟨kd, dy, pl, fr, ts, cl, yr⟩ = (s, 6)) := by show _ = _; simp [renewP, hix]
  clear hix hW0 hC hP hT hL
  unfold Deed.v
  simp only
  go_enter Tryz.func119, Tryz.ntmps119
  go_wp2_with (go_at_call 58; refine (HIN.out _ Bw).mono ?_; rintro e wq ⟨rfl, z, rfl⟩; simp only [ptrOf, Option.map_none])
  go_ret
  exact take_same HW.out Bw HG.out
 | some i =>
  obtain ⟨T, g, hpi, hpd, hgi, hgd, hTA, hfo⟩ := grave_tomb hT hix
  have hgf := hfin g (List.mem_of_getElem? hgi)
  have hIN2 : ∀ W, Below w.heap.size w W → Calls Tryz.prog 58 #[.pointer (some ⟨b, 0, none⟩), .string pl, .int .i64 dy] W (Ret W (.pointer (some ⟨T, 0, none⟩))) := fun W hB => by
   have := HIN.out W hB
   rw [hix] at this
   simpa only [ptrOf, Option.map_some, hpd] using this
  have HI2 := Lib.hid hIN2
  obtain ⟨H, hc', D, dc, frm, t1, t2, t3, t4, t5, t6, t7⟩ := hTA
  have hTl := blk_lt t1
  obtain ⟨gpl, gcl, gfin, ghs, gdi⟩ := g
  simp only at *
  have hte : renewP s ⟨kd, dy, pl, fr, ts, cl, yr⟩ = if decide (gfin < 0) then (s, 15) else if decide (afterP gfin yr < 0) then (s, 2) else (s.withGrave i ⟨gpl, gcl, afterP gfin yr, ghs, gdi⟩, 0) := by
   unfold renewP
   simp only [hix, hgd]
  have HT1 := Lib.hid t1
  have HT5 := Lib.hid t5
  have HT6 := Lib.hid t6
  have HT7 := Lib.hid t7
  have HTE := Lib.hid hte
  have HT := Lib.hid hT
  have HPI := Lib.hid hpi
  unfold TombC at t1
  have k3 : w.cell? ⟨T, 3, none⟩ = some (.int .i64 gfin) := by simp only [World.cell?, t1]; rfl
  have fz : ∀ j, w.frozen? ⟨T, j, none⟩ = false := fun j => by simp only [World.frozen?, t1]; rfl
  have HLT := Lib.hid (fun W (hB : Below w.heap.size w W) (h0 : 0 ≤ gfin) => later5_any gfin yr W (hL.keep hB) h0 hgf hd2.1 hd2.2)
  clear hIN2 HIN t1 t5 t6 t7 hte hT hpi hpd hgd hgi hfo hix hW0 hC hP hL hfin
  unfold Deed.v
  simp only
  go_enter Tryz.func119, Tryz.ntmps119
  by_cases hneg : gfin < 0
  · go_wp2_with (go_at_call 58; refine (HI2.out _ Bw).mono ?_; rintro e wq ⟨rfl, z, rfl⟩)
    go_ret
    exact take_same HW.out Bw (by rw [HTE.out]; simp [hneg])
  · have hpos : 0 ≤ gfin := by omega
    go_upto_region 6 with (go_at_call 58; refine (HI2.out _ Bw).mono ?_; rintro e wq ⟨rfl, z, rfl⟩)
    generalize hR : afterP gfin yr = R at *
    (refine wp_region_ext_lit (by kernel_rfl) (by kernel_rfl) ?_
     repeat (first | go_big_quiet_skip | (go_big_quiet_want; go_big_quiet_op; first | go_big_quiet_on | (apply Exists.intro; refine ⟨fun _ => ?_, ?_⟩; (go_at_call 125; exact quietx (HLT.out _ Bw hpos)); go_big_quiet_on)))
     refine wpQuiet_nil ?_
     rintro _ ⟨zq, rfl⟩)
    by_cases hRn : R < 0
    · go_wp2_with fail
      go_ret
      exact take_same HW.out Bw (by rw [HTE.out]; simp [hneg, hRn])
    · go_wp2_with fail
      go_ret
      have hgg : renewP s ⟨kd, dy, pl, fr, ts, cl, yr⟩ = (s.withGrave i ⟨gpl, gcl, R, ghs, gdi⟩, 0) := by rw [HTE.out]; simp [show ¬ gfin < 0 by omega, show ¬ R < 0 by omega]
      rw [hgg]
      obtain ⟨Z, hZ⟩ : ∃ Z, Z = ((w.alloc (.cells #[.int .i64 kd, .int .i64 dy, .string pl, .string fr, .slice B ts.length c, .int .i64 cl, .int .i64 yr] 90)).ext z).ext zq := ⟨_, rfl⟩
      have hBZ : Below w.heap.size w Z := by rw [hZ]; repeat (first | exact B_refl | exact Below.refl _ _ | assumption | with_reducible refine B_alloc ?_ _ | with_reducible refine B_ext ?_ _ | with_reducible refine B_drew ?_ | with_reducible refine B_drewN ?_ _ | with_reducible refine B_set ?_ (by simp; omega) _)
      have hTZ := (hBZ.block T hTl).trans HT1.out
      have hN : TombAt (Z.setCell ⟨T, 3, none⟩ (.int .i64 R)) base Bk T ⟨gpl, gcl, R, ghs, gdi⟩ := ⟨H, hc', D, dc, frm, tomb_set3 (show TombC Z T gpl gcl frm gfin _ _ from hTZ), t2, t3, t4, (HT5.out.keep hBZ).kept (grown_set Z T 3 _) hTZ (by decide), (HT6.out.keep hBZ).kept (grown_set Z T 3 _) hTZ (by decide), HT7.out⟩
      have hst := wld_store hb0 (HC.out.keep hBZ) (HP.out.keep hBZ) (HT.out.keep hBZ) HPI.out hTZ (grown_set Z T 3 (.int .i64 R)) hN
      have hb9 : Below base w (Z.setCell ⟨T, 3, none⟩ (.int .i64 R)) := B_set (hBZ.mono (by omega)) t2 _
      have hE : Z.setCell ⟨T, 3, none⟩ (.int .i64 R) = (((w.setCell ⟨T, 3, none⟩ (.int .i64 R)).alloc (.cells #[.int .i64 kd, .int .i64 dy, .string pl, .string fr, .slice B ts.length c, .int .i64 cl, .int .i64 yr] 90)).ext z).ext zq := by
       rw [hZ, ext_setCell _ _ _ _ _ (by simp [ext_size]; omega), ext_setCell _ _ _ _ _ (by simp; omega), alloc_setCell_lt _ _ _ _ _ hTl]
      have hkd := (KeepD.below hBZ).trans (KeepD.cells (grown_set Z T 3 (.int .i64 R)) hTZ (by decide))
      rw [hE] at hst hb9 hkd
      exact ⟨rfl, hst, hb9, hkd⟩
end Go.Proofs.YtkhkhnellekofaaGreatDoor
