/- Walk: the error of an event behind others, and the lot that it gives. -/
import Derived.Test.YtpohkolapgofdaaGreatDoorA3
import Derived.Test.YtpohkolapgofdaaGreatDoorB2
import Derived.Test.YtpohkolapgofdaaGreatDoorR1
import Derived.Deep.RegionHeld3
import Derived.BigRegion
import Derived.Laws.ResultCell
namespace Go.Proofs.YtpohkolapgofdaaGreatDoor
open Go.RowKit
attribute [local go_sem] World.cell?_alloc_mark ext_size ext_cell ext_frozen lt_add_r lt_add_r2 lt_add_r3 lt_add_r4 lt_add_r5 lt_add_r6 lt_add_r7 lt_add_r8
attribute [local go_sem] ext_setCell alloc_setCell_lt

def liesP (k : Bk) (rs : List Rest) (ss : List Site) (o : Lot) (day : Int) (order : Bool) : Int :=
  match findSite o.site ss with
  | none => 0
  | some s => openP k rs s o day order
def siteKind (ss : List Site) (nm : ByteArray) : Int := match findSite nm ss with | none => 0 | some s => s.kind
def errorQ (k : Bk) (ss : List Site) (rs : List Rest) (e : Event) : Lot × Int :=
  if e.kind == 0 || e.kind == 2 then
    if e.kind == 0 && (lotK k e.remain).isSome then (zeroLot, 5) else
    if e.kind == 2 && !(lotK k e.remain).isSome then (zeroLot, 6) else
    if e.kind == 2 && ((lotK k e.remain).getD zeroLot).state != 0 then (zeroLot, 28) else
    if placeP k ss e.site e.level e.container != 0 then (zeroLot, placeP k ss e.site e.level e.container) else
    (⟨e.remain, if siteKind ss e.site == 3 then 3 else 1, e.site, e.level, e.container, e.day⟩, 0)
  else
    if !(lotK k e.remain).isSome then (zeroLot, 6) else
    if ((lotK k e.remain).getD zeroLot).state != 1 then (zeroLot, 28) else
    if e.kind == 1 then (⟨e.remain, 0, ⟨#[]⟩, 0, 0, e.day⟩, liesP k rs ss ((lotK k e.remain).getD zeroLot) e.day e.order) else
    if e.kind == 4 then (⟨e.remain, 2, ⟨#[]⟩, 0, 0, e.day⟩, liesP k rs ss ((lotK k e.remain).getD zeroLot) e.day e.order) else
    if siteKind ss ((lotK k e.remain).getD zeroLot).site != 0 then (zeroLot, 15) else
    if decide (((lotK k e.remain).getD zeroLot).level ≤ e.level) then (zeroLot, 2) else
    if occP ((lotK k e.remain).getD zeroLot).site e.level (((lotK k e.remain).getD zeroLot).level - 1) (lotsNow k.st) then (zeroLot, 16) else
    (⟨e.remain, 1, ((lotK k e.remain).getD zeroLot).site, e.level, ((lotK k e.remain).getD zeroLot).container, e.day⟩, liesP k rs ss ((lotK k e.remain).getD zeroLot) e.day e.order)
def errorP (k : Bk) (ss : List Site) (rs : List Rest) (e : Event) : Lot × Int :=
  if checkEventP e != 0 then (zeroLot, checkEventP e) else
  if decide (e.day < k.day) then (zeroLot, 9) else
  errorQ k ss rs e
def retErr (p : Lot × Int) : Value := .tuple #[p.1.v, .int .i64 p.2]

theorem results_lot {fn : Func} {p u : Tmp} (h : fn.results = #[.cell p 107, .tmp u]) (tmps : Array Value) (w : World) (B : Nat) (lt : Lot) (x : Value) (hp : tmps.getD p undef = .pointer (some ⟨B, 0, none⟩)) (hx : tmps.getD u undef = x)
    (h0 : w.cell? ⟨B, 0, none⟩ = some (.string lt.remain)) (h1 : w.cell? ⟨B, 1, none⟩ = some (.int .i64 lt.state)) (h2 : w.cell? ⟨B, 2, none⟩ = some (.string lt.site)) (h3 : w.cell? ⟨B, 3, none⟩ = some (.int .i64 lt.level))
    (h4 : w.cell? ⟨B, 4, none⟩ = some (.int .i64 lt.container)) (h5 : w.cell? ⟨B, 5, none⟩ = some (.int .i64 lt.since)) : (results fn tmps).run Tryz.prog w = .ok (.tuple #[lt.v, x]) w := by
  rw [results_cell_tmp h, hp, hx]
  unfold Lot.v
  go_simp
/-- What an event that is right by itself says of its numbers. -/
theorem checkEvent_ok {e : Event} (h : checkEventP e = 0) : 0 ≤ e.kind ∧ e.kind ≤ 4 ∧ 0 ≤ e.day ∧ e.day ≤ 200000 ∧ ((e.kind = 0 ∨ e.kind = 2) → 0 ≤ e.level ∧ e.level ≤ 11 ∧ 0 ≤ e.container ∧ e.container ≤ 2) ∧ (e.kind = 3 → 0 ≤ e.level ∧ e.level ≤ 11) := by
  unfold checkEventP at h
  simp only [] at h
  by_cases h1 : inR e.day 0 200000 = true
  · by_cases h2 : inR e.kind 0 4 = true
    · simp only [h1, h2, Bool.not_true, Bool.false_eq_true, if_false] at h
      split at h
      · cases h
      · split at h
        · cases h
        · rename_i h4
          simp [inR] at h1 h2 h4
          refine ⟨h2.1, h2.2, h1.1, h1.2, ?_, ?_⟩
          · intro hk
            rcases hk with hk | hk <;> simp [hk] at h4 <;> omega
          · intro hk
            simp [hk] at h4
            omega
    · simp [h1, h2] at h
  · simp [h1] at h

theorem placeP_site {k : Bk} {ss : List Site} {si : ByteArray} {l c : Int} (h : placeP k ss si l c = 0) : ∃ s, findSite si ss = some s := by
  unfold placeP at h
  cases hf : findSite si ss with
  | none => rw [hf] at h; cases h
  | some s => exact ⟨s, rfl⟩

set_option maxRecDepth 100000 in
set_option maxHeartbeats 2000000 in
theorem error_any (base bb : Nat) (k : Bk) (ss : List Site) (rs : List Rest) (dy kd : Int) (si : ByteArray) (l : Int) (rm : ByteArray) (c : Int) (o : Bool) (w : World) (he : Env w base bb k ss rs) (hs : si.size ≤ 100000) (hr : rm.size ≤ 100000) :
    Calls Tryz.prog 85 #[.pointer (some ⟨bb, 0, none⟩), .agg #[.int .i64 dy, .int .i64 kd, .string si, .int .i64 l, .string rm, .int .i64 c, .bool o]] w (Ret w (retErr (errorP k ss rs ⟨dy, kd, si, l, rm, c, o⟩))) := by
  have HS := Lib.hid hs
  have HR := Lib.hid hr
  clear hs hr
  obtain ⟨hlt, g0, g1, g2, g3, g4⟩ := book_cells he
  have g7 : w.cell? ⟨bb, 7, none⟩ = some (.int .i64 k.day) := by obtain ⟨v, bm, hblk, _⟩ := he.bk; simp [World.cell?, hblk]
  go_enter Tryz.func85, Tryz.ntmps85
  cases hce : (checkEventP ⟨dy, kd, si, l, rm, c, o⟩ != 0)
  · have hce0 : checkEventP ⟨dy, kd, si, l, rm, c, o⟩ = 0 := by simpa using hce
    obtain ⟨k1, k2, d1, d2, hput, hlow⟩ := checkEvent_ok hce0
    dsimp only at k1 k2 d1 d2 hput hlow
    have HC := Lib.hid hce0
    clear hce0
    go_wp2_with (go_at_call 10; refine (checkEvent_any _ _ _ _ _ _ _ _ HS.out HR.out).mono ?_; rintro e wq ⟨rfl, zq, rfl⟩)
    (refine wp_region_ext_lit (by kernel_rfl) (by kernel_rfl) ?_
     repeat (first | go_big_quiet_skip | (go_big_quiet_want; go_big_quiet_op; first | go_big_quiet_on | (apply Exists.intro; refine ⟨fun _ => ?_, ?_⟩; (fail); go_big_quiet_on)))
     refine wpQuiet_nil ?_
     rintro _ ⟨zq, rfl⟩)
    by_cases hday : dy < k.day
    · go_wp2_with fail
      refine bodyPost_ret (v := .tuple #[zeroLot.v, .int .i64 9]) (results_lot rfl _ _ (w.heap.size + 1) zeroLot _ rfl rfl (by simp [go_sem, zeroLot]) (by simp [go_sem, zeroLot]) (by simp [go_sem, zeroLot]) (by simp [go_sem, zeroLot]) (by simp [go_sem, zeroLot]) (by simp [go_sem, zeroLot])) rfl ?_
      exact Ret.of (by rw [errorP, if_neg (by simp [HC.out]), if_pos (by simpa using hday)]; rfl) (by repeat (first | exact Below.refl _ _ | exact Below.refl (World.heap _).size _ | assumption | refine B_alloc ?_ _ | refine B_ext ?_ _ | refine B_drew ?_ | refine B_drewN ?_ _ | refine B_set ?_ (by simp; omega) _))
    have HE : Hid (errorP k ss rs ⟨dy, kd, si, l, rm, c, o⟩ = errorQ k ss rs ⟨dy, kd, si, l, rm, c, o⟩) := by
      show _ = _
      rw [errorP, if_neg (by simp [HC.out]), if_neg (by simpa using hday)]
    have hkd : kd = 0 ∨ kd = 2 ∨ kd = 1 ∨ kd = 4 ∨ kd = 3 := by omega
    rcases hkd with rfl | rfl | rfl | rfl | rfl
    · obtain ⟨l1, l2, cc1, cc2⟩ := hput (.inl rfl)
      cases hl : lotK k rm with
      | some old =>
        go_wp2_with (go_at_call 54; refine (lot_any base bb k ss rs _ _ (he.keep (by repeat (first | exact Below.refl _ _ | exact Below.refl (World.heap _).size _ | assumption | refine B_alloc ?_ _ | refine B_ext ?_ _ | refine B_drew ?_ | refine B_drewN ?_ _ | refine B_set ?_ (by simp; omega) _)))).mono ?_; rintro e wq ⟨rfl, zq, rfl⟩; rw [hl]; unfold retLot Lot.v)
        refine bodyPost_ret (v := .tuple #[zeroLot.v, .int .i64 5]) (results_lot rfl _ _ (w.heap.size + 1) zeroLot _ rfl rfl (by simp [go_sem, zeroLot]) (by simp [go_sem, zeroLot]) (by simp [go_sem, zeroLot]) (by simp [go_sem, zeroLot]) (by simp [go_sem, zeroLot]) (by simp [go_sem, zeroLot])) rfl ?_
        exact Ret.of (by rw [HE.out, errorQ]; simp [hl]; rfl) (by repeat (first | exact Below.refl _ _ | exact Below.refl (World.heap _).size _ | assumption | refine B_alloc ?_ _ | refine B_ext ?_ _ | refine B_drew ?_ | refine B_drewN ?_ _ | refine B_set ?_ (by simp; omega) _))
      | none =>
        go_wp2_with (first
          | (go_at_call 54; refine (lot_any base bb k ss rs _ _ (he.keep (by repeat (first | exact Below.refl _ _ | exact Below.refl (World.heap _).size _ | assumption | refine B_alloc ?_ _ | refine B_ext ?_ _ | refine B_drew ?_ | refine B_drewN ?_ _ | refine B_set ?_ (by simp; omega) _)))).mono ?_; rintro e wq ⟨rfl, zq, rfl⟩; rw [hl]; unfold retLot Lot.v)
          | (go_at_call 84; refine (place_any base bb k ss rs _ _ _ _ (he.keep (by repeat (first | exact Below.refl _ _ | exact Below.refl (World.heap _).size _ | assumption | refine B_alloc ?_ _ | refine B_ext ?_ _ | refine B_drew ?_ | refine B_drewN ?_ _ | refine B_set ?_ (by simp; omega) _))) (by omega) (by omega) cc1 cc2).mono ?_; rintro e wq ⟨rfl, zq, rfl⟩))
        · have hpl : (placeP k ss si l c != 0) = true := by assumption
          refine bodyPost_ret (v := .tuple #[zeroLot.v, .int .i64 (placeP k ss si l c)]) (results_lot rfl _ _ (w.heap.size + 1) zeroLot _ rfl rfl (by simp [go_sem, zeroLot]) (by simp [go_sem, zeroLot]) (by simp [go_sem, zeroLot]) (by simp [go_sem, zeroLot]) (by simp [go_sem, zeroLot]) (by simp [go_sem, zeroLot])) rfl ?_
          exact Ret.of (by rw [HE.out, errorQ]; simp [hl, hpl]; rfl) (by repeat (first | exact Below.refl _ _ | exact Below.refl (World.heap _).size _ | assumption | refine B_alloc ?_ _ | refine B_ext ?_ _ | refine B_drew ?_ | refine B_drewN ?_ _ | refine B_set ?_ (by simp; omega) _))
        · have hpl : (placeP k ss si l c != 0) = false := by assumption
          obtain ⟨s, hfs⟩ := placeP_site (by simpa using hpl)
          have hres := site_res he.sl si
          rw [hfs] at hres
          obtain ⟨b, off, hp, hb, hcs⟩ := hres
          have x1 : w.cell? ⟨b, off + 1, none⟩ = some (.int .i64 s.kind) := hcs 1 _ rfl
          have hsk : siteKind ss si = s.kind := by rw [siteKind, hfs]
          have HSK := Lib.hid hsk
          have hl1 := he.l1
          clear hcs hfs hsk
          go_region
          go_wp2_with fail
          (refine wp_region_ext_lit (by kernel_rfl) (by kernel_rfl) ?_
           repeat (first | go_big_quiet_skip | (go_big_quiet_want; go_big_quiet_op; first | go_big_quiet_on | (apply Exists.intro; refine ⟨fun _ => ?_, ?_⟩; (go_at_call 82; exact quietx (siteOf_any ss _ _ _ _ _ _ _ _ _ _ _ rfl (he.sl.keep (by repeat (first | exact Below.refl _ _ | exact Below.refl (World.heap _).size _ | assumption | refine B_alloc ?_ _ | refine B_ext ?_ _ | refine B_drew ?_ | refine B_drewN ?_ _ | refine B_set ?_ (by simp; omega) _))) (by omega))); go_big_quiet_on)))
           refine wpQuiet_nil ?_
           rintro _ ⟨zq, rfl⟩)
          cases hk3 : (s.kind == 3)
          · go_wp2_with fail
            refine bodyPost_ret (v := .tuple #[Lot.v ⟨rm, 1, si, l, c, dy⟩, .int .i64 0]) (results_lot rfl _ _ (w.heap.size + 1) ⟨rm, 1, si, l, c, dy⟩ _ rfl rfl (by simp [go_sem, zeroLot]) (by simp [go_sem, zeroLot]) (by simp [go_sem, zeroLot]) (by simp [go_sem, zeroLot]) (by simp [go_sem, zeroLot]) (by simp [go_sem, zeroLot])) rfl ?_
            exact Ret.of (by rw [HE.out, errorQ]; simp [hl, hpl, HSK.out, hk3]; rfl) (by repeat (first | exact Below.refl _ _ | exact Below.refl (World.heap _).size _ | assumption | refine B_alloc ?_ _ | refine B_ext ?_ _ | refine B_drew ?_ | refine B_drewN ?_ _ | refine B_set ?_ (by simp; omega) _))
          · go_wp2_with fail
            refine bodyPost_ret (v := .tuple #[Lot.v ⟨rm, 3, si, l, c, dy⟩, .int .i64 0]) (results_lot rfl _ _ (w.heap.size + 1) ⟨rm, 3, si, l, c, dy⟩ _ rfl rfl (by simp [go_sem, zeroLot]) (by simp [go_sem, zeroLot]) (by simp [go_sem, zeroLot]) (by simp [go_sem, zeroLot]) (by simp [go_sem, zeroLot]) (by simp [go_sem, zeroLot])) rfl ?_
            exact Ret.of (by rw [HE.out, errorQ]; simp [hl, hpl, HSK.out, hk3]; rfl) (by repeat (first | exact Below.refl _ _ | exact Below.refl (World.heap _).size _ | assumption | refine B_alloc ?_ _ | refine B_ext ?_ _ | refine B_drew ?_ | refine B_drewN ?_ _ | refine B_set ?_ (by simp; omega) _))
    · obtain ⟨l1, l2, cc1, cc2⟩ := hput (.inr rfl)
      cases hl : lotK k rm with
      | none =>
        go_wp2_with (go_at_call 54; refine (lot_any base bb k ss rs _ _ (he.keep (by repeat (first | exact Below.refl _ _ | exact Below.refl (World.heap _).size _ | assumption | refine B_alloc ?_ _ | refine B_ext ?_ _ | refine B_drew ?_ | refine B_drewN ?_ _ | refine B_set ?_ (by simp; omega) _)))).mono ?_; rintro e wq ⟨rfl, zq, rfl⟩; rw [hl]; unfold retLot Lot.v)
        refine bodyPost_ret (v := .tuple #[zeroLot.v, .int .i64 6]) (results_lot rfl _ _ (w.heap.size + 1) zeroLot _ rfl rfl (by simp [go_sem, zeroLot]) (by simp [go_sem, zeroLot]) (by simp [go_sem, zeroLot]) (by simp [go_sem, zeroLot]) (by simp [go_sem, zeroLot]) (by simp [go_sem, zeroLot])) rfl ?_
        exact Ret.of (by rw [HE.out, errorQ]; simp [hl]; rfl) (by repeat (first | exact Below.refl _ _ | exact Below.refl (World.heap _).size _ | assumption | refine B_alloc ?_ _ | refine B_ext ?_ _ | refine B_drew ?_ | refine B_drewN ?_ _ | refine B_set ?_ (by simp; omega) _))
      | some old =>
        obtain ⟨orm, ost, osi, olv, oco, osc⟩ := old
        by_cases ho : ost = 0
        · have HO : Hid (ost = 0) := ho
          have ho2 : (ost != 0) = false := by simp [ho]
          clear ho
          go_wp2_with (first
            | (go_at_call 54; refine (lot_any base bb k ss rs _ _ (he.keep (by repeat (first | exact Below.refl _ _ | exact Below.refl (World.heap _).size _ | assumption | refine B_alloc ?_ _ | refine B_ext ?_ _ | refine B_drew ?_ | refine B_drewN ?_ _ | refine B_set ?_ (by simp; omega) _)))).mono ?_; rintro e wq ⟨rfl, zq, rfl⟩; rw [hl]; unfold retLot Lot.v)
            | (go_at_call 84; refine (place_any base bb k ss rs _ _ _ _ (he.keep (by repeat (first | exact Below.refl _ _ | exact Below.refl (World.heap _).size _ | assumption | refine B_alloc ?_ _ | refine B_ext ?_ _ | refine B_drew ?_ | refine B_drewN ?_ _ | refine B_set ?_ (by simp; omega) _))) (by omega) (by omega) cc1 cc2).mono ?_; rintro e wq ⟨rfl, zq, rfl⟩))
          · have hpl : (placeP k ss si l c != 0) = true := by assumption
            refine bodyPost_ret (v := .tuple #[zeroLot.v, .int .i64 (placeP k ss si l c)]) (results_lot rfl _ _ (w.heap.size + 1) zeroLot _ rfl rfl (by simp [go_sem, zeroLot]) (by simp [go_sem, zeroLot]) (by simp [go_sem, zeroLot]) (by simp [go_sem, zeroLot]) (by simp [go_sem, zeroLot]) (by simp [go_sem, zeroLot])) rfl ?_
            exact Ret.of (by rw [HE.out, errorQ]; simp [hl, hpl, HO.out]; rfl) (by repeat (first | exact Below.refl _ _ | exact Below.refl (World.heap _).size _ | assumption | refine B_alloc ?_ _ | refine B_ext ?_ _ | refine B_drew ?_ | refine B_drewN ?_ _ | refine B_set ?_ (by simp; omega) _))
          · have hpl : (placeP k ss si l c != 0) = false := by assumption
            obtain ⟨s, hfs⟩ := placeP_site (by simpa using hpl)
            have hres := site_res he.sl si
            rw [hfs] at hres
            obtain ⟨b, off, hp, hb, hcs⟩ := hres
            have x1 : w.cell? ⟨b, off + 1, none⟩ = some (.int .i64 s.kind) := hcs 1 _ rfl
            have hsk : siteKind ss si = s.kind := by rw [siteKind, hfs]
            have HSK := Lib.hid hsk
            have hl1 := he.l1
            clear hcs hfs hsk
            go_region
            go_wp2_with fail
            (refine wp_region_ext_lit (by kernel_rfl) (by kernel_rfl) ?_
             repeat (first | go_big_quiet_skip | (go_big_quiet_want; go_big_quiet_op; first | go_big_quiet_on | (apply Exists.intro; refine ⟨fun _ => ?_, ?_⟩; (go_at_call 82; exact quietx (siteOf_any ss _ _ _ _ _ _ _ _ _ _ _ rfl (he.sl.keep (by repeat (first | exact Below.refl _ _ | exact Below.refl (World.heap _).size _ | assumption | refine B_alloc ?_ _ | refine B_ext ?_ _ | refine B_drew ?_ | refine B_drewN ?_ _ | refine B_set ?_ (by simp; omega) _))) (by omega))); go_big_quiet_on)))
             refine wpQuiet_nil ?_
             rintro _ ⟨zq, rfl⟩)
            cases hk3 : (s.kind == 3)
            · go_wp2_with fail
              refine bodyPost_ret (v := .tuple #[Lot.v ⟨rm, 1, si, l, c, dy⟩, .int .i64 0]) (results_lot rfl _ _ (w.heap.size + 1) ⟨rm, 1, si, l, c, dy⟩ _ rfl rfl (by simp [go_sem, zeroLot]) (by simp [go_sem, zeroLot]) (by simp [go_sem, zeroLot]) (by simp [go_sem, zeroLot]) (by simp [go_sem, zeroLot]) (by simp [go_sem, zeroLot])) rfl ?_
              exact Ret.of (by rw [HE.out, errorQ]; simp [hl, hpl, HSK.out, hk3, HO.out]; rfl) (by repeat (first | exact Below.refl _ _ | exact Below.refl (World.heap _).size _ | assumption | refine B_alloc ?_ _ | refine B_ext ?_ _ | refine B_drew ?_ | refine B_drewN ?_ _ | refine B_set ?_ (by simp; omega) _))
            · go_wp2_with fail
              refine bodyPost_ret (v := .tuple #[Lot.v ⟨rm, 3, si, l, c, dy⟩, .int .i64 0]) (results_lot rfl _ _ (w.heap.size + 1) ⟨rm, 3, si, l, c, dy⟩ _ rfl rfl (by simp [go_sem, zeroLot]) (by simp [go_sem, zeroLot]) (by simp [go_sem, zeroLot]) (by simp [go_sem, zeroLot]) (by simp [go_sem, zeroLot]) (by simp [go_sem, zeroLot])) rfl ?_
              exact Ret.of (by rw [HE.out, errorQ]; simp [hl, hpl, HSK.out, hk3, HO.out]; rfl) (by repeat (first | exact Below.refl _ _ | exact Below.refl (World.heap _).size _ | assumption | refine B_alloc ?_ _ | refine B_ext ?_ _ | refine B_drew ?_ | refine B_drewN ?_ _ | refine B_set ?_ (by simp; omega) _))
        · have HO : Hid (¬ ost = 0) := ho
          have ho2 : (ost != 0) = true := by simp [ho]
          go_wp2_with (go_at_call 54; refine (lot_any base bb k ss rs _ _ (he.keep (by repeat (first | exact Below.refl _ _ | exact Below.refl (World.heap _).size _ | assumption | refine B_alloc ?_ _ | refine B_ext ?_ _ | refine B_drew ?_ | refine B_drewN ?_ _ | refine B_set ?_ (by simp; omega) _)))).mono ?_; rintro e wq ⟨rfl, zq, rfl⟩; rw [hl]; unfold retLot Lot.v)
          refine bodyPost_ret (v := .tuple #[zeroLot.v, .int .i64 28]) (results_lot rfl _ _ (w.heap.size + 1) zeroLot _ rfl rfl (by simp [go_sem, zeroLot]) (by simp [go_sem, zeroLot]) (by simp [go_sem, zeroLot]) (by simp [go_sem, zeroLot]) (by simp [go_sem, zeroLot]) (by simp [go_sem, zeroLot])) rfl ?_
          exact Ret.of (by rw [HE.out, errorQ]; simp [hl, HO.out]; rfl) (by repeat (first | exact Below.refl _ _ | exact Below.refl (World.heap _).size _ | assumption | refine B_alloc ?_ _ | refine B_ext ?_ _ | refine B_drew ?_ | refine B_drewN ?_ _ | refine B_set ?_ (by simp; omega) _))
    · cases hl : lotK k rm with
      | none =>
        go_wp2_with (go_at_call 54; refine (lot_any base bb k ss rs _ _ (he.keep (by repeat (first | exact Below.refl _ _ | exact Below.refl (World.heap _).size _ | assumption | refine B_alloc ?_ _ | refine B_ext ?_ _ | refine B_drew ?_ | refine B_drewN ?_ _ | refine B_set ?_ (by simp; omega) _)))).mono ?_; rintro e wq ⟨rfl, zq, rfl⟩; rw [hl]; unfold retLot Lot.v)
        refine bodyPost_ret (v := .tuple #[zeroLot.v, .int .i64 6]) (results_lot rfl _ _ (w.heap.size + 1) zeroLot _ rfl rfl (by simp [go_sem, zeroLot]) (by simp [go_sem, zeroLot]) (by simp [go_sem, zeroLot]) (by simp [go_sem, zeroLot]) (by simp [go_sem, zeroLot]) (by simp [go_sem, zeroLot])) rfl ?_
        exact Ret.of (by rw [HE.out, errorQ]; simp [hl]; rfl) (by repeat (first | exact Below.refl _ _ | exact Below.refl (World.heap _).size _ | assumption | refine B_alloc ?_ _ | refine B_ext ?_ _ | refine B_drew ?_ | refine B_drewN ?_ _ | refine B_set ?_ (by simp; omega) _))
      | some old =>
        have hlies := he.lies rm old hl
        obtain ⟨orm, ost, osi, olv, oco, osc⟩ := old
        dsimp only at hlies
        by_cases ho : ost = 1
        · obtain ⟨⟨s, hfs⟩, hlv1, hlv2⟩ := hlies ho
          have HO : Hid (ost = 1) := ho
          have HFS := Lib.hid hfs
          have ho2 : (ost != 1) = false := by simp [ho]
          clear ho hfs hlies
          go_wp2_with (go_at_call 54; refine (lot_any base bb k ss rs _ _ (he.keep (by repeat (first | exact Below.refl _ _ | exact Below.refl (World.heap _).size _ | assumption | refine B_alloc ?_ _ | refine B_ext ?_ _ | refine B_drew ?_ | refine B_drewN ?_ _ | refine B_set ?_ (by simp; omega) _)))).mono ?_; rintro e wq ⟨rfl, zq, rfl⟩; rw [hl]; unfold retLot Lot.v)
          (refine wp_region_quiet_tail 8 (by kernel_rfl) (by kernel_rfl) ?_
           simp only [List.take_succ_cons, List.take_zero, List.drop_succ_cons, List.drop_zero]
           repeat (first | go_big_quiet_skip | (go_big_quiet_want; go_big_quiet_op; first | go_big_quiet_on | (apply Exists.intro; refine ⟨fun _ => ?_, ?_⟩; (go_at_call 105; exact quietx (open_any base bb k ss rs _ _ _ _ _ _ _ _ s _ (he.keep (by repeat (first | exact Below.refl _ _ | exact Below.refl (World.heap _).size _ | assumption | refine B_alloc ?_ _ | refine B_ext ?_ _ | refine B_drew ?_ | refine B_drewN ?_ _ | refine B_set ?_ (by simp; omega) _))) HFS.out (by omega) (by omega))); go_big_quiet_on)))
           refine wpQuiet_nil ?_
           rintro _ ⟨zq, rfl⟩)
          go_wp2_with fail
          refine bodyPost_ret (v := .tuple #[Lot.v ⟨rm, 0, ⟨#[]⟩, 0, 0, dy⟩, .int .i64 (openP k rs s ⟨orm, ost, osi, olv, oco, osc⟩ dy o)]) (results_lot rfl _ _ (w.heap.size + 1) ⟨rm, 0, ⟨#[]⟩, 0, 0, dy⟩ _ rfl rfl (by simp [go_sem, zeroLot]) (by simp [go_sem, zeroLot]) (by simp [go_sem, zeroLot]) (by simp [go_sem, zeroLot]) (by simp [go_sem, zeroLot]) (by simp [go_sem, zeroLot])) rfl ?_
          exact Ret.of (by rw [HE.out, errorQ]; simp [hl, HO.out, liesP, HFS.out]; rfl) (by repeat (first | exact Below.refl _ _ | exact Below.refl (World.heap _).size _ | assumption | refine B_alloc ?_ _ | refine B_ext ?_ _ | refine B_drew ?_ | refine B_drewN ?_ _ | refine B_set ?_ (by simp; omega) _))
        · have HO : Hid (¬ ost = 1) := ho
          have ho2 : (ost != 1) = true := by simp [ho]
          go_wp2_with (go_at_call 54; refine (lot_any base bb k ss rs _ _ (he.keep (by repeat (first | exact Below.refl _ _ | exact Below.refl (World.heap _).size _ | assumption | refine B_alloc ?_ _ | refine B_ext ?_ _ | refine B_drew ?_ | refine B_drewN ?_ _ | refine B_set ?_ (by simp; omega) _)))).mono ?_; rintro e wq ⟨rfl, zq, rfl⟩; rw [hl]; unfold retLot Lot.v)
          refine bodyPost_ret (v := .tuple #[zeroLot.v, .int .i64 28]) (results_lot rfl _ _ (w.heap.size + 1) zeroLot _ rfl rfl (by simp [go_sem, zeroLot]) (by simp [go_sem, zeroLot]) (by simp [go_sem, zeroLot]) (by simp [go_sem, zeroLot]) (by simp [go_sem, zeroLot]) (by simp [go_sem, zeroLot])) rfl ?_
          exact Ret.of (by rw [HE.out, errorQ]; simp [hl, HO.out]; rfl) (by repeat (first | exact Below.refl _ _ | exact Below.refl (World.heap _).size _ | assumption | refine B_alloc ?_ _ | refine B_ext ?_ _ | refine B_drew ?_ | refine B_drewN ?_ _ | refine B_set ?_ (by simp; omega) _))
    · cases hl : lotK k rm with
      | none =>
        go_wp2_with (go_at_call 54; refine (lot_any base bb k ss rs _ _ (he.keep (by repeat (first | exact Below.refl _ _ | exact Below.refl (World.heap _).size _ | assumption | refine B_alloc ?_ _ | refine B_ext ?_ _ | refine B_drew ?_ | refine B_drewN ?_ _ | refine B_set ?_ (by simp; omega) _)))).mono ?_; rintro e wq ⟨rfl, zq, rfl⟩; rw [hl]; unfold retLot Lot.v)
        refine bodyPost_ret (v := .tuple #[zeroLot.v, .int .i64 6]) (results_lot rfl _ _ (w.heap.size + 1) zeroLot _ rfl rfl (by simp [go_sem, zeroLot]) (by simp [go_sem, zeroLot]) (by simp [go_sem, zeroLot]) (by simp [go_sem, zeroLot]) (by simp [go_sem, zeroLot]) (by simp [go_sem, zeroLot])) rfl ?_
        exact Ret.of (by rw [HE.out, errorQ]; simp [hl]; rfl) (by repeat (first | exact Below.refl _ _ | exact Below.refl (World.heap _).size _ | assumption | refine B_alloc ?_ _ | refine B_ext ?_ _ | refine B_drew ?_ | refine B_drewN ?_ _ | refine B_set ?_ (by simp; omega) _))
      | some old =>
        have hlies := he.lies rm old hl
        obtain ⟨orm, ost, osi, olv, oco, osc⟩ := old
        dsimp only at hlies
        by_cases ho : ost = 1
        · obtain ⟨⟨s, hfs⟩, hlv1, hlv2⟩ := hlies ho
          have HO : Hid (ost = 1) := ho
          have HFS := Lib.hid hfs
          have ho2 : (ost != 1) = false := by simp [ho]
          clear ho hfs hlies
          go_wp2_with (go_at_call 54; refine (lot_any base bb k ss rs _ _ (he.keep (by repeat (first | exact Below.refl _ _ | exact Below.refl (World.heap _).size _ | assumption | refine B_alloc ?_ _ | refine B_ext ?_ _ | refine B_drew ?_ | refine B_drewN ?_ _ | refine B_set ?_ (by simp; omega) _)))).mono ?_; rintro e wq ⟨rfl, zq, rfl⟩; rw [hl]; unfold retLot Lot.v)
          (refine wp_region_quiet_tail 8 (by kernel_rfl) (by kernel_rfl) ?_
           simp only [List.take_succ_cons, List.take_zero, List.drop_succ_cons, List.drop_zero]
           repeat (first | go_big_quiet_skip | (go_big_quiet_want; go_big_quiet_op; first | go_big_quiet_on | (apply Exists.intro; refine ⟨fun _ => ?_, ?_⟩; (go_at_call 105; exact quietx (open_any base bb k ss rs _ _ _ _ _ _ _ _ s _ (he.keep (by repeat (first | exact Below.refl _ _ | exact Below.refl (World.heap _).size _ | assumption | refine B_alloc ?_ _ | refine B_ext ?_ _ | refine B_drew ?_ | refine B_drewN ?_ _ | refine B_set ?_ (by simp; omega) _))) HFS.out (by omega) (by omega))); go_big_quiet_on)))
           refine wpQuiet_nil ?_
           rintro _ ⟨zq, rfl⟩)
          go_wp2_with fail
          refine bodyPost_ret (v := .tuple #[Lot.v ⟨rm, 2, ⟨#[]⟩, 0, 0, dy⟩, .int .i64 (openP k rs s ⟨orm, ost, osi, olv, oco, osc⟩ dy o)]) (results_lot rfl _ _ (w.heap.size + 1) ⟨rm, 2, ⟨#[]⟩, 0, 0, dy⟩ _ rfl rfl (by simp [go_sem, zeroLot]) (by simp [go_sem, zeroLot]) (by simp [go_sem, zeroLot]) (by simp [go_sem, zeroLot]) (by simp [go_sem, zeroLot]) (by simp [go_sem, zeroLot])) rfl ?_
          exact Ret.of (by rw [HE.out, errorQ]; simp [hl, HO.out, liesP, HFS.out]; rfl) (by repeat (first | exact Below.refl _ _ | exact Below.refl (World.heap _).size _ | assumption | refine B_alloc ?_ _ | refine B_ext ?_ _ | refine B_drew ?_ | refine B_drewN ?_ _ | refine B_set ?_ (by simp; omega) _))
        · have HO : Hid (¬ ost = 1) := ho
          have ho2 : (ost != 1) = true := by simp [ho]
          go_wp2_with (go_at_call 54; refine (lot_any base bb k ss rs _ _ (he.keep (by repeat (first | exact Below.refl _ _ | exact Below.refl (World.heap _).size _ | assumption | refine B_alloc ?_ _ | refine B_ext ?_ _ | refine B_drew ?_ | refine B_drewN ?_ _ | refine B_set ?_ (by simp; omega) _)))).mono ?_; rintro e wq ⟨rfl, zq, rfl⟩; rw [hl]; unfold retLot Lot.v)
          refine bodyPost_ret (v := .tuple #[zeroLot.v, .int .i64 28]) (results_lot rfl _ _ (w.heap.size + 1) zeroLot _ rfl rfl (by simp [go_sem, zeroLot]) (by simp [go_sem, zeroLot]) (by simp [go_sem, zeroLot]) (by simp [go_sem, zeroLot]) (by simp [go_sem, zeroLot]) (by simp [go_sem, zeroLot])) rfl ?_
          exact Ret.of (by rw [HE.out, errorQ]; simp [hl, HO.out]; rfl) (by repeat (first | exact Below.refl _ _ | exact Below.refl (World.heap _).size _ | assumption | refine B_alloc ?_ _ | refine B_ext ?_ _ | refine B_drew ?_ | refine B_drewN ?_ _ | refine B_set ?_ (by simp; omega) _))
    · cases hl : lotK k rm with
      | none =>
        go_wp2_with (go_at_call 54; refine (lot_any base bb k ss rs _ _ (he.keep (by repeat (first | exact Below.refl _ _ | exact Below.refl (World.heap _).size _ | assumption | refine B_alloc ?_ _ | refine B_ext ?_ _ | refine B_drew ?_ | refine B_drewN ?_ _ | refine B_set ?_ (by simp; omega) _)))).mono ?_; rintro e wq ⟨rfl, zq, rfl⟩; rw [hl]; unfold retLot Lot.v)
        refine bodyPost_ret (v := .tuple #[zeroLot.v, .int .i64 6]) (results_lot rfl _ _ (w.heap.size + 1) zeroLot _ rfl rfl (by simp [go_sem, zeroLot]) (by simp [go_sem, zeroLot]) (by simp [go_sem, zeroLot]) (by simp [go_sem, zeroLot]) (by simp [go_sem, zeroLot]) (by simp [go_sem, zeroLot])) rfl ?_
        exact Ret.of (by rw [HE.out, errorQ]; simp [hl]; rfl) (by repeat (first | exact Below.refl _ _ | exact Below.refl (World.heap _).size _ | assumption | refine B_alloc ?_ _ | refine B_ext ?_ _ | refine B_drew ?_ | refine B_drewN ?_ _ | refine B_set ?_ (by simp; omega) _))
      | some old =>
        have hlies := he.lies rm old hl
        obtain ⟨orm, ost, osi, olv, oco, osc⟩ := old
        dsimp only at hlies
        by_cases ho : ost = 1
        · obtain ⟨⟨s, hfs⟩, hlv1, hlv2⟩ := hlies ho
          have HO : Hid (ost = 1) := ho
          have HFS := Lib.hid hfs
          have ho2 : (ost != 1) = false := by simp [ho]
          clear ho hfs hlies
          have hres := site_res he.sl osi
          rw [HFS.out] at hres
          obtain ⟨b, off, hp, hb, hcs⟩ := hres
          have x1 : w.cell? ⟨b, off + 1, none⟩ = some (.int .i64 s.kind) := hcs 1 _ rfl
          have hsk : siteKind ss osi = s.kind := by rw [siteKind, HFS.out]
          have HSK := Lib.hid hsk
          obtain ⟨l1, l2⟩ := hlow rfl
          have hl1 := he.l1
          have hl3 := he.l3
          clear hcs hsk
          go_wp2_with (go_at_call 54; refine (lot_any base bb k ss rs _ _ (he.keep (by repeat (first | exact Below.refl _ _ | exact Below.refl (World.heap _).size _ | assumption | refine B_alloc ?_ _ | refine B_ext ?_ _ | refine B_drew ?_ | refine B_drewN ?_ _ | refine B_set ?_ (by simp; omega) _)))).mono ?_; rintro e wq ⟨rfl, zq, rfl⟩; rw [hl]; unfold retLot Lot.v)
          (refine wp_region_ext_lit (by kernel_rfl) (by kernel_rfl) ?_
           repeat (first | go_big_quiet_skip | (go_big_quiet_want; go_big_quiet_op; first | go_big_quiet_on | (apply Exists.intro; refine ⟨fun _ => ?_, ?_⟩; (go_at_call 82; exact quietx (siteOf_any ss _ _ _ _ _ _ _ _ _ _ _ rfl (he.sl.keep (by repeat (first | exact Below.refl _ _ | exact Below.refl (World.heap _).size _ | assumption | refine B_alloc ?_ _ | refine B_ext ?_ _ | refine B_drew ?_ | refine B_drewN ?_ _ | refine B_set ?_ (by simp; omega) _))) (by omega))); go_big_quiet_on)))
           refine wpQuiet_nil ?_
           rintro _ ⟨zq, rfl⟩)
          cases hk0 : (s.kind != 0)
          · by_cases hge : olv ≤ l
            · go_wp2_with fail
              refine bodyPost_ret (v := .tuple #[zeroLot.v, .int .i64 2]) (results_lot rfl _ _ (w.heap.size + 1) zeroLot _ rfl rfl (by simp [go_sem, zeroLot]) (by simp [go_sem, zeroLot]) (by simp [go_sem, zeroLot]) (by simp [go_sem, zeroLot]) (by simp [go_sem, zeroLot]) (by simp [go_sem, zeroLot])) rfl ?_
              exact Ret.of (by rw [HE.out, errorQ]; simp [hl, HO.out, HSK.out, hk0, hge]; rfl) (by repeat (first | exact Below.refl _ _ | exact Below.refl (World.heap _).size _ | assumption | refine B_alloc ?_ _ | refine B_ext ?_ _ | refine B_drew ?_ | refine B_drewN ?_ _ | refine B_set ?_ (by simp; omega) _))
            · have HG : Hid (¬ olv ≤ l) := hge
              cases hoc : occP osi l (olv - 1) (lotsNow k.st)
              · go_wp2_with (go_at_call 103; refine (occupied_any base bb k _ _ _ _ (he.keep (by repeat (first | exact Below.refl _ _ | exact Below.refl (World.heap _).size _ | assumption | refine B_alloc ?_ _ | refine B_ext ?_ _ | refine B_drew ?_ | refine B_drewN ?_ _ | refine B_set ?_ (by simp; omega) _))).bk (by omega)).mono ?_; rintro e wq ⟨rfl, zq, rfl⟩; rw [hoc])
                go_region
                go_wp2_with fail
                (refine wp_region_quiet_tail 8 (by kernel_rfl) (by kernel_rfl) ?_
                 simp only [List.take_succ_cons, List.take_zero, List.drop_succ_cons, List.drop_zero]
                 repeat (first | go_big_quiet_skip | (go_big_quiet_want; go_big_quiet_op; first | go_big_quiet_on | (apply Exists.intro; refine ⟨fun _ => ?_, ?_⟩; (go_at_call 105; exact quietx (open_any base bb k ss rs _ _ _ _ _ _ _ _ s _ (he.keep (by repeat (first | exact Below.refl _ _ | exact Below.refl (World.heap _).size _ | assumption | refine B_alloc ?_ _ | refine B_ext ?_ _ | refine B_drew ?_ | refine B_drewN ?_ _ | refine B_set ?_ (by simp; omega) _))) HFS.out (by omega) (by omega))); go_big_quiet_on)))
                 refine wpQuiet_nil ?_
                 rintro _ ⟨zq, rfl⟩)
                go_wp2_with fail
                refine bodyPost_ret (v := .tuple #[Lot.v ⟨rm, 1, osi, l, oco, dy⟩, .int .i64 (openP k rs s ⟨orm, ost, osi, olv, oco, osc⟩ dy o)]) (results_lot rfl _ _ (w.heap.size + 1) ⟨rm, 1, osi, l, oco, dy⟩ _ rfl rfl (by simp [go_sem, zeroLot]) (by simp [go_sem, zeroLot]) (by simp [go_sem, zeroLot]) (by simp [go_sem, zeroLot]) (by simp [go_sem, zeroLot]) (by simp [go_sem, zeroLot])) rfl ?_
                exact Ret.of (by rw [HE.out, errorQ]; simp [hl, HO.out, HSK.out, hk0, (show ¬ (olv ≤ l) by have := HG.out; omega), hoc, liesP, HFS.out]; rfl) (by repeat (first | exact Below.refl _ _ | exact Below.refl (World.heap _).size _ | assumption | refine B_alloc ?_ _ | refine B_ext ?_ _ | refine B_drew ?_ | refine B_drewN ?_ _ | refine B_set ?_ (by simp; omega) _))
              · go_wp2_with (go_at_call 103; refine (occupied_any base bb k _ _ _ _ (he.keep (by repeat (first | exact Below.refl _ _ | exact Below.refl (World.heap _).size _ | assumption | refine B_alloc ?_ _ | refine B_ext ?_ _ | refine B_drew ?_ | refine B_drewN ?_ _ | refine B_set ?_ (by simp; omega) _))).bk (by omega)).mono ?_; rintro e wq ⟨rfl, zq, rfl⟩; rw [hoc])
                refine bodyPost_ret (v := .tuple #[zeroLot.v, .int .i64 16]) (results_lot rfl _ _ (w.heap.size + 1) zeroLot _ rfl rfl (by simp [go_sem, zeroLot]) (by simp [go_sem, zeroLot]) (by simp [go_sem, zeroLot]) (by simp [go_sem, zeroLot]) (by simp [go_sem, zeroLot]) (by simp [go_sem, zeroLot])) rfl ?_
                exact Ret.of (by rw [HE.out, errorQ]; simp [hl, HO.out, HSK.out, hk0, (show ¬ (olv ≤ l) by have := HG.out; omega), hoc]; rfl) (by repeat (first | exact Below.refl _ _ | exact Below.refl (World.heap _).size _ | assumption | refine B_alloc ?_ _ | refine B_ext ?_ _ | refine B_drew ?_ | refine B_drewN ?_ _ | refine B_set ?_ (by simp; omega) _))
          · go_wp2_with fail
            refine bodyPost_ret (v := .tuple #[zeroLot.v, .int .i64 15]) (results_lot rfl _ _ (w.heap.size + 1) zeroLot _ rfl rfl (by simp [go_sem, zeroLot]) (by simp [go_sem, zeroLot]) (by simp [go_sem, zeroLot]) (by simp [go_sem, zeroLot]) (by simp [go_sem, zeroLot]) (by simp [go_sem, zeroLot])) rfl ?_
            exact Ret.of (by rw [HE.out, errorQ]; simp [hl, HO.out, HSK.out, hk0]; rfl) (by repeat (first | exact Below.refl _ _ | exact Below.refl (World.heap _).size _ | assumption | refine B_alloc ?_ _ | refine B_ext ?_ _ | refine B_drew ?_ | refine B_drewN ?_ _ | refine B_set ?_ (by simp; omega) _))
        · have HO : Hid (¬ ost = 1) := ho
          have ho2 : (ost != 1) = true := by simp [ho]
          go_wp2_with (go_at_call 54; refine (lot_any base bb k ss rs _ _ (he.keep (by repeat (first | exact Below.refl _ _ | exact Below.refl (World.heap _).size _ | assumption | refine B_alloc ?_ _ | refine B_ext ?_ _ | refine B_drew ?_ | refine B_drewN ?_ _ | refine B_set ?_ (by simp; omega) _)))).mono ?_; rintro e wq ⟨rfl, zq, rfl⟩; rw [hl]; unfold retLot Lot.v)
          refine bodyPost_ret (v := .tuple #[zeroLot.v, .int .i64 28]) (results_lot rfl _ _ (w.heap.size + 1) zeroLot _ rfl rfl (by simp [go_sem, zeroLot]) (by simp [go_sem, zeroLot]) (by simp [go_sem, zeroLot]) (by simp [go_sem, zeroLot]) (by simp [go_sem, zeroLot]) (by simp [go_sem, zeroLot])) rfl ?_
          exact Ret.of (by rw [HE.out, errorQ]; simp [hl, HO.out]; rfl) (by repeat (first | exact Below.refl _ _ | exact Below.refl (World.heap _).size _ | assumption | refine B_alloc ?_ _ | refine B_ext ?_ _ | refine B_drew ?_ | refine B_drewN ?_ _ | refine B_set ?_ (by simp; omega) _))
  · go_wp2_with (go_at_call 10; refine (checkEvent_any _ _ _ _ _ _ _ _ HS.out HR.out).mono ?_; rintro e wq ⟨rfl, zq, rfl⟩)
    refine bodyPost_ret (v := .tuple #[zeroLot.v, .int .i64 (checkEventP ⟨dy, kd, si, l, rm, c, o⟩)]) (results_lot rfl _ _ (w.heap.size + 1) zeroLot _ rfl rfl (by simp [go_sem, zeroLot]) (by simp [go_sem, zeroLot]) (by simp [go_sem, zeroLot]) (by simp [go_sem, zeroLot]) (by simp [go_sem, zeroLot]) (by simp [go_sem, zeroLot])) rfl ?_
    exact Ret.of (by unfold errorP; rw [if_pos hce]; rfl) (by repeat (first | exact Below.refl _ _ | exact Below.refl (World.heap _).size _ | assumption | refine B_alloc ?_ _ | refine B_ext ?_ _ | refine B_drew ?_ | refine B_drewN ?_ _ | refine B_set ?_ (by simp; omega) _))

end Go.Proofs.YtpohkolapgofdaaGreatDoor
