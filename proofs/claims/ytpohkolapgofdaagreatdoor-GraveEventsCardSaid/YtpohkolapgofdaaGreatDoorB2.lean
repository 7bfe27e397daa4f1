/- Walks of the book's questions: a remain's lot; covered, place, rest over, open. -/
import Derived.Test.YtpohkolapgofdaaGreatDoorB1
namespace Go.Proofs.YtpohkolapgofdaaGreatDoor
open Go.RowKit
attribute [local go_sem] World.cell?_alloc_mark ext_size ext_cell ext_frozen lt_add_r lt_add_r2 lt_add_r3 lt_add_r4 lt_add_r5 lt_add_r6 lt_add_r7 lt_add_r8

set_option maxRecDepth 100000 in
set_option maxHeartbeats 2000000 in
theorem lot_any (base bb : Nat) (k : Bk) (ss : List Site) (rs : List Rest) (nm : ByteArray) (w : World) (he : Env w base bb k ss rs) :
    Calls Tryz.prog 54 #[.pointer (some ⟨bb, 0, none⟩), .string nm] w (Ret w (retLot (lotK k nm))) := by
  obtain ⟨v, bm, hblk, hown, hm, hbb, hbm⟩ := he.bk
  obtain ⟨A, c, rfl, hS, hcap⟩ := own_sl stay_len hown
  have hlt : bb < w.heap.size := (Array.getElem?_eq_some_iff.1 hblk).1
  have g5 : w.cell? ⟨bb, 5, none⟩ = some (.slice A k.st.length c) := by simp [World.cell?, hblk]
  have g6 : w.cell? ⟨bb, 6, none⟩ = some (.map (some bm)) := by simp [World.cell?, hblk]
  have hl3 := he.l3
  have hgood := he.good nm
  unfold lotK
  clear hown hblk he hcap
  have hlk : ∀ o, (Instr.lookup 140 (.map (some bm)) (.string nm) true).run Tryz.prog (w.alloc o) = .ok (.tuple #[.int .i64 ((mget eqS nm k.m).getD 0), .bool (mget eqS nm k.m).isSome]) (w.alloc o) := fun o => run_lookup_ok mapSI (hm.alloc o) nm
  cases hq : mget eqS nm k.m with
  | none =>
    simp only [hq] at hlk
    go_enter Tryz.func54, Tryz.ntmps54
    go_wp2_with fail
    refine bodyPost_ret (v := .tuple #[zeroLot.v, .bool false]) (by simp [results, Tryz.f54, go_sem, zeroLot, Lot.v]) rfl ?_
    exact Ret.of rfl (by repeat (first | exact Below.refl _ _ | exact Below.refl (World.heap _).size _ | assumption | refine B_alloc ?_ _ | refine B_ext ?_ _ | refine B_drew ?_ | refine B_drewN ?_ _ | refine B_set ?_ (by simp; omega) _))
  | some i =>
    obtain ⟨j, rfl, hj⟩ := hgood i hq
    simp only [hq] at hlk
    obtain ⟨b, off, rfl, hb, hc⟩ := hS.at hj
    have h0' : w.cell? ⟨b, off + j * 7, none⟩ = some (.string k.st[j].lot.remain) := hc 0 _ rfl
    have h1 : w.cell? ⟨b, off + j * 7 + 1, none⟩ = some (.int .i64 k.st[j].lot.state) := hc 1 _ rfl
    have h2 : w.cell? ⟨b, off + j * 7 + 2, none⟩ = some (.string k.st[j].lot.site) := hc 2 _ rfl
    have h3 : w.cell? ⟨b, off + j * 7 + 3, none⟩ = some (.int .i64 k.st[j].lot.level) := hc 3 _ rfl
    have h4 : w.cell? ⟨b, off + j * 7 + 4, none⟩ = some (.int .i64 k.st[j].lot.container) := hc 4 _ rfl
    have h5 : w.cell? ⟨b, off + j * 7 + 5, none⟩ = some (.int .i64 k.st[j].lot.since) := hc 5 _ rfl
    have hr : retLot ((some (j : Int)).bind fun i => (k.st[i.toNat]?).map (·.lot)) = .tuple #[k.st[j].lot.v, .bool true] := by
      simp [retLot, List.getElem?_eq_getElem hj]
    rw [hr]
    have hlt2 : (j : Int) < (k.st.length : Int) := by omega
    clear hc hr hq hS hgood
    generalize k.st[j] = s at *
    obtain ⟨⟨rm, sta, si, lv, co, sc⟩, ti⟩ := s
    dsimp only at h0' h1 h2 h3 h4 h5
    go_enter Tryz.func54, Tryz.ntmps54
    go_wp2_with fail
    refine bodyPost_ret (v := .tuple #[Lot.v ⟨rm, sta, si, lv, co, sc⟩, .bool true]) (by simp [results, Tryz.f54, go_sem, Lot.v]) rfl ?_
    exact Ret.of rfl (by repeat (first | exact Below.refl _ _ | exact Below.refl (World.heap _).size _ | assumption | refine B_alloc ?_ _ | refine B_ext ?_ _ | refine B_drew ?_ | refine B_drewN ?_ _ | refine B_set ?_ (by simp; omega) _))

def covP (kd : Int) (nm : ByteArray) (level : Int) (l : List Lot) : Bool := kd == 0 && occP nm (level + 1) 12 l
set_option maxRecDepth 100000 in
set_option maxHeartbeats 2000000 in
theorem covered_any (base bb : Nat) (k : Bk) (ss : List Site) (rs : List Rest) (nm : ByteArray) (kd so d st r lv : Int) (w : World) (he : Env w base bb k ss rs) (h1 : -100000 ≤ lv) (h2 : lv ≤ 100000) :
    Calls Tryz.prog 104 #[.pointer (some ⟨bb, 0, none⟩), .agg #[.string nm, .int .i64 kd, .int .i64 so, .int .i64 d, .int .i64 st, .int .i64 r], .int .i64 lv] w (Ret w (.bool (covP kd nm lv (lotsNow k.st)))) := by
  go_enter Tryz.func104, Tryz.ntmps104
  have hk := he.bk.keep (B_alloc (Below.refl _ w) (.cells #[.string nm, .int .i64 kd, .int .i64 so, .int .i64 d, .int .i64 st, .int .i64 r] 81))
  have hl := he.l3
  by_cases h0 : kd = 0
  · subst h0
    go_wp2_with (go_at_call 103; refine (occupied_any base bb k _ _ _ _ hk (by omega)).mono ?_; rintro e wq ⟨rfl, zq, rfl⟩)
    go_ret
    exact Ret.of (by simp [covP]) (by repeat (first | exact Below.refl _ _ | exact Below.refl (World.heap _).size _ | assumption | refine B_alloc ?_ _ | refine B_ext ?_ _ | refine B_drew ?_ | refine B_drewN ?_ _ | refine B_set ?_ (by simp; omega) _))
  · go_wp2_with fail
    all_goals go_ret
    all_goals exact Ret.of (by simp [covP, h0]) (by repeat (first | exact Below.refl _ _ | exact Below.refl (World.heap _).size _ | assumption | refine B_alloc ?_ _ | refine B_ext ?_ _ | refine B_drew ?_ | refine B_drewN ?_ _ | refine B_set ?_ (by simp; omega) _))

theorem book_cells {w : World} {base bb : Nat} {k : Bk} {ss : List Site} {rs : List Rest} (he : Env w base bb k ss rs) : bb < w.heap.size ∧
    w.cell? ⟨bb, 0, none⟩ = some (.slice k.A ss.length k.c) ∧ w.cell? ⟨bb, 1, none⟩ = some (.slice k.R rs.length k.rc) ∧ w.cell? ⟨bb, 2, none⟩ = some (.int .i64 k.c0) ∧ w.cell? ⟨bb, 3, none⟩ = some (.int .i64 k.c1) ∧ w.cell? ⟨bb, 4, none⟩ = some (.int .i64 k.c2) := by
  obtain ⟨v, bm, hblk, _⟩ := he.bk
  refine ⟨(Array.getElem?_eq_some_iff.1 hblk).1, ?_⟩
  rw [← he.hn, ← he.hrn]
  simp [World.cell?, hblk]

def placeP (k : Bk) (ss : List Site) (site : ByteArray) (level co : Int) : Int :=
  match findSite site ss with
  | none => 6
  | some s =>
    if decide (s.room ≤ level) then 2 else
    if !takesP k.c0 k.c1 k.c2 s.kind s.depth s.step level co then 15 else
    if occP site level level (lotsNow k.st) then 16 else
    if covP s.kind s.name level (lotsNow k.st) then 18 else 0

set_option maxRecDepth 100000 in
set_option maxHeartbeats 2000000 in
theorem place_any (base bb : Nat) (k : Bk) (ss : List Site) (rs : List Rest) (site : ByteArray) (lv co : Int) (w : World) (he : Env w base bb k ss rs) (h1 : -100000 ≤ lv) (h2 : lv ≤ 100000) (hc1 : 0 ≤ co) (hc2 : co ≤ 2) :
    Calls Tryz.prog 84 #[.pointer (some ⟨bb, 0, none⟩), .string site, .int .i64 lv, .int .i64 co] w (Ret w (.int .i64 (placeP k ss site lv co))) := by
  have hres := site_res he.sl site
  obtain ⟨hlt, g0, g1, g2, g3, g4⟩ := book_cells he
  have hl1 := he.l1
  have hl3 := he.l3
  go_enter Tryz.func84, Tryz.ntmps84
  cases hf : findSite site ss with
  | none =>
    rw [hf] at hres
    have hp : sitePtr k.A site ss = none := hres
    go_wp2_with (go_at_call 82; refine (siteOf_any ss _ _ _ _ _ _ _ _ _ _ _ rfl he.sl (by omega)).mono ?_; rintro e wq ⟨rfl, zq, rfl⟩)
    go_ret
    exact Ret.of (int_eq (by unfold placeP; rw [hf])) (by repeat (first | exact Below.refl _ _ | exact Below.refl (World.heap _).size _ | assumption | refine B_alloc ?_ _ | refine B_ext ?_ _ | refine B_drew ?_ | refine B_drewN ?_ _ | refine B_set ?_ (by simp; omega) _))
  | some s =>
    rw [hf] at hres
    have HF := Lib.hid hf
    obtain ⟨b, off, hp, hb, hcs⟩ := hres
    have x0 : w.cell? ⟨b, off, none⟩ = some (.string s.name) := hcs 0 _ rfl
    have x1 : w.cell? ⟨b, off + 1, none⟩ = some (.int .i64 s.kind) := hcs 1 _ rfl
    have x2 : w.cell? ⟨b, off + 2, none⟩ = some (.int .i64 s.soil) := hcs 2 _ rfl
    have x3 : w.cell? ⟨b, off + 3, none⟩ = some (.int .i64 s.depth) := hcs 3 _ rfl
    have x4 : w.cell? ⟨b, off + 4, none⟩ = some (.int .i64 s.step) := hcs 4 _ rfl
    have x5 : w.cell? ⟨b, off + 5, none⟩ = some (.int .i64 s.room) := hcs 5 _ rfl
    clear hcs hf
    obtain ⟨nm, kd, so, d, st, r⟩ := s
    dsimp only at x0 x1 x2 x3 x4 x5
    have HP : Hid (placeP k ss site lv co = if decide (r ≤ lv) then 2 else if !takesP k.c0 k.c1 k.c2 kd d st lv co then 15 else if occP site lv lv (lotsNow k.st) then 16 else if covP kd nm lv (lotsNow k.st) then 18 else 0) := by
      show _ = _
      unfold placeP
      rw [HF.out]
    clear HF
    go_wp2_with (go_at_call 82; refine (siteOf_any ss _ _ _ _ _ _ _ _ _ _ _ rfl he.sl (by omega)).mono ?_; rintro e wq ⟨rfl, zq, rfl⟩)
    · have hr : r ≤ lv := by assumption
      go_ret
      exact Ret.of (int_eq (by rw [HP.out, if_pos (by simpa using hr)])) (by repeat (first | exact Below.refl _ _ | exact Below.refl (World.heap _).size _ | assumption | refine B_alloc ?_ _ | refine B_ext ?_ _ | refine B_drew ?_ | refine B_drewN ?_ _ | refine B_set ?_ (by simp; omega) _))
    · have hr : lv < r := by assumption
      (refine wp_region_ext_lit (by kernel_rfl) (by kernel_rfl) ?_
       repeat (first | go_big_quiet_skip | (go_big_quiet_want; go_big_quiet_op; first | go_big_quiet_on | (apply Exists.intro; refine ⟨fun _ => ?_, ?_⟩; (go_at_call 102; exact quietx (takes_any _ _ _ _ _ _ _ _ _ _ _ _ _ _ _ _ _ _ hc1 hc2)); go_big_quiet_on)))
       refine wpQuiet_nil ?_
       rintro _ ⟨zq, rfl⟩)
      go_wp2_with (first
        | (go_at_call 103; refine (occupied_any base bb k _ _ _ _ (he.bk.keep (by repeat (first | exact Below.refl _ _ | exact Below.refl (World.heap _).size _ | assumption | refine B_alloc ?_ _ | refine B_ext ?_ _ | refine B_drew ?_ | refine B_drewN ?_ _ | refine B_set ?_ (by simp; omega) _))) (by omega)).mono ?_; intro e wq hq; rcases Ret.bools hq with ⟨zq, rfl, ⟨hb, rfl⟩ | ⟨hb, rfl⟩⟩ <;> clear hq)
        | (go_at_call 104; refine (covered_any base bb k ss rs _ _ _ _ _ _ _ _ (he.keep (by repeat (first | exact Below.refl _ _ | exact Below.refl (World.heap _).size _ | assumption | refine B_alloc ?_ _ | refine B_ext ?_ _ | refine B_drew ?_ | refine B_drewN ?_ _ | refine B_set ?_ (by simp; omega) _))) h1 h2).mono ?_; intro e wq hq; rcases Ret.bools hq with ⟨zq, rfl, ⟨hb, rfl⟩ | ⟨hb, rfl⟩⟩ <;> clear hq))
      all_goals go_ret
      all_goals refine Ret.of (int_eq ?_) (by repeat (first | exact Below.refl _ _ | exact Below.refl (World.heap _).size _ | assumption | refine B_alloc ?_ _ | refine B_ext ?_ _ | refine B_drew ?_ | refine B_drewN ?_ _ | refine B_set ?_ (by simp; omega) _))
      all_goals rw [HP.out, if_neg (by simp; omega)]
      all_goals go_tidy
      all_goals simp_all

/-- The day on which the rest of a lot is over; its site is s. -/
def restOverP (rs : List Rest) (s : Site) (l : Lot) : Int := wrap64 (l.since + restP s.soil l.container rs)

set_option maxRecDepth 100000 in
set_option maxHeartbeats 2000000 in
theorem restOver_any (base bb : Nat) (k : Bk) (ss : List Site) (rs : List Rest) (rm : ByteArray) (sta : Int) (si : ByteArray) (lv co sc : Int) (s : Site) (w : World) (he : Env w base bb k ss rs) (hf : findSite si ss = some s) :
    Calls Tryz.prog 55 #[.pointer (some ⟨bb, 0, none⟩), .agg #[.string rm, .int .i64 sta, .string si, .int .i64 lv, .int .i64 co, .int .i64 sc]] w (Ret w (.int .i64 (restOverP rs s ⟨rm, sta, si, lv, co, sc⟩))) := by
  have hres := site_res he.sl si
  obtain ⟨hlt, g0, g1, g2, g3, g4⟩ := book_cells he
  have hl1 := he.l1
  have hl2 := he.l2
  rw [hf] at hres
  obtain ⟨b, off, hp, hb, hcs⟩ := hres
  have x0 : w.cell? ⟨b, off, none⟩ = some (.string s.name) := hcs 0 _ rfl
  have x1 : w.cell? ⟨b, off + 1, none⟩ = some (.int .i64 s.kind) := hcs 1 _ rfl
  have x2 : w.cell? ⟨b, off + 2, none⟩ = some (.int .i64 s.soil) := hcs 2 _ rfl
  have x3 : w.cell? ⟨b, off + 3, none⟩ = some (.int .i64 s.depth) := hcs 3 _ rfl
  have x4 : w.cell? ⟨b, off + 4, none⟩ = some (.int .i64 s.step) := hcs 4 _ rfl
  have x5 : w.cell? ⟨b, off + 5, none⟩ = some (.int .i64 s.room) := hcs 5 _ rfl
  clear hcs hf
  obtain ⟨nm, kd, so, d, st, r⟩ := s
  dsimp only at x0 x1 x2 x3 x4 x5
  go_enter Tryz.func55, Tryz.ntmps55
  go_wp2_with fail
  (refine wp_region_ext_lit (by kernel_rfl) (by kernel_rfl) ?_
   repeat (first | go_big_quiet_skip | (go_big_quiet_want; go_big_quiet_op; first | go_big_quiet_on | (apply Exists.intro; refine ⟨fun _ => ?_, ?_⟩; (first | (go_at_call 82; exact quietx (siteOf_any ss _ _ _ _ _ _ _ _ _ _ _ rfl (he.sl.keep (by repeat (first | exact Below.refl _ _ | exact Below.refl (World.heap _).size _ | assumption | refine B_alloc ?_ _ | refine B_ext ?_ _ | refine B_drew ?_ | refine B_drewN ?_ _ | refine B_set ?_ (by simp; omega) _))) (by omega))) | (go_at_call 81; exact quietx (rest_any rs _ _ _ _ _ _ _ _ _ _ _ _ _ _ _ _ (he.sr.keep (by repeat (first | exact Below.refl _ _ | exact Below.refl (World.heap _).size _ | assumption | refine B_alloc ?_ _ | refine B_ext ?_ _ | refine B_drew ?_ | refine B_drewN ?_ _ | refine B_set ?_ (by simp; omega) _))) (by omega)))); go_big_quiet_on)))
   refine wpQuiet_nil ?_
   rintro _ ⟨zq, rfl⟩)
  go_wp2_with fail
  go_ret
  exact Ret.of rfl (by repeat (first | exact Below.refl _ _ | exact Below.refl (World.heap _).size _ | assumption | refine B_alloc ?_ _ | refine B_ext ?_ _ | refine B_drew ?_ | refine B_drewN ?_ _ | refine B_set ?_ (by simp; omega) _))

def openP (k : Bk) (rs : List Rest) (s : Site) (l : Lot) (day : Int) (order : Bool) : Int :=
  if covP s.kind s.name l.level (lotsNow k.st) then 18 else if decide (day < restOverP rs s l) && !order then 17 else 0

set_option maxRecDepth 100000 in
set_option maxHeartbeats 2000000 in
theorem open_any (base bb : Nat) (k : Bk) (ss : List Site) (rs : List Rest) (rm : ByteArray) (sta : Int) (si : ByteArray) (lv co sc : Int) (day : Int) (order : Bool) (s : Site) (w : World) (he : Env w base bb k ss rs) (hf : findSite si ss = some s)
    (hl1 : -100000 ≤ lv) (hl2 : lv ≤ 100000) :
    Calls Tryz.prog 105 #[.pointer (some ⟨bb, 0, none⟩), .agg #[.string rm, .int .i64 sta, .string si, .int .i64 lv, .int .i64 co, .int .i64 sc], .int .i64 day, .bool order] w (Ret w (.int .i64 (openP k rs s ⟨rm, sta, si, lv, co, sc⟩ day order))) := by
  have hres := site_res he.sl si
  obtain ⟨hlt, g0, g1, g2, g3, g4⟩ := book_cells he
  have hs1 := he.l1
  have HF := Lib.hid hf
  rw [hf] at hres
  obtain ⟨b, off, hp, hb, hcs⟩ := hres
  have x0 : w.cell? ⟨b, off, none⟩ = some (.string s.name) := hcs 0 _ rfl
  have x1 : w.cell? ⟨b, off + 1, none⟩ = some (.int .i64 s.kind) := hcs 1 _ rfl
  have x2 : w.cell? ⟨b, off + 2, none⟩ = some (.int .i64 s.soil) := hcs 2 _ rfl
  have x3 : w.cell? ⟨b, off + 3, none⟩ = some (.int .i64 s.depth) := hcs 3 _ rfl
  have x4 : w.cell? ⟨b, off + 4, none⟩ = some (.int .i64 s.step) := hcs 4 _ rfl
  have x5 : w.cell? ⟨b, off + 5, none⟩ = some (.int .i64 s.room) := hcs 5 _ rfl
  clear hcs hf
  obtain ⟨nm, kd, so, d, st, r⟩ := s
  dsimp only at x0 x1 x2 x3 x4 x5
  have HO : Hid (openP k rs ⟨nm, kd, so, d, st, r⟩ ⟨rm, sta, si, lv, co, sc⟩ day order = if covP kd nm lv (lotsNow k.st) then 18 else if decide (day < restOverP rs ⟨nm, kd, so, d, st, r⟩ ⟨rm, sta, si, lv, co, sc⟩) && !order then 17 else 0) := rfl
  generalize openP k rs ⟨nm, kd, so, d, st, r⟩ ⟨rm, sta, si, lv, co, sc⟩ day order = O at *
  go_enter Tryz.func105, Tryz.ntmps105
  go_wp2_with fail
  (refine wp_region_ext_lit (by kernel_rfl) (by kernel_rfl) ?_
   repeat (first | go_big_quiet_skip | (go_big_quiet_want; go_big_quiet_op; first | go_big_quiet_on | (apply Exists.intro; refine ⟨fun _ => ?_, ?_⟩; (first | (go_at_call 82; exact quietx (siteOf_any ss _ _ _ _ _ _ _ _ _ _ _ rfl (he.sl.keep (by repeat (first | exact Below.refl _ _ | exact Below.refl (World.heap _).size _ | assumption | refine B_alloc ?_ _ | refine B_ext ?_ _ | refine B_drew ?_ | refine B_drewN ?_ _ | refine B_set ?_ (by simp; omega) _))) (by omega))) | (go_at_call 104; exact quietx (covered_any base bb k ss rs _ _ _ _ _ _ _ _ (he.keep (by repeat (first | exact Below.refl _ _ | exact Below.refl (World.heap _).size _ | assumption | refine B_alloc ?_ _ | refine B_ext ?_ _ | refine B_drew ?_ | refine B_drewN ?_ _ | refine B_set ?_ (by simp; omega) _))) hl1 hl2))); go_big_quiet_on)))
   refine wpQuiet_nil ?_
   rintro _ ⟨zq, rfl⟩)
  generalize hcv : covP kd nm lv (lotsNow k.st) = cv at *
  cases cv
  · go_wp2_with (go_at_call 55; refine (restOver_any base bb k ss rs _ _ _ _ _ _ _ _ (he.keep (by repeat (first | exact Below.refl _ _ | exact Below.refl (World.heap _).size _ | assumption | refine B_alloc ?_ _ | refine B_ext ?_ _ | refine B_drew ?_ | refine B_drewN ?_ _ | refine B_set ?_ (by simp; omega) _))) HF.out).mono ?_; rintro e wq ⟨rfl, zq, rfl⟩)
    all_goals go_ret
    all_goals refine Ret.of (int_eq ?_) (by repeat (first | exact Below.refl _ _ | exact Below.refl (World.heap _).size _ | assumption | refine B_alloc ?_ _ | refine B_ext ?_ _ | refine B_drew ?_ | refine B_drewN ?_ _ | refine B_set ?_ (by simp; omega) _))
    all_goals rw [HO.out, if_neg (by simp)]
    all_goals go_tidy
    · rw [if_pos (by simp_all)]
    · rw [if_neg (by simp_all)]
    · rw [if_neg (by simp; intro h; omega)]
  · go_wp2_with fail
    go_ret
    exact Ret.of (int_eq (by rw [HO.out, if_pos trivial])) (by repeat (first | exact Below.refl _ _ | exact Below.refl (World.heap _).size _ | assumption | refine B_alloc ?_ _ | refine B_ext ?_ _ | refine B_drew ?_ | refine B_drewN ?_ _ | refine B_set ?_ (by simp; omega) _))

end Go.Proofs.YtpohkolapgofdaaGreatDoor
