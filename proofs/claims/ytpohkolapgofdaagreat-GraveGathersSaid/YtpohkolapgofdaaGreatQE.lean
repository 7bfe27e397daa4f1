/- Walk: the lots at a site, by levels. -/
/- Walk: the lots at a site on a day. -/
/- Plain law of GraveDays: the lots at a site on a day are the reference's. -/
/- What the program tells of days, in the reference's words. -/
import Derived.Test.YtpohkolapgofdaaGreatHS
import Derived.Test.YtpohkolapgofdaaGreatF9
import Derived.Test.YtpohkolapgofdaaGreatF6
import Derived.Test.YtpohkolapgofdaaGreatLN
import Derived.Test.YtpohkolapgofdaaGreatL3
namespace Go.Proofs.YtpohkolapgofdaaGreat
open Go.RowKit Go.Shelf
attribute [local go_sem] World.cell?_alloc_mark ext_size ext_cell ext_frozen lt_add_r lt_add_r2 lt_add_r3 lt_add_r4 lt_add_r5 lt_add_r6 lt_add_r7 lt_add_r8

def hereL (nm : ByteArray) (L : List Lot) : List Lot := L.filter fun l => hereP l nm
theorem hereL_take {nm : ByteArray} {L : List Lot} {j : Nat} (h : j < L.length) : hereL nm (L.take (j + 1)) = hereL nm (L.take j) ++ (if hereP L[j] nm then [L[j]] else []) := by
  rw [List.take_succ_eq_append_getElem h, hereL, List.filter_append]
  congr 1
  cases hq : hereP L[j] nm <;> simp [hq]
theorem hereL_le (nm : ByteArray) (L : List Lot) : (hereL nm L).length ≤ L.length := List.length_filter_le _ _
/-- The lots at a site, by their levels, within a level by their remains' names. -/
def AtPost (w : World) (k : Bk) (nm : ByteArray) (e : Ending) (w' : World) : Prop :=
  ∃ v L, e = .returned v ∧ L.Perm (lotsNow k.st) ∧ Up L ∧ Held w' w.heap.size v (lvlSorted (hereL nm L)) ∧ ∃ z, w' = w.ext z
theorem Held.base {w : World} {m n : Nat} {v : Value} {xs : List Lot} (h : Held w n v xs) (hm : m ≤ n) : Held w m v xs := by
  rcases h with h | ⟨g, cap, h1, h2, h3⟩
  · exact .inl h
  · exact .inr ⟨g, cap, h1, Nat.le_trans hm h2, h3⟩
set_option maxRecDepth 100000 in
set_option maxHeartbeats 2000000 in
theorem at_any (base bb : Nat) (k : Bk) (nm : ByteArray) (w : World) (hbk : BookAt w base bb k) (hl : k.st.length ≤ 100000) (hf : (lotsNow k.st).length < 20) :
    Calls Tryz.prog 40 #[.pointer (some ⟨bb, 0, none⟩), .string nm] w (AtPost w k nm) := by
  go_enter Tryz.func40, Tryz.ntmps40
  go_wp2_with (go_at_call 35; refine (all_any base bb k _ hbk hl).mono ?_; rintro e wq ⟨A0, c0, L, rfl, hp, hu, hS, z, rfl⟩)
  have hL : L.length < 20 := by rw [hp.length_eq]; exact hf
  generalize hW0 : w.ext z = W0 at *
  have hB : Below w.heap.size w W0 := by rw [← hW0]; repeat (first | exact B_refl | exact Below.refl _ _ | assumption | with_reducible refine B_alloc ?_ _ | with_reducible refine B_ext ?_ _ | with_reducible refine B_drew ?_ | with_reducible refine B_drewN ?_ _ | with_reducible refine B_set ?_ (by simp; omega) _)
  clear hW0
  obtain ⟨N, hN⟩ : ∃ N, N = W0.heap.size := ⟨_, rfl⟩
  go_loopw [5, 11] (fun v i wr => ∃ j : Nat, j ≤ L.length ∧ i = .int .i64 j ∧ wr.ownsRow N 40 6 v (hereL nm (L.take j)).length ((hereL nm (L.take j)).flatMap Lot.cells) ∧ Below N W0 wr) (fun _ i _ => L.length - (intOf i).toNat)
  case atStart => exact ⟨0, Nat.zero_le _, rfl, World.ownsRow_nil _ _ _ _, Below.refl _ _⟩
  case round =>
    obtain ⟨j, hj, rfl, hown, hBr⟩ := hrel
    have hwN : N ≤ wr.heap.size := by have := hBr.size; omega
    by_cases hjl : j < L.length
    · obtain ⟨b, off, rfl, hb, hc0⟩ := hS.at hjl
      have hc : ∀ i u, (L[j].cells)[i]? = some u → wr.cell? ⟨b, off + j * 6 + i, none⟩ = some u := fun i u hu => (hBr.cell (p := ⟨b, off + j * 6 + i, none⟩) (by rw [hN]; exact hb)).trans (hc0 i u hu)
      have x0 : wr.cell? ⟨b, off + j * 6, none⟩ = some (.string L[j].remain) := hc 0 _ rfl
      have x1 : wr.cell? ⟨b, off + j * 6 + 1, none⟩ = some (.int .i64 L[j].state) := hc 1 _ rfl
      have x2 : wr.cell? ⟨b, off + j * 6 + 2, none⟩ = some (.string L[j].site) := hc 2 _ rfl
      have x3 : wr.cell? ⟨b, off + j * 6 + 3, none⟩ = some (.int .i64 L[j].level) := hc 3 _ rfl
      have x4 : wr.cell? ⟨b, off + j * 6 + 4, none⟩ = some (.int .i64 L[j].container) := hc 4 _ rfl
      have x5 : wr.cell? ⟨b, off + j * 6 + 5, none⟩ = some (.int .i64 L[j].since) := hc 5 _ rfl
      have HT := Lib.hid (hereL_take (nm := nm) hjl)
      have hlt2 : (j : Int) < (L.length : Int) := by omega
      have hlen := hereL_le nm (L.take j)
      rw [List.length_take] at hlen
      have hlen2 : (hereL nm (L.take j)).length ≤ 1000 := by omega
      clear hc hc0 hlen
      have HP := Lib.hid hp
      have HU := Lib.hid hu
      clear hp hu
      generalize L[j] = s at *
      obtain ⟨a0, a1, a2, a3, a4, a5⟩ := s
      dsimp only at x0 x1 x2 x3 x4 x5 HT
      generalize hereL nm (L.take j) = us at *
      have HH := fun W => here_any a0 a1 a2 a3 a4 a5 nm W
      cases heq : hereP ⟨a0, a1, a2, a3, a4, a5⟩ nm
      · rw [heq] at HH
        go_wp2_with (go_at_call 65; refine (HH _).mono ?_; rintro e wq ⟨rfl, z1, rfl⟩)
        go_roundw
        case rel => exact ⟨j + 1, by omega, by go_num, by rw [HT.out, heq, if_neg Bool.false_ne_true, List.append_nil]; exact own_ext (hown.alloc _) _, B_ext (B_alloc hBr _) _⟩
        case measure => simp [intOf]; omega
      · rw [heq] at HH
        go_wp2_with (first
          | (go_at_call 65; refine (HH _).mono ?_; rintro e wq ⟨rfl, z1, rfl⟩)
          | (at_builtin; refine wpList_append_sl rfl _ _ rfl elLot lot_len lot_one (base := N) (n := us.length) (m := 1) (v := u5) rfl ((own_ext (hown.alloc _) _).alloc _) rfl (ys := [⟨a0, a1, a2, a3, a4, a5⟩]) rfl (sl_lot (t := 40) (fr := (0, 0)) (x := ⟨a0, a1, a2, a3, a4, a5⟩) (G_new _ _ _ (by first | rfl | (simp [ext_size]; done) | (simp [ext_size]; omega)))) (by simp [maxLen]; omega) (by omega) (by simp [ext_size]; omega) ?_; intro v' w1 h1 h2 h3))
        have hown2 : w1.ownsRow N 40 6 v' (us ++ [(⟨a0, a1, a2, a3, a4, a5⟩ : Lot)]).length ((us ++ [(⟨a0, a1, a2, a3, a4, a5⟩ : Lot)]).flatMap Lot.cells) := by simpa using h1
        have hB2 : Below N W0 w1 := below_own (B_alloc (B_ext (B_alloc hBr _) _) _) ((own_ext (hown.alloc _) _).alloc _) h2
        clear h1 h2 h3
        go_wp2_with fail
        go_roundw
        case rel => exact ⟨j + 1, by omega, by go_num, by rw [HT.out, heq, if_pos rfl]; exact hown2, hB2⟩
        case measure => simp [intOf]; omega
    · have hje : j = L.length := by omega
      subst hje
      rw [List.take_length] at hown
      have hle := hereL_le nm L
      have HP := Lib.hid hp
      have HU := Lib.hid hu
      clear hp hu
      go_wp2_with (go_at_call 66; refine (lvlSort_v _ (hereL nm L) N _ (own_held hown) (by omega)).mono ?_; rintro e wq ⟨rfl, hH, hB3⟩)
      go_ret
      exact ⟨_, L, rfl, HP.out, HU.out, hH.base (by have := hB.size; omega), ext_below (hB3 w (hB.trans (hBr.mono (by have := hB.size; omega))) (by have := hB.size; omega))⟩
end Go.Proofs.YtpohkolapgofdaaGreat
namespace Go.Proofs.YtpohkolapgofdaaGreat
open Go.RowKit Go.Shelf
attribute [local go_sem] World.cell?_alloc_mark ext_size ext_cell ext_frozen lt_add_r lt_add_r2 lt_add_r3 lt_add_r4 lt_add_r5 lt_add_r6 lt_add_r7 lt_add_r8

/-- The error of the lots at a site on a day. -/
def wthErr (p : Bk × Int) (ss : List Site) (nm : ByteArray) (day : Int) : Int := if wsErr p ss nm != 0 then wsErr p ss nm else if !inR day 0 200000 then 2 else 0
def WthPost (w : World) (k : Bk) (nm : ByteArray) (er : Int) (e : Ending) (w' : World) : Prop :=
  ∃ A c X, e = .returned (.tuple #[.slice A X.length c, .int .i64 er]) ∧ (er ≠ 0 → X = []) ∧ (er = 0 → ∃ L, L.Perm (lotsNow k.st) ∧ Up L ∧ X = lvlSorted (hereL nm L)) ∧ Sl w' 6 Lot.cells A X ∧ ∃ z, w' = w.ext z
set_option maxRecDepth 100000 in
set_option maxHeartbeats 2000000 in
theorem gWithin_any (ss : List Site) (rs : List Rest) (A R : Option Addr) (n c rn rc : Nat) (c0 c1 c2 : Int) (es : List Event) (L : Option Addr) (ln lc : Nat) (nm : ByteArray) (day : Int) (w : World) (hy : YardIn w ss rs A n c R rn rc) (hev : EventsIn w es L ln)
    (hfew : (readP ss rs (bk0 A n c R rn rc c0 c1 c2) es).2 = 0 → (lotsNow (upToP ss rs day (bk0 A n c R rn rc c0 c1 c2) es).st).length < 20) :
    Calls Tryz.prog 13 #[.agg #[.slice A n c, .slice R rn rc, .int .i64 c0, .int .i64 c1, .int .i64 c2], .slice L ln lc, .string nm, .int .i64 day] w (WthPost w (upToP ss rs day (bk0 A n c R rn rc c0 c1 c2) es) nm (wthErr (readP ss rs (bk0 A n c R rn rc c0 c1 c2) es) ss nm day)) := by
  have HW := fun W h1 h2 => withSite_any ss rs A R n c rn rc c0 c1 c2 es L ln lc nm W h1 h2
  have HU := fun W h1 h2 h3 h4 h5 => upTo_any ss rs A R n c rn rc c0 c1 c2 es L ln lc day W h1 h2 h3 h4 h5
  have HSM := Lib.hid (fun h => readP_small (ss := ss) (rs := rs) (k := bk0 A n c R rn rc c0 c1 c2) (es := es) h)
  have HFW := Lib.hid hfew
  clear hfew
  generalize readP ss rs (bk0 A n c R rn rc c0 c1 c2) es = p at *
  generalize upToP ss rs day (bk0 A n c R rn rc c0 c1 c2) es = u at *
  go_enter Tryz.func13, Tryz.ntmps13
  cases hq : (wsErr p ss nm != 0)
  · have HQ := Lib.hid hq
    have hp0 := wsErr_zero hq
    obtain ⟨s, hf⟩ := wsErr_some hq
    have HF := Lib.hid hf
    obtain ⟨hs1, hs2, hs3⟩ := HSM.out hp0
    have hfw := HFW.out hp0
    clear HSM HFW hp0
    cases hd : inR day 0 200000
    · have HX : Hid (wthErr p ss nm day = 2) := by
        show _ = _
        unfold wthErr
        rw [hq, hd]
        rfl
      clear hq hf
      go_wp2_with (first | (go_at_call 37; refine (HW _ (hy.keep (by repeat (first | exact B_refl | exact Below.refl _ _ | assumption | with_reducible refine B_alloc ?_ _ | with_reducible refine B_ext ?_ _ | with_reducible refine B_drew ?_ | with_reducible refine B_drewN ?_ _ | with_reducible refine B_set ?_ (by simp; omega) _))) (hev.keep (by repeat (first | exact B_refl | exact Below.refl _ _ | assumption | with_reducible refine B_alloc ?_ _ | with_reducible refine B_ext ?_ _ | with_reducible refine B_drew ?_ | with_reducible refine B_drewN ?_ _ | with_reducible refine B_set ?_ (by simp; omega) _)))).mono ?_; intro e wq hpq; obtain ⟨base, bb, rfl, hbs, henv, zq, rfl⟩ := hpq.ok HQ.out HF.out; clear hpq; unfold Site.v) | (go_at_call 38; refine (isDay_any _ _).mono ?_; rintro e wq ⟨rfl, rfl⟩; rw [hd]))
      go_ret2
      rw [HX.out]
      exact ⟨none, 0, [], rfl, fun _ => rfl, fun h => by simp at h, sl_nil _ _ _, ext_below (by repeat (first | exact B_refl | exact Below.refl _ _ | assumption | with_reducible refine B_alloc ?_ _ | with_reducible refine B_ext ?_ _ | with_reducible refine B_drew ?_ | with_reducible refine B_drewN ?_ _ | with_reducible refine B_set ?_ (by simp; omega) _))⟩
    · have HX : Hid (wthErr p ss nm day = 0) := by
        show _ = _
        unfold wthErr
        rw [hq, hd]
        rfl
      clear hq hf
      go_wp2_with (first
        | (go_at_call 37; refine (HW _ (hy.keep (by repeat (first | exact B_refl | exact Below.refl _ _ | assumption | with_reducible refine B_alloc ?_ _ | with_reducible refine B_ext ?_ _ | with_reducible refine B_drew ?_ | with_reducible refine B_drewN ?_ _ | with_reducible refine B_set ?_ (by simp; omega) _))) (hev.keep (by repeat (first | exact B_refl | exact Below.refl _ _ | assumption | with_reducible refine B_alloc ?_ _ | with_reducible refine B_ext ?_ _ | with_reducible refine B_drew ?_ | with_reducible refine B_drewN ?_ _ | with_reducible refine B_set ?_ (by simp; omega) _)))).mono ?_; intro e wq hpq; obtain ⟨base, bb, rfl, hbs, henv, zq, rfl⟩ := hpq.ok HQ.out HF.out; clear hpq; unfold Site.v)
        | (go_at_call 38; refine (isDay_any _ _).mono ?_; rintro e wq ⟨rfl, rfl⟩; rw [hd])
        | (go_at_call 39; refine (HU _ (hy.keep (by repeat (first | exact B_refl | exact Below.refl _ _ | assumption | with_reducible refine B_alloc ?_ _ | with_reducible refine B_ext ?_ _ | with_reducible refine B_drew ?_ | with_reducible refine B_drewN ?_ _ | with_reducible refine B_set ?_ (by simp; omega) _))) (hev.keep (by repeat (first | exact B_refl | exact Below.refl _ _ | assumption | with_reducible refine B_alloc ?_ _ | with_reducible refine B_ext ?_ _ | with_reducible refine B_drew ?_ | with_reducible refine B_drewN ?_ _ | with_reducible refine B_set ?_ (by simp; omega) _))) hs1 hs2 hs3).mono ?_; rintro e wq ⟨base2, b2, rfl, hbs2, henv2, z2, rfl⟩)
        | (go_at_call 40; refine (at_any base2 b2 u nm _ henv2.bk (by have := henv2.l3; omega) hfw).mono ?_; rintro e wq ⟨v, L0, rfl, hpm, hup, hhd, z3, rfl⟩))
      go_ret2
      rw [HX.out]
      obtain ⟨A3, c3, rfl, hS⟩ := hhd.sl
      exact ⟨A3, c3, _, rfl, fun h => absurd rfl h, fun _ => ⟨L0, hpm, hup, rfl⟩, hS, ext_below (by repeat (first | exact B_refl | exact Below.refl _ _ | assumption | with_reducible refine B_alloc ?_ _ | with_reducible refine B_ext ?_ _ | with_reducible refine B_drew ?_ | with_reducible refine B_drewN ?_ _ | with_reducible refine B_set ?_ (by simp; omega) _))⟩
  · have HQ := Lib.hid hq
    have HX : Hid (wthErr p ss nm day = wsErr p ss nm) := by
      show _ = _
      unfold wthErr
      rw [hq]
      rfl
    have HN := Lib.hid (show wsErr p ss nm ≠ 0 by simpa using hq)
    go_wp2_with (go_at_call 37; refine (HW _ (hy.keep (by repeat (first | exact B_refl | exact Below.refl _ _ | assumption | with_reducible refine B_alloc ?_ _ | with_reducible refine B_ext ?_ _ | with_reducible refine B_drew ?_ | with_reducible refine B_drewN ?_ _ | with_reducible refine B_set ?_ (by simp; omega) _))) (hev.keep (by repeat (first | exact B_refl | exact Below.refl _ _ | assumption | with_reducible refine B_alloc ?_ _ | with_reducible refine B_ext ?_ _ | with_reducible refine B_drew ?_ | with_reducible refine B_drewN ?_ _ | with_reducible refine B_set ?_ (by simp; omega) _)))).mono ?_; intro e wq hpq; obtain ⟨rfl, zq, rfl⟩ := hpq.bad HQ.out; clear hpq; unfold Site.v zeroSite)
    go_ret2
    rw [HX.out]
    exact ⟨none, 0, [], rfl, fun _ => rfl, fun h => absurd h HN.out, sl_nil _ _ _, ext_below (by repeat (first | exact B_refl | exact Below.refl _ _ | assumption | with_reducible refine B_alloc ?_ _ | with_reducible refine B_ext ?_ _ | with_reducible refine B_drew ?_ | with_reducible refine B_drewN ?_ _ | with_reducible refine B_set ?_ (by simp; omega) _))⟩
end Go.Proofs.YtpohkolapgofdaaGreat
namespace Go.Proofs.YtpohkolapgofdaaGreat
open Go.RowKit

theorem adds_len' {ss : List Site} {rs : List Rest} : ∀ (es : List Event) (k : Bk), (addsP ss rs k es).1.st.length ≤ k.st.length + es.length
  | [], _ => Nat.le_refl _
  | e :: l, k => by
    unfold addsP
    split
    · dsimp only; omega
    · have := adds_len' (ss := ss) (rs := rs) l (addK k e (errorP k ss rs e).1)
      rw [addK_len] at this
      simp only [List.length_cons]
      omega
section
variable {c0 c1 c2 : Int} {ss : List Site} {rs : List Rest} {es : List Event} (A R : Option Addr) (n c rn rc : Nat)
theorem upTo_few (hf : es.length ≤ 16 ∨ 300 < es.length) (day : Int) (h : (readP ss rs (bk0 A n c R rn rc c0 c1 c2) es).2 = 0) : (lotsNow (upToP ss rs day (bk0 A n c R rn rc c0 c1 c2) es).st).length < 20 := by
  have h1 := (readP_small h).2.2
  have h2 : rCheckP c0 c1 c2 ss rs es = 0 := by rw [← (read_check ss rs A R n c rn rc c0 c1 c2 es).1]; exact h
  rw [(upTo_check h2 day).1]
  have h3 := adds_len' (ss := ss) (rs := rs) (upToE day es) (bk0 A n c R rn rc c0 c1 c2)
  have h4 : (upToE day es).length ≤ es.length := (List.takeWhile_prefix _).length_le
  have h5 : (bk0 A n c R rn rc c0 c1 c2).st.length = 0 := rfl
  unfold lotsNow
  rw [List.length_map]
  have h6 := List.length_filter_le (fun s : Stay => decide (s.till < 0)) (addsP ss rs (bk0 A n c R rn rc c0 c1 c2) (upToE day es)).1.st
  omega
theorem upTo_placed (h : rCheckP c0 c1 c2 ss rs es = 0) (day : Int) : ∀ l ∈ (rReplayP c0 c1 c2 ss rs (upToE day es)).1, PlacedS ss l := by
  intro l hl
  obtain ⟨h1, h2, _, _⟩ := upTo_check (A := none) (R := none) (n := 0) (c := 0) (rn := 0) (rc := 0) h day
  have hm := (h2.mem (l := l)).2 hl
  rw [h1] at hm
  unfold lotsNow at hm
  obtain ⟨s, hs, rfl⟩ := List.mem_map.1 hm
  have hpf : upToE day es <+: es := List.takeWhile_prefix _
  have ht : upToE day es = es.take (upToE day es).length := List.prefix_iff_eq_take.1 hpf
  rw [ht] at hs
  exact st_placed h none none 0 0 0 0 _ hpf.length_le s (List.mem_filter.1 hs).1
/-- The lots at a site, sorted by their levels, are the reference's. -/
theorem within_law (h : rCheckP c0 c1 c2 ss rs es = 0) {day : Int} {nm : ByteArray} {s : Site} (hs : findSite nm ss = some s) (hn : nm ≠ ⟨#[]⟩) (hr : s.room ≤ 12) {L : List Lot}
    (hp : L.Perm (lotsNow (upToP ss rs day (bk0 A n c R rn rc c0 c1 c2) es).st)) (hu : Up L) : lvlSorted (hereL nm L) = rWthP nm (rReplayP c0 c1 c2 ss rs (upToE day es)).1 12 := by
  have hR := (upTo_check (A := A) (R := R) (n := n) (c := c) (rn := rn) (rc := rc) h day).2.1
  have hP := upTo_placed h day
  have hL := rel_all hR hp hu
  have ha := hR.asc
  clear hp hu hR
  generalize (rReplayP c0 c1 c2 ss rs (upToE day es)).1 = ls at *
  subst hL
  have hsite : ∀ l ∈ L, hereP l nm = (l.site.toList == nm.toList) := fun l hl => by
    cases hh : hereP l nm
    · exact (here_false (hP l hl) hn hh).symm
    · exact (here_true (hP l hl) hs hh).1.symm
  unfold lvlSorted
  rw [sort_levels (L := hereL nm L) (n := 12) (List.Pairwise.filter _ ha) fun l hl => by
    obtain ⟨h1, h2⟩ := List.mem_filter.1 hl
    obtain ⟨_, h3, h4⟩ := here_true (hP l h1) hs h2
    exact ⟨h3, by omega⟩]
  unfold byLevels rWthP
  congr 1
  funext k
  unfold siteLv hereL
  rw [List.filter_filter]
  refine List.filter_congr fun l hl => ?_
  rw [hsite l hl, Bool.and_comm]
end
end Go.Proofs.YtpohkolapgofdaaGreat
namespace Go.Proofs.YtpohkolapgofdaaGreat
open Go.RowKit
attribute [local go_sem] World.cell?_alloc_mark ext_size ext_cell ext_frozen lt_add_r lt_add_r2 lt_add_r3 lt_add_r4 lt_add_r5 lt_add_r6 lt_add_r7 lt_add_r8

theorem name_ne' {nm : ByteArray} (h : isNameP nm = true) : nm ≠ ⟨#[]⟩ := by
  rintro rfl
  revert h
  decide +kernel
def onW (c0 c1 c2 : Int) (ss : List Site) (rs : List Rest) (es : List Event) (day : Int) : List Lot × Int :=
  if rCheckP c0 c1 c2 ss rs es != 0 then ([], rCheckP c0 c1 c2 ss rs es) else if !inR day 0 200000 then ([], 2) else ((rReplayP c0 c1 c2 ss rs (upToE day es)).1, 0)
def whereW (c0 c1 c2 : Int) (ss : List Site) (rs : List Rest) (es : List Event) (nm : ByteArray) (day : Int) : Lot × Int :=
  if rCheckP c0 c1 c2 ss rs es != 0 then (zeroLot, rCheckP c0 c1 c2 ss rs es) else if !inR day 0 200000 then (zeroLot, 2) else
  match findLot nm (rReplayP c0 c1 c2 ss rs (upToE day es)).1 with
  | none => (zeroLot, 6)
  | some l => (l, 0)
def withinW (c0 c1 c2 : Int) (ss : List Site) (rs : List Rest) (es : List Event) (nm : ByteArray) (day : Int) : List Lot × Int :=
  if rCheckP c0 c1 c2 ss rs es != 0 then ([], rCheckP c0 c1 c2 ss rs es) else if (findSite nm ss).isNone then ([], 6) else if !inR day 0 200000 then ([], 2) else (rWthP nm (rReplayP c0 c1 c2 ss rs (upToE day es)).1 12, 0)
/-- Lots and an error come back. -/
def LotsErr (w : World) (r : List Lot × Int) (e : Ending) (w' : World) : Prop := ∃ A c, e = .returned (.tuple #[.slice A r.1.length c, .int .i64 r.2]) ∧ Sl w' 6 Lot.cells A r.1 ∧ ∃ z, w' = w.ext z
theorem gOn_w (ss : List Site) (rs : List Rest) (A R : Option Addr) (n c rn rc : Nat) (c0 c1 c2 : Int) (es : List Event) (L : Option Addr) (ln lc : Nat) (day : Int) (w : World) (hy : YardIn w ss rs A n c R rn rc) (hev : EventsIn w es L ln) :
    Calls Tryz.prog 9 #[.agg #[.slice A n c, .slice R rn rc, .int .i64 c0, .int .i64 c1, .int .i64 c2], .slice L ln lc, .int .i64 day] w (LotsErr w (onW c0 c1 c2 ss rs es day)) := by
  refine (gOn_any all_any ss rs A R n c rn rc c0 c1 c2 es L ln lc day w hy hev).mono ?_
  rintro e w' ⟨A2, c3, X, rfl, h1, h2, hS, z, rfl⟩
  have hrc := (read_check ss rs A R n c rn rc c0 c1 c2 es).1
  have hW : onW c0 c1 c2 ss rs es day = (X, (onDayR ss rs (bk0 A n c R rn rc c0 c1 c2) es day).2) := by
    unfold onW
    unfold onDayR at h1 h2 ⊢
    rw [hrc] at h1 h2 ⊢
    cases hc : (rCheckP c0 c1 c2 ss rs es != 0)
    · rw [hc] at h1 h2
      cases hd : inR day 0 200000
      · rw [hd] at h1 h2
        have := h1 (by simp)
        simp [this]
      · rw [hd] at h1 h2
        simp only [Bool.false_eq_true, if_false, Bool.not_true] at h1 h2 ⊢
        obtain ⟨h3, h4⟩ := h2 trivial
        rw [rel_all (upTo_check (A := A) (R := R) (n := n) (c := c) (rn := rn) (rc := rc) (by simpa using hc) day).2.1 h3 h4]
    · rw [hc] at h1 h2
      have := h1 (by simpa using hc)
      simp [this]
  rw [hW]
  exact ⟨A2, c3, rfl, hS, z, rfl⟩
theorem gWhere_w (ss : List Site) (rs : List Rest) (A R : Option Addr) (n c rn rc : Nat) (c0 c1 c2 : Int) (es : List Event) (L : Option Addr) (ln lc : Nat) (nm : ByteArray) (day : Int) (w : World) (hy : YardIn w ss rs A n c R rn rc) (hev : EventsIn w es L ln) :
    Calls Tryz.prog 12 #[.agg #[.slice A n c, .slice R rn rc, .int .i64 c0, .int .i64 c1, .int .i64 c2], .slice L ln lc, .string nm, .int .i64 day] w (Ret w (retErr (whereW c0 c1 c2 ss rs es nm day))) := by
  have h := gWhere_any ss rs A R n c rn rc c0 c1 c2 es L ln lc nm day w hy hev
  have hrc := (read_check ss rs A R n c rn rc c0 c1 c2 es).1
  have hW : whereR (onDayR ss rs (bk0 A n c R rn rc c0 c1 c2) es day) nm = whereW c0 c1 c2 ss rs es nm day := by
    unfold whereW whereR onDayR
    rw [hrc]
    cases hc : (rCheckP c0 c1 c2 ss rs es != 0)
    · cases hd : inR day 0 200000
      · simp
      · simp only [Bool.false_eq_true, if_false, Bool.not_true, bne_self_eq_false]
        rw [(upTo_check (A := A) (R := R) (n := n) (c := c) (rn := rn) (rc := rc) (by simpa using hc) day).2.1.same nm]
        rfl
    · simp [hc]
  rw [hW] at h
  exact h
theorem gWithin_w (ss : List Site) (rs : List Rest) (A R : Option Addr) (n c rn rc : Nat) (c0 c1 c2 : Int) (es : List Event) (L : Option Addr) (ln lc : Nat) (nm : ByteArray) (day : Int) (w : World) (hy : YardIn w ss rs A n c R rn rc) (hev : EventsIn w es L ln) (hf : es.length ≤ 16 ∨ 300 < es.length) :
    Calls Tryz.prog 13 #[.agg #[.slice A n c, .slice R rn rc, .int .i64 c0, .int .i64 c1, .int .i64 c2], .slice L ln lc, .string nm, .int .i64 day] w (LotsErr w (withinW c0 c1 c2 ss rs es nm day)) := by
  refine (gWithin_any ss rs A R n c rn rc c0 c1 c2 es L ln lc nm day w hy hev (upTo_few A R n c rn rc hf day)).mono ?_
  rintro e w' ⟨A2, c3, X, rfl, h1, h2, hS, z, rfl⟩
  have hrc := (read_check ss rs A R n c rn rc c0 c1 c2 es).1
  have hW : withinW c0 c1 c2 ss rs es nm day = (X, wthErr (readP ss rs (bk0 A n c R rn rc c0 c1 c2) es) ss nm day) := by
    unfold withinW
    unfold wthErr wsErr at h1 h2 ⊢
    rw [hrc] at h1 h2 ⊢
    cases hc : (rCheckP c0 c1 c2 ss rs es != 0)
    · have hc0 : rCheckP c0 c1 c2 ss rs es = 0 := by simpa using hc
      rw [hc] at h1 h2
      cases hs : findSite nm ss with
      | none =>
        rw [hs] at h1 h2
        have := h1 (by simp)
        simp [this]
      | some s =>
        rw [hs] at h1 h2
        cases hd : inR day 0 200000
        · rw [hd] at h1 h2
          have := h1 (by simp)
          simp [this]
        · rw [hd] at h1 h2
          simp only [Bool.false_eq_true, if_false, Bool.not_true, bne_self_eq_false, Option.isSome_some, Option.isNone_some, if_true] at h1 h2 ⊢
          obtain ⟨L0, h3, h4, rfl⟩ := h2 trivial
          obtain ⟨_, _, _, _, h5, _⟩ := (read_check ss rs A R n c rn rc c0 c1 c2 es).2 hc0
          have hmem := findSite_mem hs
          have hname := findSite_name hs
          have hgood := yard_room h5 s hmem
          have hok : isNameP nm = true := by
            rw [hname] at hgood
            unfold checkSiteP at hgood
            cases hq : isNameP nm
            · rw [hq] at hgood; simp at hgood
            · rfl
          rw [within_law A R n c rn rc hc0 hs (name_ne' hok) (yard_rooms h5 s hmem) h3 h4]
    · rw [hc] at h1 h2
      have := h1 (by simp only [if_true, hc]; simpa using hc)
      simp [this, hc]
  rw [hW]
  exact ⟨A2, c3, rfl, hS, z, rfl⟩
end Go.Proofs.YtpohkolapgofdaaGreat
