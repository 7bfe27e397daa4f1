/- Walk: the sites that can be used again on a day. -/
/- Plain: the rest of a remain and the sites that can be used again, in the reference's words. -/
import Derived.Test.YtpohkolapgofdaaGreatHE
import Derived.Test.YtpohkolapgofdaaGreatLP
import Derived.Test.YtpohkolapgofdaaGreatF4
import Derived.Test.YtpohkolapgofdaaGreatQE
namespace Go.Proofs.YtpohkolapgofdaaGreat
open Go.RowKit Go.Shelf
attribute [local go_sem] World.cell?_alloc_mark ext_size ext_cell ext_frozen lt_add_r lt_add_r2 lt_add_r3 lt_add_r4 lt_add_r5 lt_add_r6 lt_add_r7 lt_add_r8

def lyAt (nm : ByteArray) (l : Lot) : Bool := hereP l nm && lies l
def useK (k : Bk) (ss : List Site) (rs : List Rest) (day : Int) (s : Site) : Bool := (lotsNow k.st).any (lyAt s.name) && !((lotsNow k.st).any fun l => lyAt s.name l && restsOn ss rs day l)
def reuseL (k : Bk) (ss : List Site) (rs : List Rest) (day : Int) (l : List Site) : List ByteArray := (l.filter (useK k ss rs day)).map (·.name)
def reuseR (ss : List Site) (rs : List Rest) (p : Bk × Int) (day : Int) : List ByteArray × Int := if p.2 != 0 then ([], p.2) else (reuseL p.1 ss rs day ss, 0)
theorem reuseL_take {k : Bk} {ss : List Site} {rs : List Rest} {day : Int} {l : List Site} {j : Nat} (h : j < l.length) : reuseL k ss rs day (l.take (j + 1)) = reuseL k ss rs day (l.take j) ++ (if useK k ss rs day l[j] then [l[j].name] else []) := by
  rw [List.take_succ_eq_append_getElem h, reuseL, List.filter_append, List.map_append]
  congr 1
  cases hq : useK k ss rs day l[j] <;> simp [hq]
theorem reuseL_le (k : Bk) (ss : List Site) (rs : List Rest) (day : Int) (l : List Site) : (reuseL k ss rs day l).length ≤ l.length := by
  unfold reuseL
  rw [List.length_map]
  exact List.length_filter_le _ _
theorem useK_of {k : Bk} {ss : List Site} {rs : List Rest} {day : Int} {s : Site} {X : List Lot} (h : ∀ l, l ∈ X ↔ l ∈ lotsNow k.st ∧ hereP l s.name = true ∧ lies l = true) :
    useK k ss rs day s = (decide (0 < X.length) && !X.any (restsOn ss rs day)) := by
  unfold useK
  have h1 : (lotsNow k.st).any (lyAt s.name) = decide (0 < X.length) := by
    rw [Bool.eq_iff_iff, List.any_eq_true, decide_eq_true_eq, List.length_pos_iff_exists_mem]
    constructor
    · rintro ⟨l, h1, h2⟩
      simp only [lyAt, Bool.and_eq_true] at h2
      exact ⟨l, (h l).2 ⟨h1, h2.1, h2.2⟩⟩
    · rintro ⟨l, h1⟩
      obtain ⟨h2, h3, h4⟩ := (h l).1 h1
      exact ⟨l, h2, by simp [lyAt, h3, h4]⟩
  have h2 : ((lotsNow k.st).any fun l => lyAt s.name l && restsOn ss rs day l) = X.any (restsOn ss rs day) := by
    rw [Bool.eq_iff_iff, List.any_eq_true, List.any_eq_true]
    constructor
    · rintro ⟨l, h1, h2⟩
      simp only [lyAt, Bool.and_eq_true] at h2
      exact ⟨l, (h l).2 ⟨h1, h2.1.1, h2.1.2⟩, h2.2⟩
    · rintro ⟨l, h1, h2⟩
      obtain ⟨h3, h4, h5⟩ := (h l).1 h1
      exact ⟨l, h3, by simp [lyAt, h4, h5, h2]⟩
  rw [h1, h2]
def StrsErr (w : World) (r : List ByteArray × Int) : Ending → World → Prop := ListPost w 9 1 (r.1.flatMap strCells, r.1.length) r.2
set_option maxRecDepth 100000 in
set_option maxHeartbeats 2000000 in
theorem gReusable_any (ss : List Site) (rs : List Rest) (A R : Option Addr) (n c rn rc : Nat) (c0 c1 c2 : Int) (es : List Event) (L : Option Addr) (ln lc : Nat) (day : Int) (w : World) (hy : YardIn w ss rs A n c R rn rc) (hev : EventsIn w es L ln)
    (hfew : (onDayR ss rs (bk0 A n c R rn rc c0 c1 c2) es day).2 = 0 → (lotsNow (onDayR ss rs (bk0 A n c R rn rc c0 c1 c2) es day).1.st).length < 20) (hs60 : (onDayR ss rs (bk0 A n c R rn rc c0 c1 c2) es day).2 = 0 → ss.length ≤ 60) :
    Calls Tryz.prog 22 #[.agg #[.slice A n c, .slice R rn rc, .int .i64 c0, .int .i64 c1, .int .i64 c2], .slice L ln lc, .int .i64 day] w (StrsErr w (reuseR ss rs (onDayR ss rs (bk0 A n c R rn rc c0 c1 c2) es day) day)) := by
  have HO := fun W h1 h2 => onDay_any ss rs A R n c rn rc c0 c1 c2 es L ln lc day W h1 h2
  generalize onDayR ss rs (bk0 A n c R rn rc c0 c1 c2) es day = p at *
  obtain ⟨k, er⟩ := p
  dsimp only at hfew hs60
  have hyn := hy.hn
  subst hyn
  cases hq : (er != 0)
  · have HQ := Lib.hid hq
    have her : er = 0 := by simpa using hq
    have hX : reuseR ss rs (k, er) day = (reuseL k ss rs day ss, 0) := by unfold reuseR; rw [if_neg (by simp [her])]
    rw [hX]
    have hf := hfew her
    have hs6 := hs60 her
    have HLS := Lib.hid (fun j => reuseL_le k ss rs day (ss.take j))
    clear hX her hfew hs60 hq
    go_enter Tryz.func22, Tryz.ntmps22
    go_wp2_with (go_at_call 34; refine (HO _ (hy.keep (by repeat (first | exact B_refl | exact Below.refl _ _ | assumption | with_reducible refine B_alloc ?_ _ | with_reducible refine B_ext ?_ _ | with_reducible refine B_drew ?_ | with_reducible refine B_drewN ?_ _ | with_reducible refine B_set ?_ (by simp; omega) _))) (hev.keep (by repeat (first | exact B_refl | exact Below.refl _ _ | assumption | with_reducible refine B_alloc ?_ _ | with_reducible refine B_ext ?_ _ | with_reducible refine B_drew ?_ | with_reducible refine B_drewN ?_ _ | with_reducible refine B_set ?_ (by simp; omega) _)))).mono ?_; intro e wq hpq; obtain ⟨base, bb, rfl, hbs, henv, zq, rfl⟩ := hpq.ok HQ.out; clear hpq)
    generalize hW0 : World.ext (w.alloc (.cells #[.slice A ss.length c, .slice R rn rc, .int .i64 c0, .int .i64 c1, .int .i64 c2] 26)) zq = W0 at *
    have hB : Below w.heap.size w W0 := by rw [← hW0]; repeat (first | exact B_refl | exact Below.refl _ _ | assumption | with_reducible refine B_alloc ?_ _ | with_reducible refine B_ext ?_ _ | with_reducible refine B_drew ?_ | with_reducible refine B_drewN ?_ _ | with_reducible refine B_set ?_ (by simp; omega) _)
    have hy0 := hy.keep hB
    obtain ⟨N, hN⟩ : ∃ N, N = W0.heap.size := ⟨_, rfl⟩
    have HL3 := Lib.hid henv.l3
    replace henv : Env W0 base bb k ss rs := henv
    replace HL3 : Hid (k.st.length ≤ 1000) := HL3
    clear hW0 hbs hev hy
    go_loopw [10, 27] (fun v i wr => ∃ j : Nat, j ≤ ss.length ∧ i = .int .i64 j ∧ wr.ownsRow N 9 1 v (reuseL k ss rs day (ss.take j)).length ((reuseL k ss rs day (ss.take j)).flatMap strCells) ∧ Below N W0 wr) (fun _ i _ => ss.length - (intOf i).toNat)
    case atStart => exact ⟨0, Nat.zero_le _, rfl, World.ownsRow_nil _ _ _ _, Below.refl _ _⟩
    case round =>
      obtain ⟨j, hj, rfl, hown, hBr⟩ := hrel
      have hwN : N ≤ wr.heap.size := by have := hBr.size; omega
      by_cases hlt : j < ss.length
      · obtain ⟨b, off, rfl, hb, hc0⟩ := hy0.sl.at hlt
        have hc : ∀ i u, (ss[j].cells)[i]? = some u → wr.cell? ⟨b, off + j * 6 + i, none⟩ = some u := fun i u hu => (hBr.cell (p := ⟨b, off + j * 6 + i, none⟩) (by rw [hN]; exact hb)).trans (hc0 i u hu)
        have x0 : wr.cell? ⟨b, off + j * 6, none⟩ = some (.string ss[j].name) := hc 0 _ rfl
        have x1 : wr.cell? ⟨b, off + j * 6 + 1, none⟩ = some (.int .i64 ss[j].kind) := hc 1 _ rfl
        have x2 : wr.cell? ⟨b, off + j * 6 + 2, none⟩ = some (.int .i64 ss[j].soil) := hc 2 _ rfl
        have x3 : wr.cell? ⟨b, off + j * 6 + 3, none⟩ = some (.int .i64 ss[j].depth) := hc 3 _ rfl
        have x4 : wr.cell? ⟨b, off + j * 6 + 4, none⟩ = some (.int .i64 ss[j].step) := hc 4 _ rfl
        have x5 : wr.cell? ⟨b, off + j * 6 + 5, none⟩ = some (.int .i64 ss[j].room) := hc 5 _ rfl
        have hlt2 : (j : Int) < (ss.length : Int) := by omega
        have HT := Lib.hid (reuseL_take (k := k) (ss := ss) (rs := rs) (day := day) hlt)
        have hdl := HLS.out j
        rw [List.length_take] at hdl
        have HMM := Lib.hid (findSite_of_mem (List.getElem_mem hlt))
        have hbw : b < wr.heap.size := by omega
        clear hc hc0
        generalize ss[j] = s at *
        have hdl2 : (reuseL k ss rs day (ss.take j)).length ≤ 1000 := by omega
        generalize reuseL k ss rs day (ss.take j) = dn at *
        clear hdl
        have HU : Hid (∀ X : List Lot, (∀ l, l ∈ X ↔ l ∈ lotsNow k.st ∧ hereP l s.name = true ∧ lies l = true) → useK k ss rs day s = (decide (0 < X.length) && !X.any (restsOn ss rs day))) := fun X h => useK_of h
        obtain ⟨a, kd, so, d, st, r⟩ := s
        dsimp only at x0 x1 x2 x3 x4 x5 HT HU HMM
        generalize useK k ss rs day ⟨a, kd, so, d, st, r⟩ = us at *
        have hre := henv.keep hBr (by omega)
        have hlk : k.st.length ≤ 100000 := by have := HL3.out; omega
        go_wp2_with (go_at_call 48; refine (lying_any base bb k a _ ((hre.keep (n := wr.heap.size) (by repeat (first | exact B_refl | exact Below.refl _ _ | assumption | with_reducible refine B_alloc ?_ _ | with_reducible refine B_ext ?_ _ | with_reducible refine B_drew ?_ | with_reducible refine B_drewN ?_ _ | with_reducible refine B_set ?_ (by simp; omega) _))).bk) hlk hf).mono ?_; rintro e wq ⟨v, L2, rfl, hp, hu, hH, z2, rfl⟩; obtain ⟨A3, c3, rfl, hS⟩ := hH.sl; have hxl := ly_len (nm := a) hp; have hxm := ly_mem (nm := a) hp; clear hH hu hp; generalize (lvlSorted (hereL a L2)).filter lies = X at *)
        · have hx0 : 0 < X.length := by assumption
          have hfs : ∀ l ∈ X, ∃ s, findSite l.site ss = some s := fun l hl => by
            have h2 := ((hxm l).1 hl).2.1
            unfold hereP at h2
            simp only [Bool.and_eq_true, beq_iff_eq] at h2
            rw [bytes_ext h2.2]
            exact HMM.out
          have HU2 := Lib.hid (HU.out X hxm)
          have hxl2 : X.length ≤ 100000 := by omega
          have HRST := fun W h1 h2 => resting_any base bb k ss rs day X A3 c3 W h1 hxl2 h2 hfs
          have HU3 : Hid (us = !X.any (restsOn ss rs day)) := by show _ = _; rw [HU2.out]; simp [hx0]
          clear hfs hxm HU HU2
          generalize X.any (restsOn ss rs day) = rst at *
          cases rst
          · obtain rfl : us = true := HU3.out
            clear HU3
            go_wp2_with (first
              | (go_at_call 49; refine (HRST _ (hS.keep (by repeat (first | exact B_refl | exact Below.refl _ _ | assumption | with_reducible refine B_alloc ?_ _ | with_reducible refine B_ext ?_ _ | with_reducible refine B_drew ?_ | with_reducible refine B_drewN ?_ _ | with_reducible refine B_set ?_ (by simp; omega) _))) (hre.keep (n := wr.heap.size) (by repeat (first | exact B_refl | exact Below.refl _ _ | assumption | with_reducible refine B_alloc ?_ _ | with_reducible refine B_ext ?_ _ | with_reducible refine B_drew ?_ | with_reducible refine B_drewN ?_ _ | with_reducible refine B_set ?_ (by simp; omega) _)))).mono ?_; rintro e wq ⟨rfl, z3, rfl⟩)
              | (at_builtin; refine wpList_append_sl rfl _ _ rfl elStr str_len str_one (base := N) (n := dn.length) (m := 1) (v := u10) rfl ((own_ext (own_ext (hown.alloc _) _) _).alloc _) rfl (ys := [a]) rfl (sl_str (t := 9) (fr := (0, 0)) (G_new _ _ _ (by first | rfl | (simp [ext_size]; done)))) (by simp [maxLen]; omega) (by omega) (by simp [ext_size]; omega) ?_; intro v' w1 h1 h2 h3))
            have hown2 : w1.ownsRow N 9 1 v' (dn ++ [a]).length ((dn ++ [a]).flatMap strCells) := by simpa using h1
            have hB2 : Below N W0 w1 := below_own (B_alloc (B_ext (B_ext (B_alloc hBr _) _) _) _) ((own_ext (own_ext (hown.alloc _) _) _).alloc _) h2
            clear h1 h2 h3
            go_wp2_with fail
            go_roundw
            case rel => exact ⟨j + 1, by omega, by go_num, by rw [HT.out, if_pos (by trivial)]; exact hown2, hB2⟩
            case measure => simp [intOf]; omega
          · obtain rfl : us = false := HU3.out
            clear HU3
            go_wp2_with (go_at_call 49; refine (HRST _ (hS.keep (by repeat (first | exact B_refl | exact Below.refl _ _ | assumption | with_reducible refine B_alloc ?_ _ | with_reducible refine B_ext ?_ _ | with_reducible refine B_drew ?_ | with_reducible refine B_drewN ?_ _ | with_reducible refine B_set ?_ (by simp; omega) _))) (hre.keep (n := wr.heap.size) (by repeat (first | exact B_refl | exact Below.refl _ _ | assumption | with_reducible refine B_alloc ?_ _ | with_reducible refine B_ext ?_ _ | with_reducible refine B_drew ?_ | with_reducible refine B_drewN ?_ _ | with_reducible refine B_set ?_ (by simp; omega) _)))).mono ?_; rintro e wq ⟨rfl, z3, rfl⟩)
            go_roundw
            case rel => exact ⟨j + 1, by omega, by go_num, by rw [HT.out, if_neg (by simp), List.append_nil]; exact own_ext (own_ext (hown.alloc _) _) _, B_ext (B_ext (B_alloc hBr _) _) _⟩
            case measure => simp [intOf]; omega
        · have hx0 : ¬ 0 < X.length := by assumption
          obtain rfl : us = false := by rw [HU.out X hxm]; simp [hx0]
          go_roundw
          case rel => exact ⟨j + 1, by omega, by go_num, by rw [HT.out, if_neg (by simp), List.append_nil]; exact own_ext (hown.alloc _) _, B_ext (B_alloc hBr _) _⟩
          case measure => simp [intOf]; omega
      · have hje : j = ss.length := by omega
        subst hje
        rw [List.take_length] at hown
        go_wp2_with fail
        go_ret2
        exact ⟨_, rfl, own_mono' hown (by have := hB.size; omega), ext_below (hB.trans (hBr.mono (by have := hB.size; omega)))⟩
  · have HQ := Lib.hid hq
    have hX : reuseR ss rs (k, er) day = ([], er) := by unfold reuseR; rw [if_pos hq]
    rw [hX]
    clear hX
    go_enter Tryz.func22, Tryz.ntmps22
    go_wp2_with (go_at_call 34; refine (HO _ (hy.keep (by repeat (first | exact B_refl | exact Below.refl _ _ | assumption | with_reducible refine B_alloc ?_ _ | with_reducible refine B_ext ?_ _ | with_reducible refine B_drew ?_ | with_reducible refine B_drewN ?_ _ | with_reducible refine B_set ?_ (by simp; omega) _))) (hev.keep (by repeat (first | exact B_refl | exact Below.refl _ _ | assumption | with_reducible refine B_alloc ?_ _ | with_reducible refine B_ext ?_ _ | with_reducible refine B_drew ?_ | with_reducible refine B_drewN ?_ _ | with_reducible refine B_set ?_ (by simp; omega) _)))).mono ?_; intro e wq hpq; obtain ⟨rfl, zq, rfl⟩ := hpq.bad HQ.out; clear hpq)
    go_ret2
    exact ListPost.none (by repeat (first | exact B_refl | exact Below.refl _ _ | assumption | with_reducible refine B_alloc ?_ _ | with_reducible refine B_ext ?_ _ | with_reducible refine B_drew ?_ | with_reducible refine B_drewN ?_ _ | with_reducible refine B_set ?_ (by simp; omega) _))
end Go.Proofs.YtpohkolapgofdaaGreat
namespace Go.Proofs.YtpohkolapgofdaaGreat
open Go.RowKit
attribute [local go_sem] World.cell?_alloc_mark ext_size ext_cell ext_frozen lt_add_r lt_add_r2 lt_add_r3 lt_add_r4 lt_add_r5 lt_add_r6 lt_add_r7 lt_add_r8

def restOverW (c0 c1 c2 : Int) (ss : List Site) (rs : List Rest) (es : List Event) (nm : ByteArray) : Int × Int :=
  if rCheckP c0 c1 c2 ss rs es != 0 then (0, rCheckP c0 c1 c2 ss rs es) else rRestOverP ss rs (rReplayP c0 c1 c2 ss rs es).1 nm
theorem restOf_same {k : Bk} {ls : List Lot} {ss : List Site} (h : Rel k ls ss) (rs : List Rest) (nm : ByteArray) : restOfP k ss rs nm = rRestOverP ss rs ls nm := by
  unfold restOfP rRestOverP
  rw [h.same nm]
  cases findLot nm ls with
  | none => rfl
  | some l =>
    dsimp only
    split
    · rfl
    · unfold rOverL
      cases findSite l.site ss <;> rfl
theorem gRestOver_w (ss : List Site) (rs : List Rest) (A R : Option Addr) (n c rn rc : Nat) (c0 c1 c2 : Int) (es : List Event) (L : Option Addr) (ln lc : Nat) (nm : ByteArray) (w : World) (hy : YardIn w ss rs A n c R rn rc) (hev : EventsIn w es L ln) :
    Calls Tryz.prog 21 #[.agg #[.slice A n c, .slice R rn rc, .int .i64 c0, .int .i64 c1, .int .i64 c2], .slice L ln lc, .string nm] w (Ret w (ret2 (restOverW c0 c1 c2 ss rs es nm))) := by
  have h := gRestOver_any ss rs A R n c rn rc c0 c1 c2 es L ln lc nm w hy hev
  have hrc := (read_check ss rs A R n c rn rc c0 c1 c2 es).1
  have hW : restOverR ss rs (readP ss rs (bk0 A n c R rn rc c0 c1 c2) es) nm = restOverW c0 c1 c2 ss rs es nm := by
    unfold restOverW restOverR
    rw [hrc]
    cases hc : (rCheckP c0 c1 c2 ss rs es != 0)
    · have hR := ((read_check ss rs A R n c rn rc c0 c1 c2 es).2 (by simpa using hc)).1
      simp only [Bool.false_eq_true, if_false]
      exact restOf_same hR rs nm
    · rfl
  rw [hW] at h
  exact h

theorem lyAt_liesAt (nm : ByteArray) (l : Lot) : lyAt nm l = liesAt nm l := by
  unfold lyAt liesAt hereP lies notLies
  by_cases h : l.state = 1
  · simp [h]
  · have h2 : (l.state == 1) = false := by simpa using h
    rw [h2]
    simp [h]
theorem rests_over {ss : List Site} {rs : List Rest} {day : Int} {l : Lot} (h : ∃ s, findSite l.site ss = some s) : restsOn ss rs day l = !decide (rOverL ss rs l ≤ day) := by
  obtain ⟨s, h⟩ := h
  unfold restsOn rOverL
  rw [h]
  dsimp only
  rw [← decide_not]
  congr 1
  simp [Int.not_le]
theorem use_same {k : Bk} {ls : List Lot} {ss : List Site} (h : Rel k ls ss) (rs : List Rest) (day : Int) (s : Site) : useK k ss rs day s = rUseP ss rs ls day s := by
  unfold useK rUseP
  have h1 : (lotsNow k.st).any (lyAt s.name) = ls.any (liesAt s.name) := by
    rw [Bool.eq_iff_iff, List.any_eq_true, List.any_eq_true]
    constructor
    · rintro ⟨l, h1, h2⟩; exact ⟨l, h.mem.1 h1, by rw [← lyAt_liesAt]; exact h2⟩
    · rintro ⟨l, h1, h2⟩; exact ⟨l, h.mem.2 h1, by rw [lyAt_liesAt]; exact h2⟩
  have h2 : (!((lotsNow k.st).any fun l => lyAt s.name l && restsOn ss rs day l)) = ls.all (endsBy ss rs day s.name) := by
    rw [Bool.eq_iff_iff, Bool.not_eq_true', ← Bool.not_eq_true, List.any_eq_true, List.all_eq_true]
    constructor
    · intro h1 l hl
      unfold endsBy
      cases hq : liesAt s.name l
      · rfl
      · have hst : l.state = 1 := by unfold liesAt at hq; simp only [Bool.and_eq_true, beq_iff_eq] at hq; exact hq.1
        obtain ⟨s', hs', _⟩ := h.lies l hl hst
        rw [Bool.not_true, Bool.false_or]
        cases hd : decide (rOverL ss rs l ≤ day)
        · exact absurd ⟨l, h.mem.2 hl, by rw [lyAt_liesAt, hq, rests_over ⟨s', hs'⟩, hd]; rfl⟩ h1
        · rfl
    · rintro h1 ⟨l, h2, h3⟩
      have hl := h.mem.1 h2
      rw [lyAt_liesAt, Bool.and_eq_true] at h3
      obtain ⟨h3, h4⟩ := h3
      have h5 := h1 l hl
      have hst : l.state = 1 := by unfold liesAt at h3; simp only [Bool.and_eq_true, beq_iff_eq] at h3; exact h3.1
      obtain ⟨s', hs', _⟩ := h.lies l hl hst
      rw [rests_over ⟨s', hs'⟩] at h4
      unfold endsBy at h5
      rw [h3] at h5
      simp only [Bool.not_true, Bool.false_or] at h5
      rw [h5] at h4
      simp at h4
  rw [h1, h2]
def reuseW (c0 c1 c2 : Int) (ss : List Site) (rs : List Rest) (es : List Event) (day : Int) : List ByteArray × Int :=
  if rCheckP c0 c1 c2 ss rs es != 0 then ([], rCheckP c0 c1 c2 ss rs es) else if !inR day 0 200000 then ([], 2) else (rReuseP ss rs (rReplayP c0 c1 c2 ss rs (upToE day es)).1 day ss, 0)
theorem gReusable_w (ss : List Site) (rs : List Rest) (A R : Option Addr) (n c rn rc : Nat) (c0 c1 c2 : Int) (es : List Event) (L : Option Addr) (ln lc : Nat) (day : Int) (w : World) (hy : YardIn w ss rs A n c R rn rc) (hev : EventsIn w es L ln) (hf : es.length ≤ 16 ∨ 300 < es.length) (hs60 : rCheckP c0 c1 c2 ss rs es = 0 → ss.length ≤ 60) :
    Calls Tryz.prog 22 #[.agg #[.slice A n c, .slice R rn rc, .int .i64 c0, .int .i64 c1, .int .i64 c2], .slice L ln lc, .int .i64 day] w (StrsErr w (reuseW c0 c1 c2 ss rs es day)) := by
  have hrc := (read_check ss rs A R n c rn rc c0 c1 c2 es).1
  have hz : (onDayR ss rs (bk0 A n c R rn rc c0 c1 c2) es day).2 = 0 → rCheckP c0 c1 c2 ss rs es = 0 := by
    unfold onDayR
    rw [hrc]
    intro h
    cases hc : (rCheckP c0 c1 c2 ss rs es != 0)
    · simpa using hc
    · rw [hc] at h
      simpa using h
  have h := gReusable_any ss rs A R n c rn rc c0 c1 c2 es L ln lc day w hy hev (fun h0 => by
    have hc := hz h0
    have hu := upTo_few A R n c rn rc hf day (c0 := c0) (c1 := c1) (c2 := c2) (ss := ss) (rs := rs) (by rw [hrc]; exact hc)
    unfold onDayR at h0 ⊢
    rw [hrc, hc] at h0 ⊢
    cases hd : inR day 0 200000
    · rw [hd] at h0; simp at h0
    · simpa using hu) (fun h0 => hs60 (hz h0))
  have hW : reuseR ss rs (onDayR ss rs (bk0 A n c R rn rc c0 c1 c2) es day) day = reuseW c0 c1 c2 ss rs es day := by
    unfold reuseW reuseR onDayR
    rw [hrc]
    cases hc : (rCheckP c0 c1 c2 ss rs es != 0)
    · cases hd : inR day 0 200000
      · simp
      · simp only [Bool.false_eq_true, if_false, Bool.not_true, bne_self_eq_false]
        have hR := (upTo_check (A := A) (R := R) (n := n) (c := c) (rn := rn) (rc := rc) (show rCheckP c0 c1 c2 ss rs es = 0 by simpa using hc) day).2.1
        unfold reuseL rReuseP
        have : useK (upToP ss rs day (bk0 A n c R rn rc c0 c1 c2) es) ss rs day = rUseP ss rs (rReplayP c0 c1 c2 ss rs (upToE day es)).1 day := by
          funext s
          exact use_same hR rs day s
        rw [this]
    · simp [hc]
  rw [hW] at h
  exact h
end Go.Proofs.YtpohkolapgofdaaGreat
