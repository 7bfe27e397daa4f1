/- Walks: a yard on a day; where a remain is. -/
/- Walk: all stays of a remain. -/
import Derived.Test.YtpohkolapgofdaaGreatB6
import Derived.Test.YtpohkolapgofdaaGreatL8
import Derived.Test.YtpohkolapgofdaaGreatL9
namespace Go.Proofs.YtpohkolapgofdaaGreat
open Go.RowKit
attribute [local go_sem] World.cell?_alloc_mark ext_size ext_cell ext_frozen lt_add_r lt_add_r2 lt_add_r3 lt_add_r4 lt_add_r5 lt_add_r6 lt_add_r7 lt_add_r8
attribute [local go_sem] ext_setCell alloc_setCell_lt

/-- A book, or an error. -/
def onDayR (ss : List Site) (rs : List Rest) (k0 : Bk) (es : List Event) (day : Int) : Bk × Int :=
  if (readP ss rs k0 es).2 != 0 then (k0, (readP ss rs k0 es).2) else if !inR day 0 200000 then (k0, 2) else (upToP ss rs day k0 es, 0)

theorem Env.mono {w : World} {base base' bb : Nat} {k : Bk} {ss : List Site} {rs : List Rest} (h : Env w base bb k ss rs) (hb : base' ≤ base) : Env w base' bb k ss rs :=
  ⟨h.bk.mono hb, h.sl, h.sr, h.hn, h.hrn, h.cap, h.l1, h.l2, h.l3, h.good, h.short, h.lies⟩

set_option maxRecDepth 100000 in
set_option maxHeartbeats 2000000 in
theorem onDay_any (ss : List Site) (rs : List Rest) (A R : Option Addr) (n c rn rc : Nat) (c0 c1 c2 : Int) (es : List Event) (L : Option Addr) (ln lc : Nat) (day : Int) (w : World) (hy : YardIn w ss rs A n c R rn rc) (hev : EventsIn w es L ln) :
    Calls Tryz.prog 34 #[.agg #[.slice A n c, .slice R rn rc, .int .i64 c0, .int .i64 c1, .int .i64 c2], .slice L ln lc, .int .i64 day] w (ReadPost w ss rs (onDayR ss rs (bk0 A n c R rn rc c0 c1 c2) es day)) := by
  have HR := fun W h1 h2 => read_any ss rs A R n c rn rc c0 c1 c2 es L ln lc W h1 h2
  have HU := fun W h1 h2 h3 h4 h5 => upTo_any ss rs A R n c rn rc c0 c1 c2 es L ln lc day W h1 h2 h3 h4 h5
  have HSM := Lib.hid (fun h => readP_small (ss := ss) (rs := rs) (k := bk0 A n c R rn rc c0 c1 c2) (es := es) h)
  unfold onDayR
  generalize readP ss rs (bk0 A n c R rn rc c0 c1 c2) es = p at *
  generalize upToP ss rs day (bk0 A n c R rn rc c0 c1 c2) es = u at *
  generalize bk0 A n c R rn rc c0 c1 c2 = k0 at *
  obtain ⟨k, er⟩ := p
  dsimp only at HSM ⊢
  go_enter Tryz.func34, Tryz.ntmps34
  cases hq : (er != 0)
  · have HQ := Lib.hid hq
    have her : er = 0 := by simpa using hq
    clear hq
    obtain ⟨hs1, hs2, hs3⟩ := HSM.out her
    clear her HSM
    simp only [Bool.false_eq_true, if_false]
    cases hd : inR day 0 200000
    · simp only [Bool.not_false, if_true]
      go_wp2_with (first | (go_at_call 46; refine (HR _ (hy.keep (by repeat (first | exact B_refl | exact Below.refl _ _ | assumption | with_reducible refine B_alloc ?_ _ | with_reducible refine B_ext ?_ _ | with_reducible refine B_drew ?_ | with_reducible refine B_drewN ?_ _ | with_reducible refine B_set ?_ (by simp; omega) _))) (hev.keep (by repeat (first | exact B_refl | exact Below.refl _ _ | assumption | with_reducible refine B_alloc ?_ _ | with_reducible refine B_ext ?_ _ | with_reducible refine B_drew ?_ | with_reducible refine B_drewN ?_ _ | with_reducible refine B_set ?_ (by simp; omega) _)))).mono ?_; intro e wq hpq; obtain ⟨base, bb, rfl, hbs, henv, zq, rfl⟩ := hpq.ok HQ.out; clear hpq) | (go_at_call 38; refine (isDay_any _ _).mono ?_; rintro e wq ⟨rfl, rfl⟩; rw [hd]))
      go_ret2
      exact .inl ⟨by simp, Ret.of rfl (by repeat (first | exact B_refl | exact Below.refl _ _ | assumption | with_reducible refine B_alloc ?_ _ | with_reducible refine B_ext ?_ _ | with_reducible refine B_drew ?_ | with_reducible refine B_drewN ?_ _ | with_reducible refine B_set ?_ (by simp; omega) _))⟩
    · simp only [Bool.not_true, Bool.false_eq_true, if_false]
      go_wp2_with (first
        | (go_at_call 46; refine (HR _ (hy.keep (by repeat (first | exact B_refl | exact Below.refl _ _ | assumption | with_reducible refine B_alloc ?_ _ | with_reducible refine B_ext ?_ _ | with_reducible refine B_drew ?_ | with_reducible refine B_drewN ?_ _ | with_reducible refine B_set ?_ (by simp; omega) _))) (hev.keep (by repeat (first | exact B_refl | exact Below.refl _ _ | assumption | with_reducible refine B_alloc ?_ _ | with_reducible refine B_ext ?_ _ | with_reducible refine B_drew ?_ | with_reducible refine B_drewN ?_ _ | with_reducible refine B_set ?_ (by simp; omega) _)))).mono ?_; intro e wq hpq; obtain ⟨base, bb, rfl, hbs, henv, zq, rfl⟩ := hpq.ok HQ.out; clear hpq)
        | (go_at_call 38; refine (isDay_any _ _).mono ?_; rintro e wq ⟨rfl, rfl⟩; rw [hd])
        | (go_at_call 39; refine (HU _ (hy.keep (by repeat (first | exact B_refl | exact Below.refl _ _ | assumption | with_reducible refine B_alloc ?_ _ | with_reducible refine B_ext ?_ _ | with_reducible refine B_drew ?_ | with_reducible refine B_drewN ?_ _ | with_reducible refine B_set ?_ (by simp; omega) _))) (hev.keep (by repeat (first | exact B_refl | exact Below.refl _ _ | assumption | with_reducible refine B_alloc ?_ _ | with_reducible refine B_ext ?_ _ | with_reducible refine B_drew ?_ | with_reducible refine B_drewN ?_ _ | with_reducible refine B_set ?_ (by simp; omega) _))) hs1 hs2 hs3).mono ?_; rintro e wq ⟨base2, b2, rfl, hbs2, henv2, z2, rfl⟩))
      go_ret2
      exact .inr ⟨rfl, b2, rfl, henv2.mono (by have := hbs2.out; simp [ext_size] at this; omega), ext_below (by repeat (first | exact B_refl | exact Below.refl _ _ | assumption | with_reducible refine B_alloc ?_ _ | with_reducible refine B_ext ?_ _ | with_reducible refine B_drew ?_ | with_reducible refine B_drewN ?_ _ | with_reducible refine B_set ?_ (by simp; omega) _))⟩
  · have HQ := Lib.hid hq
    simp only [if_true]
    go_wp2_with (go_at_call 46; refine (HR _ (hy.keep (by repeat (first | exact B_refl | exact Below.refl _ _ | assumption | with_reducible refine B_alloc ?_ _ | with_reducible refine B_ext ?_ _ | with_reducible refine B_drew ?_ | with_reducible refine B_drewN ?_ _ | with_reducible refine B_set ?_ (by simp; omega) _))) (hev.keep (by repeat (first | exact B_refl | exact Below.refl _ _ | assumption | with_reducible refine B_alloc ?_ _ | with_reducible refine B_ext ?_ _ | with_reducible refine B_drew ?_ | with_reducible refine B_drewN ?_ _ | with_reducible refine B_set ?_ (by simp; omega) _)))).mono ?_; intro e wq hpq; obtain ⟨rfl, zq, rfl⟩ := hpq.bad HQ.out; clear hpq)
    go_ret2
    exact .inl ⟨by simpa using HQ.out, Ret.of rfl (by repeat (first | exact B_refl | exact Below.refl _ _ | assumption | with_reducible refine B_alloc ?_ _ | with_reducible refine B_ext ?_ _ | with_reducible refine B_drew ?_ | with_reducible refine B_drewN ?_ _ | with_reducible refine B_set ?_ (by simp; omega) _))⟩

def whereR (p : Bk × Int) (nm : ByteArray) : Lot × Int := if p.2 != 0 then (zeroLot, p.2) else match lotK p.1 nm with | none => (zeroLot, 6) | some l => (l, 0)
set_option maxRecDepth 100000 in
set_option maxHeartbeats 2000000 in
theorem gWhere_any (ss : List Site) (rs : List Rest) (A R : Option Addr) (n c rn rc : Nat) (c0 c1 c2 : Int) (es : List Event) (L : Option Addr) (ln lc : Nat) (nm : ByteArray) (day : Int) (w : World) (hy : YardIn w ss rs A n c R rn rc) (hev : EventsIn w es L ln) :
    Calls Tryz.prog 12 #[.agg #[.slice A n c, .slice R rn rc, .int .i64 c0, .int .i64 c1, .int .i64 c2], .slice L ln lc, .string nm, .int .i64 day] w (Ret w (retErr (whereR (onDayR ss rs (bk0 A n c R rn rc c0 c1 c2) es day) nm))) := by
  have HO := fun W h1 h2 => onDay_any ss rs A R n c rn rc c0 c1 c2 es L ln lc day W h1 h2
  generalize onDayR ss rs (bk0 A n c R rn rc c0 c1 c2) es day = p at *
  obtain ⟨k, er⟩ := p
  go_enter Tryz.func12, Tryz.ntmps12
  cases hq : (er != 0)
  · have HQ := Lib.hid hq
    clear hq
    cases hl : lotK k nm with
    | none =>
      have hX : whereR (k, er) nm = (zeroLot, 6) := by unfold whereR; dsimp only; rw [HQ.out, hl]; rfl
      rw [hX]
      clear hX
      go_wp2_with (first
        | (go_at_call 34; refine (HO _ (hy.keep (by repeat (first | exact B_refl | exact Below.refl _ _ | assumption | with_reducible refine B_alloc ?_ _ | with_reducible refine B_ext ?_ _ | with_reducible refine B_drew ?_ | with_reducible refine B_drewN ?_ _ | with_reducible refine B_set ?_ (by simp; omega) _))) (hev.keep (by repeat (first | exact B_refl | exact Below.refl _ _ | assumption | with_reducible refine B_alloc ?_ _ | with_reducible refine B_ext ?_ _ | with_reducible refine B_drew ?_ | with_reducible refine B_drewN ?_ _ | with_reducible refine B_set ?_ (by simp; omega) _)))).mono ?_; intro e wq hpq; obtain ⟨base, bb, rfl, hbs, henv, zq, rfl⟩ := hpq.ok HQ.out; clear hpq)
        | (go_at_call 36; refine (lot_any base bb k ss rs _ _ (henv.keep (by repeat (first | exact B_refl | exact Below.refl _ _ | assumption | with_reducible refine B_alloc ?_ _ | with_reducible refine B_ext ?_ _ | with_reducible refine B_drew ?_ | with_reducible refine B_drewN ?_ _ | with_reducible refine B_set ?_ (by simp; omega) _)))).mono ?_; rintro e wq ⟨rfl, zq2, rfl⟩; rw [hl]; unfold retLot Lot.v))
      refine bodyPost_ret (v := .tuple #[zeroLot.v, .int .i64 6]) (results_lot rfl _ _ (w.heap.size + 1) zeroLot _ rfl rfl (by simp [go_sem, zeroLot]) (by simp [go_sem, zeroLot]) (by simp [go_sem, zeroLot]) (by simp [go_sem, zeroLot]) (by simp [go_sem, zeroLot]) (by simp [go_sem, zeroLot])) rfl ?_
      exact Ret.of rfl (by repeat (first | exact B_refl | exact Below.refl _ _ | assumption | with_reducible refine B_alloc ?_ _ | with_reducible refine B_ext ?_ _ | with_reducible refine B_drew ?_ | with_reducible refine B_drewN ?_ _ | with_reducible refine B_set ?_ (by simp; omega) _))
    | some l =>
      obtain ⟨rm, sta, si, lv, co, sc⟩ := l
      have hX : whereR (k, er) nm = (⟨rm, sta, si, lv, co, sc⟩, 0) := by unfold whereR; dsimp only; rw [HQ.out, hl]; rfl
      rw [hX]
      clear hX
      go_wp2_with (first
        | (go_at_call 34; refine (HO _ (hy.keep (by repeat (first | exact B_refl | exact Below.refl _ _ | assumption | with_reducible refine B_alloc ?_ _ | with_reducible refine B_ext ?_ _ | with_reducible refine B_drew ?_ | with_reducible refine B_drewN ?_ _ | with_reducible refine B_set ?_ (by simp; omega) _))) (hev.keep (by repeat (first | exact B_refl | exact Below.refl _ _ | assumption | with_reducible refine B_alloc ?_ _ | with_reducible refine B_ext ?_ _ | with_reducible refine B_drew ?_ | with_reducible refine B_drewN ?_ _ | with_reducible refine B_set ?_ (by simp; omega) _)))).mono ?_; intro e wq hpq; obtain ⟨base, bb, rfl, hbs, henv, zq, rfl⟩ := hpq.ok HQ.out; clear hpq)
        | (go_at_call 36; refine (lot_any base bb k ss rs _ _ (henv.keep (by repeat (first | exact B_refl | exact Below.refl _ _ | assumption | with_reducible refine B_alloc ?_ _ | with_reducible refine B_ext ?_ _ | with_reducible refine B_drew ?_ | with_reducible refine B_drewN ?_ _ | with_reducible refine B_set ?_ (by simp; omega) _)))).mono ?_; rintro e wq ⟨rfl, zq2, rfl⟩; rw [hl]; unfold retLot Lot.v))
      refine bodyPost_ret (v := .tuple #[Lot.v ⟨rm, sta, si, lv, co, sc⟩, .int .i64 0]) (results_lot rfl _ _ (w.heap.size + 1) ⟨rm, sta, si, lv, co, sc⟩ _ rfl rfl (by simp [go_sem, zeroLot]) (by simp [go_sem, zeroLot]) (by simp [go_sem, zeroLot]) (by simp [go_sem, zeroLot]) (by simp [go_sem, zeroLot]) (by simp [go_sem, zeroLot])) rfl ?_
      exact Ret.of rfl (by repeat (first | exact B_refl | exact Below.refl _ _ | assumption | with_reducible refine B_alloc ?_ _ | with_reducible refine B_ext ?_ _ | with_reducible refine B_drew ?_ | with_reducible refine B_drewN ?_ _ | with_reducible refine B_set ?_ (by simp; omega) _))
  · have HQ := Lib.hid hq
    have hX : whereR (k, er) nm = (zeroLot, er) := by unfold whereR; dsimp only; rw [HQ.out]; rfl
    rw [hX]
    clear hX
    go_wp2_with (go_at_call 34; refine (HO _ (hy.keep (by repeat (first | exact B_refl | exact Below.refl _ _ | assumption | with_reducible refine B_alloc ?_ _ | with_reducible refine B_ext ?_ _ | with_reducible refine B_drew ?_ | with_reducible refine B_drewN ?_ _ | with_reducible refine B_set ?_ (by simp; omega) _))) (hev.keep (by repeat (first | exact B_refl | exact Below.refl _ _ | assumption | with_reducible refine B_alloc ?_ _ | with_reducible refine B_ext ?_ _ | with_reducible refine B_drew ?_ | with_reducible refine B_drewN ?_ _ | with_reducible refine B_set ?_ (by simp; omega) _)))).mono ?_; intro e wq hpq; obtain ⟨rfl, zq, rfl⟩ := hpq.bad HQ.out; clear hpq)
    refine bodyPost_ret (v := .tuple #[zeroLot.v, .int .i64 er]) (results_lot rfl _ _ (w.heap.size + 1) zeroLot _ rfl rfl (by simp [go_sem, zeroLot]) (by simp [go_sem, zeroLot]) (by simp [go_sem, zeroLot]) (by simp [go_sem, zeroLot]) (by simp [go_sem, zeroLot]) (by simp [go_sem, zeroLot])) rfl ?_
    exact Ret.of rfl (by repeat (first | exact B_refl | exact Below.refl _ _ | assumption | with_reducible refine B_alloc ?_ _ | with_reducible refine B_ext ?_ _ | with_reducible refine B_drew ?_ | with_reducible refine B_drewN ?_ _ | with_reducible refine B_set ?_ (by simp; omega) _))
end Go.Proofs.YtpohkolapgofdaaGreat
namespace Go.Proofs.YtpohkolapgofdaaGreat
open Go.RowKit
attribute [local go_sem] World.cell?_alloc_mark ext_size ext_cell ext_frozen lt_add_r lt_add_r2 lt_add_r3 lt_add_r4 lt_add_r5 lt_add_r6 lt_add_r7 lt_add_r8
attribute [local go_sem] ext_setCell alloc_setCell_lt

theorem elStay : ElTy Tryz.prog 98 119 7 72 := elTy_of (z := .agg #[.string ⟨#[]⟩, .int .i64 0, .string ⟨#[]⟩, .int .i64 0, .int .i64 0, .int .i64 0, .int .i64 0]) (by kernel_rfl) (by kernel_rfl) rfl (by decide)
def staysP (nm : ByteArray) (st : List Stay) : List Stay := st.filter fun s => s.lot.remain.toList == nm.toList
def staysR (p : Bk × Int) (nm : ByteArray) : List Stay × Int := if p.2 != 0 then ([], p.2) else if decide ((staysP nm p.1.st).length = 0) then ([], 6) else (staysP nm p.1.st, 0)
def StaysPost (w : World) (r : List Stay × Int) : Ending → World → Prop := ListPost w 119 7 (r.1.flatMap Stay.cells, r.1.length) r.2
theorem staysP_take {nm : ByteArray} {st : List Stay} {j : Nat} (h : j < st.length) : staysP nm (st.take (j + 1)) = staysP nm (st.take j) ++ (if st[j].lot.remain.toList == nm.toList then [st[j]] else []) := by
  rw [List.take_succ_eq_append_getElem h, staysP, List.filter_append]
  congr 1
  cases hq : (st[j].lot.remain.toList == nm.toList) <;> simp [hq]
theorem staysP_le (nm : ByteArray) (st : List Stay) : (staysP nm st).length ≤ st.length := List.length_filter_le _ _
theorem sl_stay {w : World} {q : Nat} {x : Stay} {t : TypeId} {fr : Nat × Nat} (h : w.heap[q]? = some (.cells #[.string x.lot.remain, .int .i64 x.lot.state, .string x.lot.site, .int .i64 x.lot.level, .int .i64 x.lot.container, .int .i64 x.lot.since, .int .i64 x.till] t fr)) : Sl w 7 Stay.cells (some ⟨q, 0, none⟩) [x] :=
  sl_block stay_len h (by simp [Stay.cells, Lot.cells])

end Go.Proofs.YtpohkolapgofdaaGreat
