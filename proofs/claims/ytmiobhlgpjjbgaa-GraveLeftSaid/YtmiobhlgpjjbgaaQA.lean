/- Walk of the reference: one event more. -/
/- Plain law: a remain's stays follow each other without gaps; on a day the last one that has begun is its lot. -/
/- Plain law of GraveOnePlace: each remain that was buried by a day has one lot, and no two lie at one level. -/
/- Plain law: one event more, by the reference's words. -/
/- Plain law of GraveLeft: a burial at the first free level leaves the others free. -/
import Derived.Test.YtmiobhlgpjjbgaaLC
import Derived.Test.YtmiobhlgpjjbgaaX3
import Derived.Test.YtmiobhlgpjjbgaaLD
import Derived.Test.YtmiobhlgpjjbgaaF4
import Derived.Test.YtmiobhlgpjjbgaaQ5
import Derived.Test.YtmiobhlgpjjbgaaQ6
namespace Go.Proofs.Ytmiobhlgpjjbgaa
open Go.RowKit
attribute [local go_sem] World.cell?_alloc_mark ext_size ext_cell ext_frozen lt_add_r lt_add_r2 lt_add_r3 lt_add_r4 lt_add_r5 lt_add_r6 lt_add_r7 lt_add_r8

attribute [local go_sem] drew_ext
theorem grown_blk {W w2 : World} {v : Value} {base size n b : Nat} {e t : TypeId} {xs : List Value} {cs : Array Value} {fr : Nat × Nat} (hg : W.grownBy w2 v.ownBlock) (ho : W.ownsRow base e size v n xs) (hb : W.heap[b]? = some (.cells cs t fr)) (hne : t ≠ e) : w2.heap[b]? = some (.cells cs t fr) :=
  (hg.block b (blk_lt hb) (own_ne ho hb hne)).trans hb
def rAddP (c0 c1 c2 : Int) (ss : List Site) (rs : List Rest) (es : List Event) (ev : Event) : List Event × Int :=
  if (rReplayP c0 c1 c2 ss rs (es ++ [ev])).2.2 != 0 then ([], (rReplayP c0 c1 c2 ss rs (es ++ [ev])).2.2) else (es ++ [ev], 0)
set_option maxRecDepth 100000 in
set_option maxHeartbeats 2000000 in
theorem rAdd_any (ss : List Site) (rs : List Rest) (A R : Option Addr) (n c rn rc : Nat) (c0 c1 c2 : Int) (es : List Event) (L : Option Addr) (ln lc : Nat) (dy kd : Int) (si : ByteArray) (lv : Int) (rm : ByteArray) (co : Int) (od : Bool) (w : World) (hy : YardIn w ss rs A n c R rn rc) (hev : EventsIn w es L ln) (hroom : ∀ s ∈ ss, s.room ≤ 12) (hl : es.length ≤ 1000) (hs : si.size ≤ 100000) (hr : rm.size ≤ 100000) :
    Calls Try.prog 49 #[.agg #[.slice A n c, .slice R rn rc, .int .i64 c0, .int .i64 c1, .int .i64 c2], .slice L ln lc, .agg #[.int .i64 dy, .int .i64 kd, .string si, .int .i64 lv, .string rm, .int .i64 co, .bool od]] w (AddRPost w (rAddP c0 c1 c2 ss rs es ⟨dy, kd, si, lv, rm, co, od⟩)) := by
  have hln := hev.hn
  subst hln
  have HSH := Lib.hid (show ∀ e ∈ es ++ [(⟨dy, kd, si, lv, rm, co, od⟩ : Event)], e.site.size ≤ 100000 ∧ e.remain.size ≤ 100000 from fun e he => by
    rcases List.mem_append.1 he with h | h
    · exact hev.sh e h
    · have : e = ⟨dy, kd, si, lv, rm, co, od⟩ := by simpa using h
      subst this
      exact ⟨hs, hr⟩)
  clear hs hr
  have HRP := fun E2 k2 W h1 h2 => rReplay_any ss rs A R n c rn rc c0 c1 c2 (es ++ [⟨dy, kd, si, lv, rm, co, od⟩]) E2 (es.length + 1) k2 W h1 h2 hroom
  unfold rAddP
  generalize hX : rReplayP c0 c1 c2 ss rs (es ++ [⟨dy, kd, si, lv, rm, co, od⟩]) = X at *
  clear hX
  obtain ⟨ls, cnt, er⟩ := X
  dsimp only
  obtain ⟨T, hT⟩ : ∃ T : List Event × Int, (if (er != 0) = true then ([], er) else (es ++ [⟨dy, kd, si, lv, rm, co, od⟩], 0)) = T := ⟨_, rfl⟩
  rw [hT]
  have HT := Lib.hid hT
  clear hT
  go_enter Try.func49, Try.ntmps49
  go_wp2_with fail
  generalize hW0 : (w.alloc (.cells #[.slice A n c, .slice R rn rc, .int .i64 c0, .int .i64 c1, .int .i64 c2] 26)).alloc (.cells #[.int .i64 dy, .int .i64 kd, .string si, .int .i64 lv, .string rm, .int .i64 co, .bool od] 80) = W0
  have hB : Below w.heap.size w W0 := by rw [← hW0]; repeat (first | exact B_refl | exact Below.refl _ _ | assumption | with_reducible refine B_alloc ?_ _ | with_reducible refine B_ext ?_ _ | with_reducible refine B_drew ?_ | with_reducible refine B_drewN ?_ _ | with_reducible refine B_set ?_ (by simp; omega) _)
  have hblk : W0.heap[w.heap.size]? = some (.cells #[.slice A n c, .slice R rn rc, .int .i64 c0, .int .i64 c1, .int .i64 c2] 26) := by rw [← hW0]; (repeat (first | with_reducible exact G_new _ _ _ (by simp) | with_reducible exact G_new _ _ _ (by simp [ext_size]) | with_reducible refine G_drew ?_ | with_reducible refine G_ext ?_ | with_reducible refine G_alloc ?_))
  have hE : W0.heap[w.heap.size + 1]? = some (.cells #[.int .i64 dy, .int .i64 kd, .string si, .int .i64 lv, .string rm, .int .i64 co, .bool od] 80) := by rw [← hW0]; (repeat (first | with_reducible exact G_new _ _ _ (by simp) | with_reducible exact G_new _ _ _ (by simp [ext_size]) | with_reducible refine G_drew ?_ | with_reducible refine G_ext ?_ | with_reducible refine G_alloc ?_))
  have hEl := blk_lt hE
  have hzl := blk_lt hblk
  have hz : w.heap.size ≤ W0.heap.size := hB.size
  have hl3 : es.length ≤ 100000 := hev.l1
  clear hW0
  have e0 : W0.cell? ⟨w.heap.size + 1, 0, none⟩ = some (.int .i64 dy) := by simp [World.cell?, hE]
  have e1 : W0.cell? ⟨w.heap.size + 1, 1, none⟩ = some (.int .i64 kd) := by simp [World.cell?, hE]
  have e2 : W0.cell? ⟨w.heap.size + 1, 2, none⟩ = some (.string si) := by simp [World.cell?, hE]
  have e3 : W0.cell? ⟨w.heap.size + 1, 3, none⟩ = some (.int .i64 lv) := by simp [World.cell?, hE]
  have e4 : W0.cell? ⟨w.heap.size + 1, 4, none⟩ = some (.string rm) := by simp [World.cell?, hE]
  have e5 : W0.cell? ⟨w.heap.size + 1, 5, none⟩ = some (.int .i64 co) := by simp [World.cell?, hE]
  have e6 : W0.cell? ⟨w.heap.size + 1, 6, none⟩ = some (.bool od) := by simp [World.cell?, hE]
  clear hE
  go_region_law (first
    | (refine step_append_fresh rfl _ _ rfl elEvent event_len event_one (by decide) (base := w.heap.size) rfl ?q1 ?q2 rfl rfl hl3 (hev.sl.keep (n := w.heap.size) ?q3) ?q4 ?_
       case q1 => (repeat (first | with_reducible exact G_new _ _ _ (by simp) | with_reducible exact G_new _ _ _ (by simp [ext_size]) | with_reducible refine G_drew ?_ | with_reducible refine G_ext ?_ | with_reducible refine G_alloc ?_))
       case q2 => (first | omega | (simp; done) | (simp; omega) | (simp [ext_size]; done) | (simp [ext_size]; omega))
       case q3 => (repeat (first | exact hB | with_reducible refine B_alloc ?_ _ (by (first | omega | (simp; done) | (simp; omega) | (simp [ext_size]; done) | (simp [ext_size]; omega))) | with_reducible refine B_drew ?_))
       case q4 => (first | omega | (simp; done) | (simp; omega) | (simp [ext_size]; done) | (simp [ext_size]; omega))
       intro v1 z1 h1; simp only [drew_ext] at h1; have o1 : ∀ g, v1.ownBlock = some g → w.heap.size ≤ g := fun g hg => (h1.lt g hg).1)
    | (refine step_append_sl rfl _ _ rfl elEvent event_len event_one rfl (base := w.heap.size) (n := es.length) (m := 1) (v := v1) (xs := es.flatMap Event.cells) ?q1 rfl (ys := [⟨dy, kd, si, lv, rm, co, od⟩]) rfl ?q2 ?q3 ?q4 ?q5 ?_
       case q1 => repeat (first | with_reducible exact h1 | with_reducible refine own_ext ?_ _ | with_reducible refine own_alloc ?_ _ | with_reducible refine own_drew ?_)
       case q2 => (refine sl_event (t := 80) (fr := (0, 0)) ?_; (repeat (first | with_reducible exact G_new _ _ _ (by simp) | with_reducible exact G_new _ _ _ (by simp [ext_size]) | with_reducible refine G_drew ?_ | with_reducible refine G_ext ?_ | with_reducible refine G_alloc ?_)))
       case q3 => simp [maxLen]; omega
       case q4 => omega
       case q5 => (first | omega | (simp; done) | (simp; omega) | (simp [ext_size]; done) | (simp [ext_size]; omega))
       intro v2 w2 h2 g2 o2))
  all_goals
    have hb2 := grown_blk (base := w.heap.size) (size := 7) (n := es.length) (e := 80) (xs := es.flatMap Event.cells) (b := w.heap.size) (cs := #[.slice A n c, .slice R rn rc, .int .i64 c0, .int .i64 c1, .int .i64 c2]) (t := 26) (fr := (0, 0)) g2 (by repeat (first | with_reducible exact h1 | with_reducible refine own_ext ?_ _ | with_reducible refine own_alloc ?_ _ | with_reducible refine own_drew ?_)) (by repeat (first | with_reducible exact hblk | with_reducible refine G_drew ?_ | with_reducible refine G_ext ?_ | with_reducible refine G_alloc ?_)) (by decide)
    have hB2 : Below w.heap.size w w2 := Below.grown (by repeat (first | exact B_refl | exact Below.refl _ _ | assumption | with_reducible refine B_alloc ?_ _ | with_reducible refine B_ext ?_ _ | with_reducible refine B_drew ?_ | with_reducible refine B_drewN ?_ _ | with_reducible refine B_set ?_ (by simp; omega) _)) g2 (by (first | omega | (simp; done) | (simp; omega) | (simp [ext_size]; done) | (simp [ext_size]; omega))) o1
    have h3 : w2.ownsRow w.heap.size 80 7 v2 (es ++ [(⟨dy, kd, si, lv, rm, co, od⟩ : Event)]).length ((es ++ [(⟨dy, kd, si, lv, rm, co, od⟩ : Event)]).flatMap Event.cells) := by simpa using h2
    obtain ⟨A2, k2, rfl, hS2, _⟩ := own_sl event_len h3
    have hE2 : EventsIn w2 (es ++ [⟨dy, kd, si, lv, rm, co, od⟩]) A2 (es.length + 1) := ⟨by simp, hS2, by simp; omega, HSH.out⟩
    have hlen : (es ++ [(⟨dy, kd, si, lv, rm, co, od⟩ : Event)]).length = es.length + 1 := by simp
    rw [hlen]
    clear g2 o2 h1 h2 hS2 o1 e0 e1 e2 e3 e4 e5 e6 hblk hlen
    have y0 : w2.cell? ⟨w.heap.size, 0, none⟩ = some (.slice A n c) := by simp [World.cell?, hb2]
    have y1 : w2.cell? ⟨w.heap.size, 1, none⟩ = some (.slice R rn rc) := by simp [World.cell?, hb2]
    have y2 : w2.cell? ⟨w.heap.size, 2, none⟩ = some (.int .i64 c0) := by simp [World.cell?, hb2]
    have y3 : w2.cell? ⟨w.heap.size, 3, none⟩ = some (.int .i64 c1) := by simp [World.cell?, hb2]
    have y4 : w2.cell? ⟨w.heap.size, 4, none⟩ = some (.int .i64 c2) := by simp [World.cell?, hb2]
    cases hq : (er != 0)
    · have her : er = 0 := by simpa using hq
      subst her
      go_wp2_with (go_at_call 47; refine (HRP A2 k2 _ (hy.keep (m := w.heap.size) hB2) hE2).mono ?_; rintro e wq ⟨v, rfl, _, z, rfl⟩)
      go_ret2
      exact ⟨.slice A2 (es.length + 1) k2, by rw [← HT.out]; rfl, by rw [← HT.out]; exact own_ext (by simpa using h3) _, ext_below (by repeat (first | exact B_refl | exact Below.refl _ _ | assumption | with_reducible refine B_alloc ?_ _ | with_reducible refine B_ext ?_ _ | with_reducible refine B_drew ?_ | with_reducible refine B_drewN ?_ _ | with_reducible refine B_set ?_ (by simp; omega) _))⟩
    · go_wp2_with (go_at_call 47; refine (HRP A2 k2 _ (hy.keep (m := w.heap.size) hB2) hE2).mono ?_; rintro e wq ⟨v, rfl, _, z, rfl⟩)
      go_ret2
      have hT2 : T = ([], er) := by rw [← HT.out, if_pos hq]
      rw [hT2]
      exact AddRPost.none (by repeat (first | exact B_refl | exact Below.refl _ _ | assumption | with_reducible refine B_alloc ?_ _ | with_reducible refine B_ext ?_ _ | with_reducible refine B_drew ?_ | with_reducible refine B_drewN ?_ _ | with_reducible refine B_set ?_ (by simp; omega) _))
end Go.Proofs.Ytmiobhlgpjjbgaa
namespace Go.Proofs.Ytmiobhlgpjjbgaa
open Go.RowKit

def closeS (nm : ByteArray) (d : Int) (s : Stay) : Stay := if s.lot.remain.toList == nm.toList && decide (s.till < 0) then { s with till := d } else s
theorem closeS_lot (nm : ByteArray) (d : Int) (s : Stay) : (closeS nm d s).lot = s.lot := by unfold closeS; split <;> rfl
theorem closeAt_map {k : Bk} {ls : List Lot} {ss : List Site} (h : Rel k ls ss) (nm : ByteArray) (d : Int) : closeAt (mget eqS nm k.m) d k.st = k.st.map (closeS nm d) := by
  apply List.ext_getElem?
  intro j
  rw [List.getElem?_map]
  cases hs : k.st[j]? with
  | none =>
    have : k.st.length ≤ j := List.getElem?_eq_none_iff.1 hs
    simp only [Option.map_none]
    exact List.getElem?_eq_none_iff.2 (by rw [closeAt_len]; exact this)
  | some s =>
    simp only [Option.map_some]
    cases hm : mget eqS nm k.m with
    | none =>
      simp only [closeAt, hs, Option.some.injEq]
      unfold closeS
      rw [if_neg]
      simp only [Bool.and_eq_true, decide_eq_true_eq, not_and]
      intro h1 h2
      have h3 := h.closed j s hs h2
      rw [bytes_ext (eq_of_beq h1)] at h3
      rw [h3] at hm
      cases hm
    | some i =>
      obtain ⟨n, s', rfl, h1, h2, h3⟩ := h.opened _ _ hm
      simp only [closeAt, List.getElem?_modify, hs, Option.map_eq_map, Option.map_some, Option.some.injEq, Int.toNat_natCast]
      unfold closeS
      by_cases hnj : n = j
      · subst hnj
        rw [hs] at h1
        cases h1
        rw [if_pos rfl, if_pos (by simp [h2, h3])]
      · rw [if_neg hnj, if_neg]
        simp only [Bool.and_eq_true, decide_eq_true_eq, not_and]
        intro g1 g2
        have g3 := h.closed j s hs g2
        rw [bytes_ext (eq_of_beq g1), hm] at g3
        simp at g3
        omega

/-- Stays that follow each other without gaps, the last one without an end. -/
def chainP : List Stay → Prop
  | [] => True
  | [a] => a.till = -1
  | a :: b :: r => a.till = b.lot.since ∧ chainP (b :: r)
theorem chain_add {nm : ByteArray} {d : Int} {x : Lot} (hx : x.since = d) : ∀ {l : List Stay}, chainP l → (∀ a ∈ l, 0 ≤ a.lot.since ∧ a.lot.remain = nm) → chainP (l.map (closeS nm d) ++ [⟨x, -1⟩])
  | [], _, _ => rfl
  | [a], h, hr => by
    have h1 : a.till = -1 := h
    have h2 := (hr a (by simp)).2
    have h3 : closeS nm d a = { a with till := d } := by unfold closeS; rw [if_pos (by simp [h1, h2])]
    simp only [List.map_cons, List.map_nil, List.cons_append, List.nil_append, h3]
    exact ⟨hx.symm, rfl⟩
  | a :: b :: r, h, hr => by
    obtain ⟨h1, h2⟩ := h
    have h3 := (hr b (by simp)).1
    have h4 : closeS nm d a = a := by unfold closeS; rw [if_neg (by simp; omega)]
    have ih := chain_add (nm := nm) hx h2 fun c hc => hr c (by simp [hc])
    simp only [List.map_cons, List.cons_append, h4] at ih ⊢
    exact ⟨by rw [closeS_lot]; exact h1, ih⟩
theorem errorP_head {k : Bk} {ss : List Site} {rs : List Rest} {e : Event} (h : (errorP k ss rs e).2 = 0) : (errorP k ss rs e).1.since = e.day ∧ (errorP k ss rs e).1.remain = e.remain ∧ 0 ≤ e.day := by
  have hd : 0 ≤ e.day := by
    have hc : checkEventP e = 0 := by
      unfold errorP at h
      split at h
      · exact h
      · rename_i hx; simpa using hx
    exact (checkEvent_ok hc).2.2.1
  unfold errorP at h ⊢
  split at h
  · rename_i hc
    dsimp only at h
    rw [h] at hc
    simp at hc
  rename_i g1
  rw [if_neg g1]
  split at h
  · simp at h
  rename_i g2
  rw [if_neg g2]
  unfold errorQ at h ⊢
  split at h
  · rename_i g3
    rw [if_pos g3]
    split at h
    · simp at h
    rename_i g4
    rw [if_neg g4]
    split at h
    · simp at h
    rename_i g5
    rw [if_neg g5]
    split at h
    · simp at h
    rename_i g6
    rw [if_neg g6]
    split at h
    · rename_i hc
      dsimp only at h
      rw [h] at hc
      simp at hc
    rename_i g7
    rw [if_neg g7]
    exact ⟨rfl, rfl, hd⟩
  · rename_i g3
    rw [if_neg g3]
    split at h
    · simp at h
    rename_i g4
    rw [if_neg g4]
    split at h
    · simp at h
    rename_i g5
    rw [if_neg g5]
    split
    · exact ⟨rfl, rfl, hd⟩
    rename_i g6
    rw [if_neg g6] at h
    split
    · exact ⟨rfl, rfl, hd⟩
    rename_i g7
    rw [if_neg g7] at h
    split at h
    · simp at h
    rename_i g8
    rw [if_neg g8]
    split at h
    · simp at h
    rename_i g9
    rw [if_neg g9]
    split at h
    · simp at h
    rename_i g10
    rw [if_neg g10]
    exact ⟨rfl, rfl, hd⟩

theorem staysP_map (nm nm' : ByteArray) (d : Int) (st : List Stay) : staysP nm (st.map (closeS nm' d)) = (staysP nm st).map (closeS nm' d) := by
  unfold staysP
  rw [List.filter_map]
  congr 1
  apply List.filter_congr
  intro s _
  simp only [Function.comp, closeS_lot]
theorem map_closeS_other {nm nm' : ByteArray} {d : Int} (hne : (nm.toList == nm'.toList) = false) (st : List Stay) : (staysP nm st).map (closeS nm' d) = staysP nm st := by
  rw [List.map_congr_left (g := id), List.map_id]
  intro s hs
  unfold staysP at hs
  have h1 := (List.mem_filter.1 hs).2
  unfold closeS
  rw [eq_of_beq h1, hne]
  simp
/-- What holds of the stays of a book behind accepted events. -/
structure Chn (k : Bk) : Prop where
  chain : ∀ nm, chainP (staysP nm k.st)
  since : ∀ s ∈ k.st, 0 ≤ s.lot.since
  lot : ∀ nm, lotK k nm = ((staysP nm k.st).map (·.lot)).getLast?
theorem chn0 (A : Option Addr) (n c : Nat) (R : Option Addr) (rn rc : Nat) (c0 c1 c2 : Int) : Chn (bk0 A n c R rn rc c0 c1 c2) := ⟨fun _ => trivial, fun _ h => (by cases h), fun _ => rfl⟩
theorem chn_add {k : Bk} {ls : List Lot} {ss : List Site} {rs : List Rest} {e : Event} (hC : Chn k) (hR : Rel k ls ss) (hI : Inv k ss) (h0 : (errorP k ss rs e).2 = 0) : Chn (addK k e (errorP k ss rs e).1) := by
  obtain ⟨h1, h2, h3⟩ := errorP_head h0
  generalize (errorP k ss rs e).1 = l at *
  have hst : (addK k e l).st = k.st.map (closeS e.remain e.day) ++ [⟨l, -1⟩] := by
    show closeAt (mget eqS e.remain k.m) e.day k.st ++ [⟨l, -1⟩] = _
    rw [closeAt_map hR]
  have hsp : ∀ nm, staysP nm (addK k e l).st = (staysP nm k.st).map (closeS e.remain e.day) ++ (if l.remain.toList == nm.toList then [⟨l, -1⟩] else []) := fun nm => by
    rw [hst, staysP, List.filter_append]
    have := staysP_map nm e.remain e.day k.st
    rw [staysP] at this
    rw [this]
    congr 1
    cases hq : (l.remain.toList == nm.toList) <;> simp [hq]
  refine ⟨fun nm => ?_, fun s hs => ?_, fun nm => ?_⟩
  · rw [hsp]
    cases hq : (l.remain.toList == nm.toList)
    · rw [map_closeS_other (by rw [← h2]; rw [beq_eq_false_iff_ne] at hq ⊢; exact fun e => hq e.symm), if_neg Bool.false_ne_true, List.append_nil]
      exact hC.chain nm
    · have hnm : e.remain = nm := by rw [← h2]; exact bytes_ext (eq_of_beq hq)
      subst hnm
      rw [if_pos rfl]
      refine chain_add h1 (hC.chain _) fun a ha => ?_
      unfold staysP at ha
      obtain ⟨ha1, ha2⟩ := List.mem_filter.1 ha
      exact ⟨hC.since a ha1, bytes_ext (eq_of_beq ha2)⟩
  · rw [hst] at hs
    rcases List.mem_append.1 hs with hs | hs
    · obtain ⟨s', hs', rfl⟩ := List.mem_map.1 hs
      rw [closeS_lot]
      exact hC.since s' hs'
    · have : s = ⟨l, -1⟩ := by simpa using hs
      subst this
      dsimp only
      omega
  · rw [lotK_add hI, hsp, hC.lot nm]
    have hm : ((staysP nm k.st).map (closeS e.remain e.day)).map (·.lot) = (staysP nm k.st).map (·.lot) := by
      rw [List.map_map]
      apply List.map_congr_left
      intro s _
      exact closeS_lot _ _ _
    rw [List.map_append, hm]
    unfold eqS
    rw [← h2]
    by_cases hq : nm.toList = l.remain.toList
    · simp [hq]
    · have hq' : ¬ l.remain.toList = nm.toList := fun e => hq e.symm
      simp [hq, hq']
/-- The lots that a remain had, up to a day. -/
def lotsOn (nm : ByteArray) (day : Int) (st : List Stay) : List Lot := ((staysP nm st).map (·.lot)).filter fun l => decide (l.since ≤ day)
theorem staysP_lots {nm : ByteArray} : ∀ {st st' : List Stay}, st.map (·.lot) = st'.map (·.lot) → (staysP nm st).map (·.lot) = (staysP nm st').map (·.lot)
  | [], [], _ => rfl
  | [], _ :: _, h => by simp at h
  | _ :: _, [], h => by simp at h
  | a :: l, b :: l', h => by
    simp only [List.map_cons, List.cons.injEq] at h
    have ih := staysP_lots (nm := nm) h.2
    unfold staysP at ih ⊢
    rw [List.filter_cons, List.filter_cons, h.1]
    split
    · simp only [List.map_cons, h.1, ih]
    · exact ih
theorem closeAt_lots (i : Option Int) (d : Int) (st : List Stay) : (closeAt i d st).map (·.lot) = st.map (·.lot) := by
  apply List.ext_getElem?
  intro j
  rw [List.getElem?_map, List.getElem?_map, closeAt_lot]
theorem lots_addK (nm : ByteArray) (k : Bk) (e : Event) (l : Lot) : (staysP nm (addK k e l).st).map (·.lot) = (staysP nm k.st).map (·.lot) ++ (if l.remain.toList == nm.toList then [l] else []) := by
  show (staysP nm (closeAt (mget eqS e.remain k.m) e.day k.st ++ [⟨l, -1⟩])).map (·.lot) = _
  have h1 : staysP nm (closeAt (mget eqS e.remain k.m) e.day k.st ++ [⟨l, -1⟩]) = staysP nm (closeAt (mget eqS e.remain k.m) e.day k.st) ++ (if l.remain.toList == nm.toList then [⟨l, -1⟩] else []) := by
    unfold staysP
    rw [List.filter_append]
    congr 1
    cases hq : (l.remain.toList == nm.toList) <;> simp [hq]
  rw [h1, List.map_append, staysP_lots (closeAt_lots _ _ _)]
  congr 1
  split <;> rfl
theorem adds_chn {ss : List Site} {rs : List Rest} (hroom : ∀ s ∈ ss, s.room ≤ 12) : ∀ (es : List Event) (k : Bk) (ls : List Lot), Rel k ls ss → Inv k ss → Chn k → (addsP ss rs k es).2 = 0 → Chn (addsP ss rs k es).1
  | [], _, _, _, _, hC, _ => hC
  | e :: l, k, ls, hR, hI, hC, h => by
    unfold addsP at h ⊢
    split at h
    · rename_i hx
      dsimp only at h
      rw [h] at hx
      simp at hx
    rename_i hx
    rw [if_neg hx]
    have hx0 : (errorP k ss rs e).2 = 0 := by simpa using hx
    exact adds_chn hroom l _ _ (hR.add hI hroom hx0) (inv_add hI (Prod.ext rfl hx0)) (chn_add hC hR hI hx0) h
theorem adds_lotsOn {ss : List Site} {rs : List Rest} {nm : ByteArray} {day : Int} : ∀ (es : List Event) (k : Bk), (addsP ss rs k es).2 = 0 → (∀ x ∈ es, day < x.day) → lotsOn nm day (addsP ss rs k es).1.st = lotsOn nm day k.st
  | [], _, _, _ => rfl
  | e :: l, k, h, hd => by
    unfold addsP at h ⊢
    split at h
    · rename_i hx
      dsimp only at h
      rw [h] at hx
      simp at hx
    rename_i hx
    rw [if_neg hx]
    have hx0 : (errorP k ss rs e).2 = 0 := by simpa using hx
    rw [adds_lotsOn l _ h fun x hx => hd x (by simp [hx])]
    obtain ⟨h1, h2, h3⟩ := errorP_head hx0
    have h4 := hd e (by simp)
    unfold lotsOn
    rw [lots_addK, List.filter_append]
    split
    · rw [List.filter_cons_of_neg (by simp; omega)]
      simp
    · simp
theorem adds_since {ss : List Site} {rs : List Rest} {day : Int} : ∀ (es : List Event) (k : Bk), (addsP ss rs k es).2 = 0 → (∀ x ∈ es, x.day ≤ day) → (∀ l ∈ k.st.map (·.lot), l.since ≤ day) → ∀ l ∈ (addsP ss rs k es).1.st.map (·.lot), l.since ≤ day
  | [], _, _, _, hk => hk
  | e :: l, k, h, hd, hk => by
    unfold addsP at h ⊢
    split at h
    · rename_i hx
      dsimp only at h
      rw [h] at hx
      simp at hx
    rename_i hx
    rw [if_neg hx]
    have hx0 : (errorP k ss rs e).2 = 0 := by simpa using hx
    refine adds_since l _ h (fun x hx => hd x (by simp [hx])) ?_
    obtain ⟨h1, h2, h3⟩ := errorP_head hx0
    intro t ht
    have ht' : t ∈ (closeAt (mget eqS e.remain k.m) e.day k.st ++ [(⟨(errorP k ss rs e).1, -1⟩ : Stay)]).map (fun s : Stay => s.lot) := ht
    rw [List.map_append, closeAt_lots] at ht'
    rcases List.mem_append.1 ht' with ht' | ht'
    · exact hk t ht'
    · have : t = (errorP k ss rs e).1 := by simpa using ht'
      rw [this, h1]
      exact hd e (by simp)
theorem adds_append {ss : List Site} {rs : List Rest} : ∀ (es es' : List Event) (k : Bk), (addsP ss rs k es).2 = 0 → addsP ss rs k (es ++ es') = addsP ss rs (addsP ss rs k es).1 es'
  | [], _, _, _ => rfl
  | e :: l, es', k, h => by
    unfold addsP at h
    split at h
    · rename_i hx
      dsimp only at h
      rw [h] at hx
      simp at hx
    rename_i hx
    rw [List.cons_append]
    have h1 : addsP ss rs k (e :: (l ++ es')) = addsP ss rs (addK k e (errorP k ss rs e).1) (l ++ es') := by
      conv => lhs; unfold addsP
      rw [if_neg hx]
    have h2 : addsP ss rs k (e :: l) = addsP ss rs (addK k e (errorP k ss rs e).1) l := by
      conv => lhs; unfold addsP
      rw [if_neg hx]
    rw [h1, h2]
    exact adds_append l es' _ h
theorem mem_upToE {day : Int} : ∀ {es : List Event}, ∀ e ∈ upToE day es, e.day ≤ day
  | [], _, h => by cases h
  | x :: l, e, h => by
    unfold upToE at h
    by_cases hd : x.day ≤ day
    · rw [List.takeWhile_cons_of_pos (by simpa using hd)] at h
      rcases List.mem_cons.1 h with rfl | h
      · exact hd
      · exact mem_upToE e h
    · rw [List.takeWhile_cons_of_neg (by simpa using hd)] at h
      cases h
theorem drop_upToE {ss : List Site} {rs : List Rest} {day : Int} : ∀ (es : List Event) (k : Bk), (addsP ss rs k es).2 = 0 → ∃ post, es = upToE day es ++ post ∧ ∀ e ∈ post, day < e.day
  | [], _, _ => ⟨[], rfl, fun _ h => by cases h⟩
  | e :: l, k, h => by
    have hd := adds_day (e :: l) k h
    have h' := h
    unfold addsP at h'
    split at h'
    · rename_i hx
      dsimp only at h'
      rw [h'] at hx
      simp at hx
    by_cases hday : e.day ≤ day
    · obtain ⟨post, h1, h2⟩ := drop_upToE (day := day) l _ h'
      refine ⟨post, ?_, h2⟩
      unfold upToE at h1 ⊢
      rw [List.takeWhile_cons_of_pos (by simpa using hday), List.cons_append, ← h1]
    · refine ⟨e :: l, ?_, fun x hx => ?_⟩
      · unfold upToE
        rw [List.takeWhile_cons_of_neg (by simpa using hday)]
        rfl
      · rcases List.mem_cons.1 hx with rfl | hx
        · omega
        · have h2 := adds_day l _ h' x hx
          have e2 : (addK k e (errorP k ss rs e).1).day = e.day := rfl
          omega

/-- What the law GraveStaysOn asks. -/
theorem stays_on {ss : List Site} {rs : List Rest} {A R : Option Addr} {n c rn rc : Nat} {c0 c1 c2 : Int} {es : List Event} (h : rCheckP c0 c1 c2 ss rs es = 0) (nm : ByteArray) (day : Int) :
    chainP (staysP nm (readP ss rs (bk0 A n c R rn rc c0 c1 c2) es).1.st) ∧ lotK (upToP ss rs day (bk0 A n c R rn rc c0 c1 c2) es) nm = (lotsOn nm day (readP ss rs (bk0 A n c R rn rc c0 c1 c2) es).1.st).getLast? := by
  obtain ⟨_, _, h3, h4, h5, h6⟩ := (read_check ss rs A R n c rn rc c0 c1 c2 es).2 h
  obtain ⟨g1, g2, g3, g4⟩ := upTo_check (A := A) (R := R) (n := n) (c := c) (rn := rn) (rc := rc) h day
  have hroom := yard_rooms h5
  rw [h3, g1]
  have c1' := adds_chn (rs := rs) hroom es _ _ (rel0 A n c R rn rc c0 c1 c2 ss) (inv0 _ _ _ _ _ _ _ _ _ _) (chn0 _ _ _ _ _ _ _ _ _) h4
  have c2' := adds_chn (rs := rs) hroom (upToE day es) _ _ (rel0 A n c R rn rc c0 c1 c2 ss) (inv0 _ _ _ _ _ _ _ _ _ _) (chn0 _ _ _ _ _ _ _ _ _) g4
  refine ⟨c1'.chain nm, ?_⟩
  obtain ⟨post, p1, p2⟩ := drop_upToE (day := day) es _ h4
  have e1 : addsP ss rs (bk0 A n c R rn rc c0 c1 c2) es = addsP ss rs (addsP ss rs (bk0 A n c R rn rc c0 c1 c2) (upToE day es)).1 post := by
    conv => lhs; rw [p1]
    exact adds_append _ _ _ g4
  have e2 : (addsP ss rs (addsP ss rs (bk0 A n c R rn rc c0 c1 c2) (upToE day es)).1 post).2 = 0 := by rw [← e1]; exact h4
  rw [e1, adds_lotsOn post _ e2 p2, c2'.lot nm]
  congr 1
  unfold lotsOn
  rw [List.filter_eq_self.2]
  intro l hl
  have := adds_since (day := day) (upToE day es) _ g4 mem_upToE (fun l h => by cases h) l (by
    obtain ⟨s, hs, rfl⟩ := List.mem_map.1 hl
    unfold staysP at hs
    exact List.mem_map.2 ⟨s, (List.mem_filter.1 hs).1, rfl⟩)
  simpa using this

/-- The number of the last stay that has begun by a day. -/
def lastGo (day : Int) : Nat → Int → List Stay → Int
  | _, la, [] => la
  | i, la, s :: r => lastGo day (i + 1) (if decide (s.lot.since ≤ day) then (i : Int) else la) r
def LastOk (l : List Stay) (day : Int) (i : Nat) (la : Int) : Prop :=
  (la = -1 ∧ ((l.take i).map (·.lot)).filter (fun x => decide (x.since ≤ day)) = []) ∨
  (∃ (n : Nat) (s : Stay), la = (n : Int) ∧ n < i ∧ l[n]? = some s ∧ (((l.take i).map (·.lot)).filter fun x => decide (x.since ≤ day)).getLast? = some s.lot)
theorem lastOk_step {l : List Stay} {day : Int} {i : Nat} {la : Int} {s : Stay} (hi : l[i]? = some s) (h : LastOk l day i la) : LastOk l day (i + 1) (if decide (s.lot.since ≤ day) then (i : Int) else la) := by
  have ht : l.take (i + 1) = l.take i ++ [s] := by
    have hlt := (List.getElem?_eq_some_iff.1 hi).1
    rw [List.take_succ_eq_append_getElem hlt, (List.getElem?_eq_some_iff.1 hi).2]
  unfold LastOk
  rw [ht, List.map_append, List.filter_append]
  by_cases hd : s.lot.since ≤ day
  · rw [if_pos (by simpa using hd)]
    refine .inr ⟨i, s, rfl, by omega, hi, ?_⟩
    simp [hd]
  · rw [if_neg (by simpa using hd)]
    have h0 : ([s].map (·.lot)).filter (fun x => decide (x.since ≤ day)) = [] := by simp; omega
    rw [h0, List.append_nil]
    rcases h with h | ⟨n, s', h1, h2, h3, h4⟩
    · exact .inl h
    · exact .inr ⟨n, s', h1, by omega, h3, h4⟩
end Go.Proofs.Ytmiobhlgpjjbgaa
namespace Go.Proofs.Ytmiobhlgpjjbgaa
open Go.RowKit

theorem next_ok {c0 c1 c2 : Int} {ss : List Site} {rs : List Rest} {ls : List Lot} {last : Int} {e : Event} (h : (rNextP c0 c1 c2 ss rs ls last e).2 = 0) :
    (rNextP c0 c1 c2 ss rs ls last e).1 = rWithP (rLotP ss ls e) ls ∧ rErrP c0 c1 c2 ss rs ls e = 0 ∧ checkEventP e = 0 ∧ last ≤ e.day := by
  unfold rNextP at h ⊢
  split at h
  · rename_i hx; dsimp only at h; rw [h] at hx; simp at hx
  rename_i g1
  split at h
  · simp at h
  rename_i g2
  split at h
  · rename_i hx; dsimp only at h; rw [h] at hx; simp at hx
  rename_i g3
  rw [if_neg g1, if_neg g2, if_neg g3]
  exact ⟨rfl, by simpa using g3, by simpa using g1, by simpa using g2⟩

/-- No two lots lie at one level. -/
def Apart (ls : List Lot) : Prop := ∀ a ∈ ls, ∀ b ∈ ls, a.state = 1 → b.state = 1 → a.site = b.site → a.level = b.level → a = b
theorem apart_with {l : Lot} {ls : List Lot} (h : Apart ls) (hl : l.state = 1 → ∀ t ∈ ls, t.state = 1 → t.site = l.site → t.level ≠ l.level) : Apart (rWithP l ls) := by
  intro a ha b hb h1 h2 h3 h4
  rcases mem_with ha with ea | ha'
  · rcases mem_with hb with eb | hb'
    · rw [ea, eb]
    · subst ea
      exact absurd h4.symm (hl h1 b hb' h2 h3.symm)
  · rcases mem_with hb with eb | hb'
    · subst eb
      exact absurd h4 (hl h2 a ha' h1 h3)
    · exact h a ha' b hb' h1 h2 h3 h4
theorem len_with (l : Lot) : ∀ ls : List Lot, (rWithP l ls).length ≤ ls.length + 1
  | [] => by simp [rWithP]
  | x :: r => by
    unfold rWithP
    have := len_with l r
    split
    · simp only [List.length_cons]; omega
    split
    · simp only [List.length_cons]; omega
    · simp only [List.length_cons]; omega

section
variable {c0 c1 c2 : Int} {ss : List Site} {rs : List Rest} {ls : List Lot} {e : Event}
theorem place_free {si : ByteArray} {lv co : Int} (h : rPlaceP c0 c1 c2 ss ls si lv co = 0) : rOccP si lv ls = false := by
  unfold rPlaceP at h
  split at h
  · simp at h
  · split at h
    · simp at h
    split at h
    · simp at h
    split at h
    · simp at h
    · rename_i s hs _ _ h3
      simpa using h3
theorem put_ok (h : rErrP c0 c1 c2 ss rs ls e = 0) (hk : e.kind = 0 ∨ e.kind = 2) : rPlaceP c0 c1 c2 ss ls e.site e.level e.container = 0 ∧ (e.kind = 0 → findLot e.remain ls = none) := by
  unfold rErrP at h
  rw [if_pos (by simpa using hk)] at h
  unfold rPutP at h
  split at h
  · simp at h
  rename_i g1
  split at h
  · simp at h
  split at h
  · simp at h
  refine ⟨h, fun h0 => ?_⟩
  cases hf : findLot e.remain ls with
  | none => rfl
  | some t => rw [h0, hf] at g1; simp at g1
theorem lot_apart (hlies : ∀ t ∈ ls, t.state = 1 → ∃ s, findSite t.site ss = some s ∧ 0 ≤ t.level ∧ t.level < s.room) (h : rErrP c0 c1 c2 ss rs ls e = 0) :
    (rLotP ss ls e).state = 1 → ∀ t ∈ ls, t.state = 1 → t.site = (rLotP ss ls e).site → t.level ≠ (rLotP ss ls e).level := by
  by_cases hk : e.kind = 0 ∨ e.kind = 2
  · have h1 := place_free (put_ok h hk).1
    unfold rLotP
    rw [if_pos (by simpa using hk)]
    dsimp only
    intro _ t ht hs1 hs2 hs3
    rw [Bool.eq_false_iff] at h1
    exact h1 (rOcc_iff.2 ⟨t, ht, hs1, hs2, hs3⟩)
  · unfold rErrP at h
    rw [if_neg (by simpa using hk)] at h
    unfold rLotP
    rw [if_neg (by simpa using hk)]
    by_cases hk3 : e.kind = 3
    · rw [if_pos (by simpa using hk3)]
      unfold rTakeP at h
      cases hf : findLot e.remain ls with
      | none => rw [hf] at h; simp at h
      | some t0 =>
        rw [hf] at h
        dsimp only at h
        split at h
        · simp at h
        rename_i hs1
        have hs1' : t0.state = 1 := by simpa using hs1
        obtain ⟨s, hs, _, _⟩ := hlies t0 (findLot_mem hf) hs1'
        rw [hs] at h
        dsimp only at h
        unfold rLiesP at h
        split at h
        · simp at h
        split at h
        · simp at h
        rename_i g2
        split at h
        · simp at h
        rename_i g3
        simp only [hk3, beq_self_eq_true, Bool.true_and, decide_eq_true_eq] at g2 g3
        simp only [Option.getD_some]
        intro _ t ht hs4 hs5 hs6
        refine g3 (busy_iff.2 ⟨t, ht, hs4, ?_, by omega, by omega⟩)
        rw [findSite_name hs]
        exact hs5
    · rw [if_neg (by simpa using hk3)]
      intro hst
      exfalso
      split at hst
      · simp at hst
      · simp at hst
end

/-- What holds of the lots behind accepted events. -/
structure One (es : List Event) (ls : List Lot) : Prop where
  apart : Apart ls
  len : ls.length ≤ es.length
  has : ∀ e ∈ es, (findLot e.remain ls).isSome = true
  of : ∀ nm, (findLot nm ls).isSome = true → ∃ e ∈ es, e.remain = nm
  fresh : es.Pairwise fun a b => b.kind = 0 → a.remain ≠ b.remain
theorem one0 : One [] [] := ⟨fun _ h => (by cases h), Nat.le_refl _, fun _ h => (by cases h), fun _ h => (by cases h), List.Pairwise.nil⟩
theorem one_add {c0 c1 c2 : Int} {ss : List Site} {rs : List Rest} {ls : List Lot} {es : List Event} {e : Event} (hO : One es ls) (ha : Asc ls)
    (hlies : ∀ t ∈ ls, t.state = 1 → ∃ s, findSite t.site ss = some s ∧ 0 ≤ t.level ∧ t.level < s.room) (h : rErrP c0 c1 c2 ss rs ls e = 0) : One (es ++ [e]) (rWithP (rLotP ss ls e) ls) where
  apart := apart_with hO.apart (lot_apart hlies h)
  len := by
    have h1 := len_with (rLotP ss ls e) ls
    have h2 := hO.len
    simp only [List.length_append, List.length_cons, List.length_nil]
    omega
  has := fun x hx => by
    rw [findLot_with ha, lotP_remain]
    split
    · rfl
    · rename_i hne
      rcases List.mem_append.1 hx with hx | hx
      · exact hO.has x hx
      · have : x = e := by simpa using hx
        subst this
        simp at hne
  of := fun nm hnm => by
    rw [findLot_with ha, lotP_remain] at hnm
    split at hnm
    · rename_i he
      exact ⟨e, by simp, bytes_ext (eq_of_beq he)⟩
    · obtain ⟨x, hx, h1⟩ := hO.of nm hnm
      exact ⟨x, by simp [hx], h1⟩
  fresh := List.pairwise_append.2 ⟨hO.fresh, List.pairwise_singleton _ _, fun a ha' b hb hk => by
    have : b = e := by simpa using hb
    subst this
    intro he
    have h1 := hO.has a ha'
    rw [he, (put_ok h (.inl hk)).2 hk] at h1
    cases h1⟩
theorem one_adds {ss : List Site} {rs : List Rest} (hroom : ∀ s ∈ ss, s.room ≤ 12) : ∀ (es es0 : List Event) (k : Bk) (ls : List Lot), Rel k ls ss → Inv k ss → One es0 ls → (addsP ss rs k es).2 = 0 → ∃ ls', Rel (addsP ss rs k es).1 ls' ss ∧ One (es0 ++ es) ls'
  | [], es0, k, ls, hR, _, hO, _ => ⟨ls, hR, by rw [List.append_nil]; exact hO⟩
  | e :: l, es0, k, ls, hR, hI, hO, h => by
    unfold addsP at h ⊢
    cases hq : ((errorP k ss rs e).2 != 0)
    · rw [hq, if_neg Bool.false_ne_true] at h
      rw [if_neg Bool.false_ne_true]
      have hq0 : (errorP k ss rs e).2 = 0 := by simpa using hq
      have g1 := (hR.error hroom rs e).1
      rw [hq0] at g1
      have h3 := (next_ok g1.symm).2.1
      obtain ⟨ls', r1, r2⟩ := one_adds hroom l (es0 ++ [e]) (addK k e (errorP k ss rs e).1) (rWithP (rLotP ss ls e) ls) (hR.add hI hroom hq0) (inv_add hI (Prod.ext rfl hq0)) (one_add hO hR.asc hR.lies h3) h
      exact ⟨ls', r1, by simpa using r2⟩
    · rw [hq, if_pos rfl] at h
      dsimp only at h
      simp [h] at hq
theorem upToE_sub {day : Int} : ∀ {es : List Event}, ∃ post, es = upToE day es ++ post
  | [] => ⟨[], rfl⟩
  | e :: l => by
    unfold upToE
    by_cases h : e.day ≤ day
    · obtain ⟨post, hp⟩ := upToE_sub (day := day) (es := l)
      refine ⟨post, ?_⟩
      rw [List.takeWhile_cons_of_pos (by simpa using h), List.cons_append]
      unfold upToE at hp
      rw [← hp]
    · rw [List.takeWhile_cons_of_neg (by simpa using h)]
      exact ⟨e :: l, rfl⟩
theorem one_place {ss : List Site} {rs : List Rest} {c0 c1 c2 : Int} {es : List Event} (A R : Option Addr) (n c rn rc : Nat) (h : rCheckP c0 c1 c2 ss rs es = 0) (day : Int) :
    ∃ ls, Rel (upToP ss rs day (bk0 A n c R rn rc c0 c1 c2) es) ls ss ∧ Apart ls ∧ ls.length ≤ es.length ∧
      ∀ e ∈ es, (e.day ≤ day → (findLot e.remain ls).isSome = true) ∧ (e.kind = 0 → day < e.day → findLot e.remain ls = none) := by
  obtain ⟨_, _, _, h4, h5, h6⟩ := (read_check ss rs A R n c rn rc c0 c1 c2 es).2 h
  have hroom := yard_rooms h5
  obtain ⟨g1, _, _, g4⟩ := upTo_check (A := A) (R := R) (n := n) (c := c) (rn := rn) (rc := rc) h day
  obtain ⟨ls, r1, r2⟩ := one_adds hroom (upToE day es) [] _ [] (rel0 A n c R rn rc c0 c1 c2 ss) (inv0 _ _ _ _ _ _ _ _ _ _) one0 g4
  obtain ⟨ls2, _, q2⟩ := one_adds hroom es [] _ [] (rel0 A n c R rn rc c0 c1 c2 ss) (inv0 _ _ _ _ _ _ _ _ _ _) one0 h4
  rw [List.nil_append] at r2 q2
  rw [← g1] at r1
  obtain ⟨post, p1, p2⟩ := drop_upToE (day := day) es _ h4
  refine ⟨ls, r1, r2.apart, ?_, fun e he => ⟨fun hd => ?_, fun hk hd => ?_⟩⟩
  · have := r2.len
    have h7 : es.length = (upToE day es).length + post.length := by
      conv => lhs; rw [p1]
      simp
    omega
  · rw [p1] at he
    rcases List.mem_append.1 he with he | he
    · exact r2.has e he
    · have := p2 e he
      omega
  · cases hf : findLot e.remain ls with
    | none => rfl
    | some t =>
      exfalso
      obtain ⟨x, hx, hxe⟩ := r2.of e.remain (by rw [hf]; rfl)
      have hf2 := q2.fresh
      rw [p1] at hf2 he
      rcases List.mem_append.1 he with he | he
      · have := mem_upToE e he
        omega
      · exact (List.pairwise_append.1 hf2).2.2 x hx e he hk hxe

/-- How many lots are of one remain. -/
theorem cnt_none {nm : ByteArray} : ∀ {ls : List Lot}, findLot nm ls = none → ls.countP (fun t => t.remain.toList == nm.toList) = 0
  | [], _ => rfl
  | x :: l, h => by
    unfold findLot at h
    split at h
    · cases h
    · rename_i hx
      rw [List.countP_cons_of_neg (p := fun t : Lot => t.remain.toList == nm.toList) hx]
      exact cnt_none h
theorem cnt_asc {nm : ByteArray} : ∀ {ls : List Lot}, Asc ls → (findLot nm ls).isSome = true → ls.countP (fun t => t.remain.toList == nm.toList) = 1
  | [], _, h => by cases h
  | x :: l, ha, h => by
    obtain ⟨h1, h2⟩ := List.pairwise_cons.1 ha
    unfold findLot at h
    split at h
    · rename_i hx
      rw [List.countP_cons_of_pos (p := fun t : Lot => t.remain.toList == nm.toList) hx]
      have e := bytes_ext (eq_of_beq hx)
      have h3 := findLot_less (nm := nm) fun t ht => by rw [← e]; exact h1 t ht
      rw [cnt_none h3]
    · rename_i hx
      rw [List.countP_cons_of_neg (p := fun t : Lot => t.remain.toList == nm.toList) hx]
      exact cnt_asc h2 h
end Go.Proofs.Ytmiobhlgpjjbgaa
namespace Go.Proofs.Ytmiobhlgpjjbgaa
open Go.RowKit

/-- What Add answers, by the reference's words. -/
def addW (c0 c1 c2 : Int) (ss : List Site) (rs : List Rest) (es : List Event) (ev : Event) : List Event × Int :=
  if rCheckP c0 c1 c2 ss rs es != 0 then ([], rCheckP c0 c1 c2 ss rs es) else rAddP c0 c1 c2 ss rs es ev
theorem addR_w (ss : List Site) (rs : List Rest) (A R : Option Addr) (n c rn rc : Nat) (c0 c1 c2 : Int) (es : List Event) (ev : Event) :
    addR ss rs (readP ss rs (bk0 A n c R rn rc c0 c1 c2) es) es ev = addW c0 c1 c2 ss rs es ev := by
  obtain ⟨h1, h2⟩ := read_check ss rs A R n c rn rc c0 c1 c2 es
  unfold addR addW
  rw [h1]
  cases hc : (rCheckP c0 c1 c2 ss rs es != 0)
  · rw [if_neg Bool.false_ne_true, if_neg Bool.false_ne_true]
    obtain ⟨hR, hI, h3, h4, h5, h6⟩ := h2 (by simpa using hc)
    unfold rAddP
    by_cases hbig : (300 : Int) ≤ es.length
    · rw [if_pos (by simpa using hbig)]
      have : rReplayP c0 c1 c2 ss rs (es ++ [ev]) = ([], 0, 8) := by
        unfold rReplayP
        rw [if_pos (by simp; omega)]
      rw [this]
      rfl
    · rw [if_neg (by simpa using hbig)]
      have h7 : (rReplayP c0 c1 c2 ss rs (es ++ [ev])).2.2 = (errorP (readP ss rs (bk0 A n c R rn rc c0 c1 c2) es).1 ss rs ev).2 := by
        have hpl := (play_same (rs := rs) (yard_rooms h5) (es ++ [ev]) (bk0 A n c R rn rc c0 c1 c2) [] 0 (rel0 _ _ _ _ _ _ _ _ _ _) (inv0 _ _ _ _ _ _ _ _ _ _) rfl rfl rfl).2.2.1
        have hap := adds_play ss rs (es ++ [ev]) (bk0 A n c R rn rc c0 c1 c2) 0
        have hrp : rReplayP c0 c1 c2 ss rs (es ++ [ev]) = rGoP c0 c1 c2 ss rs [] 0 0 (es ++ [ev]) := by
          unfold rReplayP
          rw [if_neg (by simp; omega)]
        have e1 : (rGoP c0 c1 c2 ss rs [] (bk0 A n c R rn rc c0 c1 c2).day 0 (es ++ [ev])).2.2 = (addsP ss rs (bk0 A n c R rn rc c0 c1 c2) (es ++ [ev])).2 := by
          have hpl' : (playP ss rs (bk0 A n c R rn rc c0 c1 c2) 0 (es ++ [ev])).2 = (rGoP c0 c1 c2 ss rs [] (bk0 A n c R rn rc c0 c1 c2).day 0 (es ++ [ev])).2 := hpl
          rw [← hpl', hap]
        rw [hrp]
        have e2 : (bk0 A n c R rn rc c0 c1 c2).day = 0 := rfl
        rw [e2] at e1
        rw [e1, adds_append _ _ _ h4, h3]
        generalize (addsP ss rs (bk0 A n c R rn rc c0 c1 c2) es).1 = k
        unfold addsP
        split
        · rfl
        · rename_i hx
          have : (errorP k ss rs ev).2 = 0 := by simpa using hx
          rw [this]
          rfl
      rw [h7]
  · rfl
theorem gAdd_w (ss : List Site) (rs : List Rest) (A R : Option Addr) (n c rn rc : Nat) (c0 c1 c2 : Int) (es : List Event) (L : Option Addr) (ln lc : Nat) (dy kd : Int) (si : ByteArray) (lv : Int) (rm : ByteArray) (co : Int) (od : Bool) (w : World) (hy : YardIn w ss rs A n c R rn rc) (hev : EventsIn w es L ln) (hs : si.size ≤ 100000) (hr : rm.size ≤ 100000) :
    Calls Try.prog 41 #[.agg #[.slice A n c, .slice R rn rc, .int .i64 c0, .int .i64 c1, .int .i64 c2], .slice L ln lc, .agg #[.int .i64 dy, .int .i64 kd, .string si, .int .i64 lv, .string rm, .int .i64 co, .bool od]] w (AddRPost w (addW c0 c1 c2 ss rs es ⟨dy, kd, si, lv, rm, co, od⟩)) := by
  rw [← addR_w ss rs A R n c rn rc c0 c1 c2 es]
  exact gAdd_any ss rs A R n c rn rc c0 c1 c2 es L ln lc dy kd si lv rm co od w hy hev hs hr
end Go.Proofs.Ytmiobhlgpjjbgaa
namespace Go.Proofs.Ytmiobhlgpjjbgaa
open Go.RowKit

theorem place_zero {c0 c1 c2 : Int} {ss : List Site} {ls : List Lot} {nm : ByteArray} {s : Site} {m co : Int} (hs : findSite nm ss = some s) (hm : m < s.room) :
    rPlaceP c0 c1 c2 ss ls nm m co = 0 ↔ takesP c0 c1 c2 s.kind s.depth s.step m co = true ∧ (¬ ∃ t ∈ ls, t.state = 1 ∧ t.site = nm ∧ t.level = m) ∧ ¬ (s.kind = 0 ∧ ∃ t ∈ ls, t.state = 1 ∧ t.site = nm ∧ m + 1 ≤ t.level ∧ t.level < s.room) := by
  have h1 := rPlace_free (c0 := c0) (c1 := c1) (c2 := c2) (ls := ls) (co := co) hs hm
  have hnm := findSite_name hs
  have h2 : rPlaceP c0 c1 c2 ss ls nm m co = 0 ↔ rFreeAt c0 c1 c2 ls s co m = true := by rw [h1]; simp
  rw [h2]
  unfold rFreeAt rCovP
  rw [covGo_busy, hnm]
  simp only [Bool.and_eq_true, Bool.not_eq_true', Bool.eq_false_iff, ne_eq, rOcc_iff, busy_iff, beq_iff_eq, and_assoc]
  constructor
  · rintro ⟨a, b, c⟩
    refine ⟨a, b, ?_⟩
    rintro ⟨hk, t, h3, h4, h5, h6, h7⟩
    exact c ⟨hk, t, h3, h4, h5, h6, by omega⟩
  · rintro ⟨a, b, c⟩
    refine ⟨a, b, ?_⟩
    rintro ⟨hk, t, h3, h4, h5, h6, h7⟩
    exact c ⟨hk, t, h3, h4, h5, h6, by omega⟩
theorem with_sub {l t : Lot} : ∀ {ls : List Lot}, findLot l.remain ls = none → t ∈ ls → t ∈ rWithP l ls
  | [], _, h => by cases h
  | x :: r, hn, h => by
    unfold findLot at hn
    split at hn
    · cases hn
    rename_i hx
    unfold rWithP
    split
    · rcases List.mem_cons.1 h with rfl | h
      · simp
      · exact List.mem_cons_of_mem _ (with_sub hn h)
    · first
      | exact List.mem_cons_of_mem _ h
      | (rw [if_neg hx]
         exact List.mem_cons_of_mem _ h)
theorem with_mem (l : Lot) : ∀ ls : List Lot, l ∈ rWithP l ls
  | [] => by simp [rWithP]
  | x :: r => by
    unfold rWithP
    split
    · exact List.mem_cons_of_mem _ (with_mem l r)
    split <;> simp

/-- The free levels of a site. -/
def freeN (c0 c1 c2 : Int) (ss : List Site) (ls : List Lot) (nm : ByteArray) (co : Int) (room : Int) : List Int := freeBy (fun l => rPlaceP c0 c1 c2 ss ls nm l co) room.toNat
theorem free_tail {f g : Int → Int} {n : Nat} {x : Int} {r : List Int} (h : freeBy f n = x :: r) (hg : ∀ m : Nat, m < n → (g (m : Int) = 0 ↔ f (m : Int) = 0 ∧ (m : Int) ≠ x)) : freeBy g n = r := by
  have e1 : freeBy g n = (freeBy f n).filter fun y => y != x := by
    unfold freeBy
    rw [List.filter_map, List.filter_filter]
    congr 1
    apply List.filter_congr
    intro m hm
    have := hg m (by simpa using hm)
    rw [Bool.eq_iff_iff]
    simp only [beq_iff_eq, Function.comp, Bool.and_eq_true, bne_iff_ne, ne_eq]
    rw [this]
    exact And.comm
  have hnd : (freeBy f n).Nodup := by
    unfold freeBy
    refine List.Pairwise.map _ (fun a b hab => ?_) (List.Pairwise.filter _ List.nodup_range)
    omega
  rw [h] at hnd e1
  obtain ⟨h1, h2⟩ := List.nodup_cons.1 hnd
  rw [e1, List.filter_cons, if_neg (by simp)]
  rw [List.filter_eq_self]
  intro y hy
  have : y ≠ x := fun e => h1 (by rw [← e]; exact hy)
  simpa using this
theorem free_head {f : Int → Int} {n : Nat} {x : Int} {r : List Int} (h : freeBy f n = x :: r) : f x = 0 ∧ 0 ≤ x ∧ x < n ∧ ∀ m : Nat, m < n → f (m : Int) = 0 → x ≤ (m : Int) := by
  have hx : x ∈ freeBy f n := by rw [h]; simp
  unfold freeBy at hx
  obtain ⟨k, hk, rfl⟩ := List.mem_map.1 hx
  obtain ⟨hk1, hk2⟩ := List.mem_filter.1 hk
  refine ⟨by simpa using hk2, by omega, by have : k < n := by simpa using hk1
                                           omega, fun m hm hf => ?_⟩
  have hp : (freeBy f n).Pairwise fun a b => a < b := by
    unfold freeBy
    refine List.Pairwise.map _ (fun a b hab => ?_) (List.Pairwise.filter _ List.pairwise_lt_range)
    omega
  have hmm : (m : Int) ∈ freeBy f n := by
    unfold freeBy
    exact List.mem_map.2 ⟨m, List.mem_filter.2 ⟨by simpa using hm, by simpa using hf⟩, rfl⟩
  rw [h] at hp hmm
  rcases List.mem_cons.1 hmm with e | hmm
  · omega
  · have := (List.pairwise_cons.1 hp).1 _ hmm
    omega

section
variable {c0 c1 c2 : Int} {ss : List Site} {rs : List Rest} {es : List Event} {nm : ByteArray} {s : Site} {co : Int}
theorem rel_unique {k : Bk} {l1 l2 : List Lot} (h1 : Rel k l1 ss) (h2 : Rel k l2 ss) : l1 = l2 := asc_mem h1.asc h2.asc fun x => h1.mem.symm.trans h2.mem
theorem left_free (hs : findSite nm ss = some s) (ls : List Lot) : rLeftP c0 c1 c2 ls s co = ((freeN c0 c1 c2 ss ls nm co s.room).length : Int) := by
  have := left_count (f := fun l => rPlaceP c0 c1 c2 ss ls nm l co) (g := rFreeAt c0 c1 c2 ls s co) (n := s.room.toNat) (fun m hm => rPlace_free hs (by omega)) c0 c1 c2 ls s co (fun _ => rfl) s.room.toNat 0 0 (by omega)
  unfold rLeftP freeN
  simp [freeBy] at this ⊢
  omega
theorem check_days (h : rCheckP c0 c1 c2 ss rs es = 0) : ∀ e ∈ es, e.day ≤ 200000 := by
  obtain ⟨_, _, _, h4, _, _⟩ := (read_check ss rs none none 0 0 0 0 c0 c1 c2 es).2 h
  have : ∀ (es : List Event) (k : Bk), (addsP ss rs k es).2 = 0 → ∀ e ∈ es, e.day ≤ 200000 := by
    intro es
    induction es with
    | nil => intro _ _ _ he; cases he
    | cons x l ih =>
      intro k hk e he
      unfold addsP at hk
      split at hk
      · rename_i hx
        dsimp only at hk
        rw [hk] at hx
        simp at hx
      rename_i hx
      have hx0 : (errorP k ss rs x).2 = 0 := by simpa using hx
      rcases List.mem_cons.1 he with rfl | he
      · have hc : checkEventP e = 0 := by
          unfold errorP at hx0
          split at hx0
          · exact hx0
          · rename_i hx; simpa using hx
        exact (checkEvent_ok hc).2.2.2.1
      · exact ih _ hk e he
  exact this es _ h4
theorem upToE_full {day : Int} : ∀ {es : List Event}, (∀ e ∈ es, e.day ≤ day) → upToE day es = es
  | [], _ => rfl
  | e :: l, h => by
    unfold upToE
    rw [List.takeWhile_cons_of_pos (by simpa using h e (by simp))]
    exact congrArg _ (upToE_full fun x hx => h x (by simp [hx]))
theorem first_head (h : rCheckP c0 c1 c2 ss rs es = 0) (hs : findSite nm ss = some s) (hc : inR co 0 2 = true) :
    firstW c0 c1 c2 ss rs es nm 0 co 200000 = match freeN c0 c1 c2 ss (rReplayP c0 c1 c2 ss rs es).1 nm co s.room with | [] => (0, 16) | x :: _ => (x, 0) := by
  obtain ⟨_, _, _, _, h5, _⟩ := (read_check ss rs none none 0 0 0 0 c0 c1 c2 es).2 h
  have hr := checkSite_room (yard_room h5 s (findSite_mem hs))
  unfold firstW
  rw [if_neg (by simp [h]), hs]
  dsimp only
  have e1 : inR 0 0 (s.room - 1) = true := by unfold inR; simp; omega
  have e2 : inR 200000 0 200000 = true := by decide
  rw [e1, hc, e2, if_neg (by simp), upToE_full (check_days h)]
  generalize (rReplayP c0 c1 c2 ss rs es).1 = ls
  have hff := flat_find (ss := ss) (f := fun s => freeBy (fun l => rPlaceP c0 c1 c2 ss ls s.name l co) s.room.toNat) (nm := nm) (lv := 0) (yard_uniq h5) (findSite_mem hs) (findSite_name hs)
  have e3 : rFreeP c0 c1 c2 ss ls co = ss.flatMap fun s => (freeBy (fun l => rPlaceP c0 c1 c2 ss ls s.name l co) s.room.toNat).map fun x => (⟨s.name, x⟩ : Berth) := rfl
  unfold rFirstP freeN
  rw [e3, hff, findSite_name hs]
  cases hq : freeBy (fun l => rPlaceP c0 c1 c2 ss ls nm l co) s.room.toNat with
  | nil => simp
  | cons x r =>
    obtain ⟨_, hx, _, _⟩ := free_head hq
    rw [List.find?_cons_of_pos (by simpa using hx)]
    simp only [Option.map_some]
    rw [if_neg (by omega)]
theorem left_step {x : Int} {r : List Int} {rm : ByteArray} (h : rCheckP c0 c1 c2 ss rs es = 0) (hs : findSite nm ss = some s) (hc : inR co 0 2 = true) (hk : s.kind ≠ 3) (hl : es.length < 300) (hrm : isNameP rm = true) (hnew : ∀ e ∈ es, e.remain ≠ rm)
    (hf : freeN c0 c1 c2 ss (rReplayP c0 c1 c2 ss rs es).1 nm co s.room = x :: r) :
    addW c0 c1 c2 ss rs es ⟨200000, 0, nm, x, rm, co, false⟩ = (es ++ [⟨200000, 0, nm, x, rm, co, false⟩], 0) ∧ rCheckP c0 c1 c2 ss rs (es ++ [⟨200000, 0, nm, x, rm, co, false⟩]) = 0 ∧
      freeN c0 c1 c2 ss (rReplayP c0 c1 c2 ss rs (es ++ [⟨200000, 0, nm, x, rm, co, false⟩])).1 nm co s.room = r := by
  obtain ⟨hR, hI, h3, h4, h5, h6⟩ := (read_check ss rs none none 0 0 0 0 c0 c1 c2 es).2 h
  have hroom := yard_rooms h5
  have hgood := yard_room h5 s (findSite_mem hs)
  have hr := checkSite_room hgood
  have hnm := findSite_name hs
  have hdays := check_days h
  obtain ⟨hx0, hx1, hx2, hx3⟩ := free_head hf
  obtain ⟨ls2, q1, q2⟩ := one_adds hroom es [] _ [] (rel0 none 0 0 none 0 0 c0 c1 c2 ss) (inv0 _ _ _ _ _ _ _ _ _ _) one0 h4
  rw [List.nil_append] at q2
  rw [h3] at hR hI
  have e0 := rel_unique hR q1
  rw [← e0] at q2
  clear e0 q1
  have hday : (addsP ss rs (bk0 none 0 0 none 0 0 c0 c1 c2) es).1.day ≤ 200000 := by
    have : ∀ (es : List Event) (k : Bk), k.day ≤ 200000 → (∀ e ∈ es, e.day ≤ 200000) → (addsP ss rs k es).1.day ≤ 200000 := by
      intro es
      induction es with
      | nil => intro k hk _; exact hk
      | cons y l ih =>
        intro k hk hd
        unfold addsP
        split
        · exact hk
        · exact ih _ (hd y (by simp)) fun e he => hd e (by simp [he])
    exact this es _ (show (0 : Int) ≤ 200000 by decide) hdays
  have hc0 := adds_covers (ss := ss) (rs := rs) es (bk0 none 0 0 none 0 0 c0 c1 c2)
  generalize hkk : (addsP ss rs (bk0 none 0 0 none 0 0 c0 c1 c2) es).1 = k at *
  generalize hll : (rReplayP c0 c1 c2 ss rs es).1 = ls at *
  have hrm0 : findLot rm ls = none := by
    cases hq : findLot rm ls with
    | none => rfl
    | some t =>
      obtain ⟨e, he, h7⟩ := q2.of rm (by rw [hq]; rfl)
      exact absurd h7 (hnew e he)
  have hcn : 0 ≤ co ∧ co ≤ 2 := by simpa [inR] using hc
  generalize hev : (⟨200000, 0, nm, x, rm, co, false⟩ : Event) = ev
  have hce : checkEventP ev = 0 := by
    rw [← hev]
    unfold checkEventP
    have hsn : isNameP nm = true := by
      unfold checkSiteP at hgood
      rw [hnm] at hgood
      cases hq : isNameP nm
      · rw [hq] at hgood; simp at hgood
      · rfl
    have e1 : inR x 0 11 = true := by unfold inR; simp; omega
    simp [hrm, hsn, e1, hc]
    simp [inR]
  have hlot : rLotP ss ls ev = ⟨rm, 1, nm, x, co, 200000⟩ := by
    rw [← hev]
    unfold rLotP siteKind'
    rw [hs]
    simp [hk]
  have hn : (rNextP k.c0 k.c1 k.c2 ss rs ls k.day ev).2 = 0 := by
    have he : rErrP k.c0 k.c1 k.c2 ss rs ls ev = 0 := by
      rw [hc0.1, hc0.2.1, hc0.2.2, ← hev]
      unfold rErrP rPutP
      simp only [hrm0]
      simpa [bk0] using hx0
    unfold rNextP
    rw [if_neg (by simp [hce]), if_neg (by rw [← hev]; simpa using hday), if_neg (by simp [he])]
  have herr : (errorP k ss rs ev).2 = 0 := by rw [(hR.error hroom rs ev).1]; exact hn
  have hadd := hR.add hI hroom herr
  have hadds : addsP ss rs (bk0 none 0 0 none 0 0 c0 c1 c2) (es ++ [ev]) = (addK k ev (errorP k ss rs ev).1, 0) := by
    rw [adds_append _ _ _ h4, hkk]
    unfold addsP
    rw [if_neg (by simp [herr])]
    rfl
  have hcheck : rCheckP c0 c1 c2 ss rs (es ++ [ev]) = 0 := by
    rw [← (read_check ss rs none none 0 0 0 0 c0 c1 c2 (es ++ [ev])).1]
    have hrd : readP ss rs (bk0 none 0 0 none 0 0 c0 c1 c2) (es ++ [ev]) = if checkYardP ss rs c0 c1 c2 != 0 then (bk0 none 0 0 none 0 0 c0 c1 c2, checkYardP ss rs c0 c1 c2) else if decide (300 < ((es ++ [ev]).length : Int)) then (bk0 none 0 0 none 0 0 c0 c1 c2, 8) else addsP ss rs (bk0 none 0 0 none 0 0 c0 c1 c2) (es ++ [ev]) := rfl
    rw [hrd, if_neg (by simp [h5]), if_neg (by simp; omega), hadds]
  have hR2 := ((read_check ss rs none none 0 0 0 0 c0 c1 c2 (es ++ [ev])).2 hcheck).1
  rw [((read_check ss rs none none 0 0 0 0 c0 c1 c2 (es ++ [ev])).2 hcheck).2.2.1, hadds] at hR2
  have hls2 := rel_unique hR2 hadd
  rw [hlot] at hls2
  refine ⟨?_, hcheck, ?_⟩
  · have h8 : (rReplayP c0 c1 c2 ss rs (es ++ [ev])).2.2 = 0 := by
      have := hcheck
      unfold rCheckP at this
      rw [h5, if_neg (by simp)] at this
      exact this
    unfold addW rAddP
    rw [if_neg (by simp [h]), h8, if_neg (by simp)]
  · rw [hls2]
    refine free_tail hf fun m hm => ?_
    have hmr : (m : Int) < s.room := by omega
    rw [place_zero hs hmr, place_zero hs hmr]
    constructor
    · rintro ⟨a, b, d⟩
      refine ⟨⟨a, ?_, ?_⟩, ?_⟩
      · rintro ⟨t, ht, h7⟩
        exact b ⟨t, with_sub hrm0 ht, h7⟩
      · rintro ⟨h8, t, ht, h7⟩
        exact d ⟨h8, t, with_sub hrm0 ht, h7⟩
      · rintro rfl
        exact b ⟨_, with_mem _ _, rfl, rfl, rfl⟩
    · rintro ⟨⟨a, b, d⟩, hne⟩
      have hlt : x < (m : Int) := by
        have := hx3 m hm ((place_zero hs hmr).2 ⟨a, b, d⟩)
        omega
      refine ⟨a, ?_, ?_⟩
      · rintro ⟨t, ht, h7, h8, h9⟩
        rcases mem_with ht with rfl | ht
        · dsimp only at h9; omega
        · exact b ⟨t, ht, h7, h8, h9⟩
      · rintro ⟨hk0, t, ht, h7, h8, h9, h10⟩
        rcases mem_with ht with rfl | ht
        · dsimp only at h9; omega
        · exact d ⟨hk0, t, ht, h7, h8, h9, h10⟩
end
end Go.Proofs.Ytmiobhlgpjjbgaa
