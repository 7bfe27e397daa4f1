/- Walk of the reference: one event more. -/
/- Plain law: a remain's stays follow each other without gaps; on a day the last one that has begun is its lot. -/
/- Plain law: one event more, by the reference's words. -/
import Derived.Test.YtmiobhlgpjjbgaaLC
import Derived.Test.YtmiobhlgpjjbgaaX3
import Derived.Test.YtmiobhlgpjjbgaaLD
import Derived.Test.YtmiobhlgpjjbgaaF4
namespace Go.Proofs.Ytmiobhlgpjjbgaa
open Go.RowKit
attribute [local go_sem] World.cell?_alloc_mark ext_size ext_cell ext_frozen lt_add_r lt_add_r2 lt_add_r3 lt_add_r4 lt_add_r5 lt_add_r6 lt_add_r7 lt_add_r8

attribute [local go_sem] drew_ext
theorem grown_blk {W w2 : World} {v : Value} {base size n b : Nat} {e t : TypeId} {xs : List Value} {cs : Array Value} {fr : Nat × Nat} (hg : W.grownBy w2 v.ownBlock) (ho : W.ownsRow base e size v n xs) (hb : W.heap[b]? = some (.cells cs t fr)) (hne : t ≠ e) : w2.heap[b]? = some (.cells cs t fr) :=
  (hg.block b (blk_lt hb) (own_ne ho hb hne)).trans hb
def rAddP (c0 c1 c2 : Int) (ss : List Site) (rs : List Rest) (es : List Event) (ev : Event) : List Event × Int :=
  if (rReplayP c0 c1 c2 ss rs (es ++ [ev])).2.2 != 0 then ([], (rReplayP c0 c1 c2 ss rs (es ++ [ev])).2.2) else (es ++ [ev], 0)
set_option maxRecDepth 100000 in
set_option maxHeartbeats 2000000 in
theorem rAdd_any (ss : List Site) (rs : List Rest) (A R : Option Addr) (n c rn rc : Nat) (c0 c1 c2 : Int) (es : List Event) (L : Option Addr) (ln lc : Nat) (dy kd : Int) (si : ByteArray) (lv : Int) (rm : ByteArray) (co : Int) (od : Bool) (w : World) (hy : YardIn w ss rs A n c R rn rc) (hev : EventsIn w es L ln) (hroom : ∀ s ∈ ss, s.room ≤ 12) (hl : es.length ≤ 1000) (hs : si.size ≤ 100000) (hr : rm.size ≤ 100000) :
    Calls Try.prog 49 #[.agg #[.slice A n c, .slice R rn rc, .int .i64 c0, .int .i64 c1, .int .i64 c2], .slice L ln lc, .agg #[.int .i64 dy, .int .i64 kd, .string si, .int .i64 lv, .string rm, .int .i64 co, .bool od]] w (AddRPost w (rAddP c0 c1 c2 ss rs es ⟨dy, kd, si, lv, rm, co, od⟩)) := by
  have hln := hev.hn
  subst hln
  have HSH := Lib.hid (show ∀ e ∈ es ++ [(⟨dy, kd, si, lv, rm, co, od⟩ : Event)], e.site.size ≤ 100000 ∧ e.remain.size ≤ 100000 from fun e he => by
    rcases List.mem_append.1 he with h | h
    · exact hev.sh e h
    · have : e = ⟨dy, kd, si, lv, rm, co, od⟩ := by simpa using h
      subst this
      exact ⟨hs, hr⟩)
  clear hs hr
  have HRP := fun E2 k2 W h1 h2 => rReplay_any ss rs A R n c rn rc c0 c1 c2 (es ++ [⟨dy, kd, si, lv, rm, co, od⟩]) E2 (es.length + 1) k2 W h1 h2 hroom
  unfold rAddP
  generalize hX : rReplayP c0 c1 c2 ss rs (es ++ [⟨dy, kd, si, lv, rm, co, od⟩]) = X at *
  clear hX
  obtain ⟨ls, cnt, er⟩ := X
  dsimp only
  obtain ⟨T, hT⟩ : ∃ T : List Event × Int, (if (er != 0) = true then ([], er) else (es ++ [⟨dy, kd, si, lv, rm, co, od⟩], 0)) = T := ⟨_, rfl⟩
  rw [hT]
  have HT := Lib.hid hT
  clear hT
  go_enter Try.func49, Try.ntmps49
  go_wp2_with fail
  generalize hW0 : (w.alloc (.cells #[.slice A n c, .slice R rn rc, .int .i64 c0, .int .i64 c1, .int .i64 c2] 26)).alloc (.cells #[.int .i64 dy, .int .i64 kd, .string si, .int .i64 lv, .string rm, .int .i64 co, .bool od] 80) = W0
  have hB : Below w.heap.size w W0 := by rw [← hW0]; repeat (first | exact B_refl | exact Below.refl _ _ | assumption | with_reducible refine B_alloc ?_ _ | with_reducible refine B_ext ?_ _ | with_reducible refine B_drew ?_ | with_reducible refine B_drewN ?_ _ | with_reducible refine B_set ?_ (by simp; omega) _)
  have hblk : W0.heap[w.heap.size]? = some (.cells #[.slice A n c, .slice R rn rc, .int .i64 c0, .int .i64 c1, .int .i64 c2] 26) := by rw [← hW0]; (repeat (first | with_reducible exact G_new _ _ _ (by simp) | with_reducible exact G_new _ _ _ (by simp [ext_size]) | with_reducible refine G_drew ?_ | with_reducible refine G_ext ?_ | with_reducible refine G_alloc ?_))
  have hE : W0.heap[w.heap.size + 1]? = some (.cells #[.int .i64 dy, .int .i64 kd, .string si, .int .i64 lv, .string rm, .int .i64 co, .bool od] 80) := by rw [← hW0]; (repeat (first | with_reducible exact G_new _ _ _ (by simp) | with_reducible exact G_new _ _ _ (by simp [ext_size]) | with_reducible refine G_drew ?_ | with_reducible refine G_ext ?_ | with_reducible refine G_alloc ?_))
  have hEl := blk_lt hE
  have hzl := blk_lt hblk
  have hz : w.heap.size ≤ W0.heap.size := hB.size
  have hl3 : es.length ≤ 100000 := hev.l1
  clear hW0
  have e0 : W0.cell? ⟨w.heap.size + 1, 0, none⟩ = some (.int .i64 dy) := by simp [World.cell?, hE]
  have e1 : W0.cell? ⟨w.heap.size + 1, 1, none⟩ = some (.int .i64 kd) := by simp [World.cell?, hE]
  have e2 : W0.cell? ⟨w.heap.size + 1, 2, none⟩ = some (.string si) := by simp [World.cell?, hE]
  have e3 : W0.cell? ⟨w.heap.size + 1, 3, none⟩ = some (.int .i64 lv) := by simp [World.cell?, hE]
  have e4 : W0.cell? ⟨w.heap.size + 1, 4, none⟩ = some (.string rm) := by simp [World.cell?, hE]
  have e5 : W0.cell? ⟨w.heap.size + 1, 5, none⟩ = some (.int .i64 co) := by simp [World.cell?, hE]
  have e6 : W0.cell? ⟨w.heap.size + 1, 6, none⟩ = some (.bool od) := by simp [World.cell?, hE]
  clear hE
  go_region_law (first
    | (refine step_append_fresh rfl _ _ rfl elEvent event_len event_one (by decide) (base := w.heap.size) rfl ?q1 ?q2 rfl rfl hl3 (hev.sl.keep (n := w.heap.size) ?q3) ?q4 ?_
       case q1 => (repeat (first | with_reducible exact G_new _ _ _ (by simp) | with_reducible exact G_new _ _ _ (by simp [ext_size]) | with_reducible refine G_drew ?_ | with_reducible refine G_ext ?_ | with_reducible refine G_alloc ?_))
       case q2 => (first | omega | (simp; done) | (simp; omega) | (simp [ext_size]; done) | (simp [ext_size]; omega))
       case q3 => (repeat (first | exact hB | with_reducible refine B_alloc ?_ _ (by (first | omega | (simp; done) | (simp; omega) | (simp [ext_size]; done) | (simp [ext_size]; omega))) | with_reducible refine B_drew ?_))
       case q4 => (first | omega | (simp; done) | (simp; omega) | (simp [ext_size]; done) | (simp [ext_size]; omega))
       intro v1 z1 h1; simp only [drew_ext] at h1; have o1 : ∀ g, v1.ownBlock = some g → w.heap.size ≤ g := fun g hg => (h1.lt g hg).1)
    | (refine step_append_sl rfl _ _ rfl elEvent event_len event_one rfl (base := w.heap.size) (n := es.length) (m := 1) (v := v1) (xs := es.flatMap Event.cells) ?q1 rfl (ys := [⟨dy, kd, si, lv, rm, co, od⟩]) rfl ?q2 ?q3 ?q4 ?q5 ?_
       case q1 => repeat (first | with_reducible exact h1 | with_reducible refine own_ext ?_ _ | with_reducible refine own_alloc ?_ _ | with_reducible refine own_drew ?_)
       case q2 => (refine sl_event (t := 80) (fr := (0, 0)) ?_; (repeat (first | with_reducible exact G_new _ _ _ (by simp) | with_reducible exact G_new _ _ _ (by simp [ext_size]) | with_reducible refine G_drew ?_ | with_reducible refine G_ext ?_ | with_reducible refine G_alloc ?_)))
       case q3 => simp [maxLen]; omega
       case q4 => omega
       case q5 => (first | omega | (simp; done) | (simp; omega) | (simp [ext_size]; done) | (simp [ext_size]; omega))
       intro v2 w2 h2 g2 o2))
  all_goals
    have hb2 := grown_blk (base := w.heap.size) (size := 7) (n := es.length) (e := 80) (xs := es.flatMap Event.cells) (b := w.heap.size) (cs := #[.slice A n c, .slice R rn rc, .int .i64 c0, .int .i64 c1, .int .i64 c2]) (t := 26) (fr := (0, 0)) g2 (by repeat (first | with_reducible exact h1 | with_reducible refine own_ext ?_ _ | with_reducible refine own_alloc ?_ _ | with_reducible refine own_drew ?_)) (by repeat (first | with_reducible exact hblk | with_reducible refine G_drew ?_ | with_reducible refine G_ext ?_ | with_reducible refine G_alloc ?_)) (by decide)
    have hB2 : Below w.heap.size w w2 := Below.grown (by repeat (first | exact B_refl | exact Below.refl _ _ | assumption | with_reducible refine B_alloc ?_ _ | with_reducible refine B_ext ?_ _ | with_reducible refine B_drew ?_ | with_reducible refine B_drewN ?_ _ | with_reducible refine B_set ?_ (by simp; omega) _)) g2 (by (first | omega | (simp; done) | (simp; omega) | (simp [ext_size]; done) | (simp [ext_size]; omega))) o1
    have h3 : w2.ownsRow w.heap.size 80 7 v2 (es ++ [(⟨dy, kd, si, lv, rm, co, od⟩ : Event)]).length ((es ++ [(⟨dy, kd, si, lv, rm, co, od⟩ : Event)]).flatMap Event.cells) := by simpa using h2
    obtain ⟨A2, k2, rfl, hS2, _⟩ := own_sl event_len h3
    have hE2 : EventsIn w2 (es ++ [⟨dy, kd, si, lv, rm, co, od⟩]) A2 (es.length + 1) := ⟨by simp, hS2, by simp; omega, HSH.out⟩
    have hlen : (es ++ [(⟨dy, kd, si, lv, rm, co, od⟩ : Event)]).length = es.length + 1 := by simp
    rw [hlen]
    clear g2 o2 h1 h2 hS2 o1 e0 e1 e2 e3 e4 e5 e6 hblk hlen
    have y0 : w2.cell? ⟨w.heap.size, 0, none⟩ = some (.slice A n c) := by simp [World.cell?, hb2]
    have y1 : w2.cell? ⟨w.heap.size, 1, none⟩ = some (.slice R rn rc) := by simp [World.cell?, hb2]
    have y2 : w2.cell? ⟨w.heap.size, 2, none⟩ = some (.int .i64 c0) := by simp [World.cell?, hb2]
    have y3 : w2.cell? ⟨w.heap.size, 3, none⟩ = some (.int .i64 c1) := by simp [World.cell?, hb2]
    have y4 : w2.cell? ⟨w.heap.size, 4, none⟩ = some (.int .i64 c2) := by simp [World.cell?, hb2]
    cases hq : (er != 0)
    · have her : er = 0 := by simpa using hq
      subst her
      go_wp2_with (go_at_call 47; refine (HRP A2 k2 _ (hy.keep (m := w.heap.size) hB2) hE2).mono ?_; rintro e wq ⟨v, rfl, _, z, rfl⟩)
      go_ret2
      exact ⟨.slice A2 (es.length + 1) k2, by rw [← HT.out]; rfl, by rw [← HT.out]; exact own_ext (by simpa using h3) _, ext_below (by repeat (first | exact B_refl | exact Below.refl _ _ | assumption | with_reducible refine B_alloc ?_ _ | with_reducible refine B_ext ?_ _ | with_reducible refine B_drew ?_ | with_reducible refine B_drewN ?_ _ | with_reducible refine B_set ?_ (by simp; omega) _))⟩
    · go_wp2_with (go_at_call 47; refine (HRP A2 k2 _ (hy.keep (m := w.heap.size) hB2) hE2).mono ?_; rintro e wq ⟨v, rfl, _, z, rfl⟩)
      go_ret2
      have hT2 : T = ([], er) := by rw [← HT.out, if_pos hq]
      rw [hT2]
      exact AddRPost.none (by repeat (first | exact B_refl | exact Below.refl _ _ | assumption | with_reducible refine B_alloc ?_ _ | with_reducible refine B_ext ?_ _ | with_reducible refine B_drew ?_ | with_reducible refine B_drewN ?_ _ | with_reducible refine B_set ?_ (by simp; omega) _))
end Go.Proofs.Ytmiobhlgpjjbgaa
namespace Go.Proofs.Ytmiobhlgpjjbgaa
open Go.RowKit

def closeS (nm : ByteArray) (d : Int) (s : Stay) : Stay := if s.lot.remain.toList == nm.toList && decide (s.till < 0) then { s with till := d } else s
theorem closeS_lot (nm : ByteArray) (d : Int) (s : Stay) : (closeS nm d s).lot = s.lot := by unfold closeS; split <;> rfl
theorem closeAt_map {k : Bk} {ls : List Lot} {ss : List Site} (h : Rel k ls ss) (nm : ByteArray) (d : Int) : closeAt (mget eqS nm k.m) d k.st = k.st.map (closeS nm d) := by
  apply List.ext_getElem?
  intro j
  rw [List.getElem?_map]
  cases hs : k.st[j]? with
  | none =>
    have : k.st.length ≤ j := List.getElem?_eq_none_iff.1 hs
    simp only [Option.map_none]
    exact List.getElem?_eq_none_iff.2 (by rw [closeAt_len]; exact this)
  | some s =>
    simp only [Option.map_some]
    cases hm : mget eqS nm k.m with
    | none =>
      simp only [closeAt, hs, Option.some.injEq]
      unfold closeS
      rw [if_neg]
      simp only [Bool.and_eq_true, decide_eq_true_eq, not_and]
      intro h1 h2
      have h3 := h.closed j s hs h2
      rw [bytes_ext (eq_of_beq h1)] at h3
      rw [h3] at hm
      cases hm
    | some i =>
      obtain ⟨n, s', rfl, h1, h2, h3⟩ := h.opened _ _ hm
      simp only [closeAt, List.getElem?_modify, hs, Option.map_eq_map, Option.map_some, Option.some.injEq, Int.toNat_natCast]
      unfold closeS
      by_cases hnj : n = j
      · subst hnj
        rw [hs] at h1
        cases h1
        rw [if_pos rfl, if_pos (by simp [h2, h3])]
      · rw [if_neg hnj, if_neg]
        simp only [Bool.and_eq_true, decide_eq_true_eq, not_and]
        intro g1 g2
        have g3 := h.closed j s hs g2
        rw [bytes_ext (eq_of_beq g1), hm] at g3
        simp at g3
        omega

/-- Stays that follow each other without gaps, the last one without an end. -/
def chainP : List Stay → Prop
  | [] => True
  | [a] => a.till = -1
  | a :: b :: r => a.till = b.lot.since ∧ chainP (b :: r)
theorem chain_add {nm : ByteArray} {d : Int} {x : Lot} (hx : x.since = d) : ∀ {l : List Stay}, chainP l → (∀ a ∈ l, 0 ≤ a.lot.since ∧ a.lot.remain = nm) → chainP (l.map (closeS nm d) ++ [⟨x, -1⟩])
  | [], _, _ => rfl
  | [a], h, hr => by
    have h1 : a.till = -1 := h
    have h2 := (hr a (by simp)).2
    have h3 : closeS nm d a = { a with till := d } := by unfold closeS; rw [if_pos (by simp [h1, h2])]
    simp only [List.map_cons, List.map_nil, List.cons_append, List.nil_append, h3]
    exact ⟨hx.symm, rfl⟩
  | a :: b :: r, h, hr => by
    obtain ⟨h1, h2⟩ := h
    have h3 := (hr b (by simp)).1
    have h4 : closeS nm d a = a := by unfold closeS; rw [if_neg (by simp; omega)]
    have ih := chain_add (nm := nm) hx h2 fun c hc => hr c (by simp [hc])
    simp only [List.map_cons, List.cons_append, h4] at ih ⊢
    exact ⟨by rw [closeS_lot]; exact h1, ih⟩
theorem errorP_head {k : Bk} {ss : List Site} {rs : List Rest} {e : Event} (h : (errorP k ss rs e).2 = 0) : (errorP k ss rs e).1.since = e.day ∧ (errorP k ss rs e).1.remain = e.remain ∧ 0 ≤ e.day := by
  have hd : 0 ≤ e.day := by
    have hc : checkEventP e = 0 := by
      unfold errorP at h
      split at h
      · exact h
      · rename_i hx; simpa using hx
    exact (checkEvent_ok hc).2.2.1
  unfold errorP at h ⊢
  split at h
  · rename_i hc
    dsimp only at h
    rw [h] at hc
    simp at hc
  rename_i g1
  rw [if_neg g1]
  split at h
  · simp at h
  rename_i g2
  rw [if_neg g2]
  unfold errorQ at h ⊢
  split at h
  · rename_i g3
    rw [if_pos g3]
    split at h
    · simp at h
    rename_i g4
    rw [if_neg g4]
    split at h
    · simp at h
    rename_i g5
    rw [if_neg g5]
    split at h
    · simp at h
    rename_i g6
    rw [if_neg g6]
    split at h
    · rename_i hc
      dsimp only at h
      rw [h] at hc
      simp at hc
    rename_i g7
    rw [if_neg g7]
    exact ⟨rfl, rfl, hd⟩
  · rename_i g3
    rw [if_neg g3]
    split at h
    · simp at h
    rename_i g4
    rw [if_neg g4]
    split at h
    · simp at h
    rename_i g5
    rw [if_neg g5]
    split
    · exact ⟨rfl, rfl, hd⟩
    rename_i g6
    rw [if_neg g6] at h
    split
    · exact ⟨rfl, rfl, hd⟩
    rename_i g7
    rw [if_neg g7] at h
    split at h
    · simp at h
    rename_i g8
    rw [if_neg g8]
    split at h
    · simp at h
    rename_i g9
    rw [if_neg g9]
    split at h
    · simp at h
    rename_i g10
    rw [if_neg g10]
    exact ⟨rfl, rfl, hd⟩

theorem staysP_map (nm nm' : ByteArray) (d : Int) (st : List Stay) : staysP nm (st.map (closeS nm' d)) = (staysP nm st).map (closeS nm' d) := by
  unfold staysP
  rw [List.filter_map]
  congr 1
  apply List.filter_congr
  intro s _
  simp only [Function.comp, closeS_lot]
theorem map_closeS_other {nm nm' : ByteArray} {d : Int} (hne : (nm.toList == nm'.toList) = false) (st : List Stay) : (staysP nm st).map (closeS nm' d) = staysP nm st := by
  rw [List.map_congr_left (g := id), List.map_id]
  intro s hs
  unfold staysP at hs
  have h1 := (List.mem_filter.1 hs).2
  unfold closeS
  rw [eq_of_beq h1, hne]
  simp
/-- What holds of the stays of a book behind accepted events. -/
structure Chn (k : Bk) : Prop where
  chain : ∀ nm, chainP (staysP nm k.st)
  since : ∀ s ∈ k.st, 0 ≤ s.lot.since
  lot : ∀ nm, lotK k nm = ((staysP nm k.st).map (·.lot)).getLast?
theorem chn0 (A : Option Addr) (n c : Nat) (R : Option Addr) (rn rc : Nat) (c0 c1 c2 : Int) : Chn (bk0 A n c R rn rc c0 c1 c2) := ⟨fun _ => trivial, fun _ h => (by cases h), fun _ => rfl⟩
theorem chn_add {k : Bk} {ls : List Lot} {ss : List Site} {rs : List Rest} {e : Event} (hC : Chn k) (hR : Rel k ls ss) (hI : Inv k ss) (h0 : (errorP k ss rs e).2 = 0) : Chn (addK k e (errorP k ss rs e).1) := by
  obtain ⟨h1, h2, h3⟩ := errorP_head h0
  generalize (errorP k ss rs e).1 = l at *
  have hst : (addK k e l).st = k.st.map (closeS e.remain e.day) ++ [⟨l, -1⟩] := by
    show closeAt (mget eqS e.remain k.m) e.day k.st ++ [⟨l, -1⟩] = _
    rw [closeAt_map hR]
  have hsp : ∀ nm, staysP nm (addK k e l).st = (staysP nm k.st).map (closeS e.remain e.day) ++ (if l.remain.toList == nm.toList then [⟨l, -1⟩] else []) := fun nm => by
    rw [hst, staysP, List.filter_append]
    have := staysP_map nm e.remain e.day k.st
    rw [staysP] at this
    rw [this]
    congr 1
    cases hq : (l.remain.toList == nm.toList) <;> simp [hq]
  refine ⟨fun nm => ?_, fun s hs => ?_, fun nm => ?_⟩
  · rw [hsp]
    cases hq : (l.remain.toList == nm.toList)
    · rw [map_closeS_other (by rw [← h2]; rw [beq_eq_false_iff_ne] at hq ⊢; exact fun e => hq e.symm), if_neg Bool.false_ne_true, List.append_nil]
      exact hC.chain nm
    · have hnm : e.remain = nm := by rw [← h2]; exact bytes_ext (eq_of_beq hq)
      subst hnm
      rw [if_pos rfl]
      refine chain_add h1 (hC.chain _) fun a ha => ?_
      unfold staysP at ha
      obtain ⟨ha1, ha2⟩ := List.mem_filter.1 ha
      exact ⟨hC.since a ha1, bytes_ext (eq_of_beq ha2)⟩
  · rw [hst] at hs
    rcases List.mem_append.1 hs with hs | hs
    · obtain ⟨s', hs', rfl⟩ := List.mem_map.1 hs
      rw [closeS_lot]
      exact hC.since s' hs'
    · have : s = ⟨l, -1⟩ := by simpa using hs
      subst this
      dsimp only
      omega
  · rw [lotK_add hI, hsp, hC.lot nm]
    have hm : ((staysP nm k.st).map (closeS e.remain e.day)).map (·.lot) = (staysP nm k.st).map (·.lot) := by
      rw [List.map_map]
      apply List.map_congr_left
      intro s _
      exact closeS_lot _ _ _
    rw [List.map_append, hm]
    unfold eqS
    rw [← h2]
    by_cases hq : nm.toList = l.remain.toList
    · simp [hq]
    · have hq' : ¬ l.remain.toList = nm.toList := fun e => hq e.symm
      simp [hq, hq']
/-- The lots that a remain had, up to a day. -/
def lotsOn (nm : ByteArray) (day : Int) (st : List Stay) : List Lot := ((staysP nm st).map (·.lot)).filter fun l => decide (l.since ≤ day)
theorem staysP_lots {nm : ByteArray} : ∀ {st st' : List Stay}, st.map (·.lot) = st'.map (·.lot) → (staysP nm st).map (·.lot) = (staysP nm st').map (·.lot)
  | [], [], _ => rfl
  | [], _ :: _, h => by simp at h
  | _ :: _, [], h => by simp at h
  | a :: l, b :: l', h => by
    simp only [List.map_cons, List.cons.injEq] at h
    have ih := staysP_lots (nm := nm) h.2
    unfold staysP at ih ⊢
    rw [List.filter_cons, List.filter_cons, h.1]
    split
    · simp only [List.map_cons, h.1, ih]
    · exact ih
theorem closeAt_lots (i : Option Int) (d : Int) (st : List Stay) : (closeAt i d st).map (·.lot) = st.map (·.lot) := by
  apply List.ext_getElem?
  intro j
  rw [List.getElem?_map, List.getElem?_map, closeAt_lot]
theorem lots_addK (nm : ByteArray) (k : Bk) (e : Event) (l : Lot) : (staysP nm (addK k e l).st).map (·.lot) = (staysP nm k.st).map (·.lot) ++ (if l.remain.toList == nm.toList then [l] else []) := by
  show (staysP nm (closeAt (mget eqS e.remain k.m) e.day k.st ++ [⟨l, -1⟩])).map (·.lot) = _
  have h1 : staysP nm (closeAt (mget eqS e.remain k.m) e.day k.st ++ [⟨l, -1⟩]) = staysP nm (closeAt (mget eqS e.remain k.m) e.day k.st) ++ (if l.remain.toList == nm.toList then [⟨l, -1⟩] else []) := by
    unfold staysP
    rw [List.filter_append]
    congr 1
    cases hq : (l.remain.toList == nm.toList) <;> simp [hq]
  rw [h1, List.map_append, staysP_lots (closeAt_lots _ _ _)]
  congr 1
  split <;> rfl
theorem adds_chn {ss : List Site} {rs : List Rest} (hroom : ∀ s ∈ ss, s.room ≤ 12) : ∀ (es : List Event) (k : Bk) (ls : List Lot), Rel k ls ss → Inv k ss → Chn k → (addsP ss rs k es).2 = 0 → Chn (addsP ss rs k es).1
  | [], _, _, _, _, hC, _ => hC
  | e :: l, k, ls, hR, hI, hC, h => by
    unfold addsP at h ⊢
    split at h
    · rename_i hx
      dsimp only at h
      rw [h] at hx
      simp at hx
    rename_i hx
    rw [if_neg hx]
    have hx0 : (errorP k ss rs e).2 = 0 := by simpa using hx
    exact adds_chn hroom l _ _ (hR.add hI hroom hx0) (inv_add hI (Prod.ext rfl hx0)) (chn_add hC hR hI hx0) h
theorem adds_lotsOn {ss : List Site} {rs : List Rest} {nm : ByteArray} {day : Int} : ∀ (es : List Event) (k : Bk), (addsP ss rs k es).2 = 0 → (∀ x ∈ es, day < x.day) → lotsOn nm day (addsP ss rs k es).1.st = lotsOn nm day k.st
  | [], _, _, _ => rfl
  | e :: l, k, h, hd => by
    unfold addsP at h ⊢
    split at h
    · rename_i hx
      dsimp only at h
      rw [h] at hx
      simp at hx
    rename_i hx
    rw [if_neg hx]
    have hx0 : (errorP k ss rs e).2 = 0 := by simpa using hx
    rw [adds_lotsOn l _ h fun x hx => hd x (by simp [hx])]
    obtain ⟨h1, h2, h3⟩ := errorP_head hx0
    have h4 := hd e (by simp)
    unfold lotsOn
    rw [lots_addK, List.filter_append]
    split
    · rw [List.filter_cons_of_neg (by simp; omega)]
      simp
    · simp
theorem adds_since {ss : List Site} {rs : List Rest} {day : Int} : ∀ (es : List Event) (k : Bk), (addsP ss rs k es).2 = 0 → (∀ x ∈ es, x.day ≤ day) → (∀ l ∈ k.st.map (·.lot), l.since ≤ day) → ∀ l ∈ (addsP ss rs k es).1.st.map (·.lot), l.since ≤ day
  | [], _, _, _, hk => hk
  | e :: l, k, h, hd, hk => by
    unfold addsP at h ⊢
    split at h
    · rename_i hx
      dsimp only at h
      rw [h] at hx
      simp at hx
    rename_i hx
    rw [if_neg hx]
    have hx0 : (errorP k ss rs e).2 = 0 := by simpa using hx
    refine adds_since l _ h (fun x hx => hd x (by simp [hx])) ?_
    obtain ⟨h1, h2, h3⟩ := errorP_head hx0
    intro t ht
    have ht' : t ∈ (closeAt (mget eqS e.remain k.m) e.day k.st ++ [(⟨(errorP k ss rs e).1, -1⟩ : Stay)]).map (fun s : Stay => s.lot) := ht
    rw [List.map_append, closeAt_lots] at ht'
    rcases List.mem_append.1 ht' with ht' | ht'
    · exact hk t ht'
    · have : t = (errorP k ss rs e).1 := by simpa using ht'
      rw [this, h1]
      exact hd e (by simp)
theorem adds_append {ss : List Site} {rs : List Rest} : ∀ (es es' : List Event) (k : Bk), (addsP ss rs k es).2 = 0 → addsP ss rs k (es ++ es') = addsP ss rs (addsP ss rs k es).1 es'
  | [], _, _, _ => rfl
  | e :: l, es', k, h => by
    unfold addsP at h
    split at h
    · rename_i hx
      dsimp only at h
      rw [h] at hx
      simp at hx
    rename_i hx
    rw [List.cons_append]
    have h1 : addsP ss rs k (e :: (l ++ es')) = addsP ss rs (addK k e (errorP k ss rs e).1) (l ++ es') := by
      conv => lhs; unfold addsP
      rw [if_neg hx]
    have h2 : addsP ss rs k (e :: l) = addsP ss rs (addK k e (errorP k ss rs e).1) l := by
      conv => lhs; unfold addsP
      rw [if_neg hx]
    rw [h1, h2]
    exact adds_append l es' _ h
theorem mem_upToE {day : Int} : ∀ {es : List Event}, ∀ e ∈ upToE day es, e.day ≤ day
  | [], _, h => by cases h
  | x :: l, e, h => by
    unfold upToE at h
    by_cases hd : x.day ≤ day
    · rw [List.takeWhile_cons_of_pos (by simpa using hd)] at h
      rcases List.mem_cons.1 h with rfl | h
      · exact hd
      · exact mem_upToE e h
    · rw [List.takeWhile_cons_of_neg (by simpa using hd)] at h
      cases h
theorem drop_upToE {ss : List Site} {rs : List Rest} {day : Int} : ∀ (es : List Event) (k : Bk), (addsP ss rs k es).2 = 0 → ∃ post, es = upToE day es ++ post ∧ ∀ e ∈ post, day < e.day
  | [], _, _ => ⟨[], rfl, fun _ h => by cases h⟩
  | e :: l, k, h => by
    have hd := adds_day (e :: l) k h
    have h' := h
    unfold addsP at h'
    split at h'
    · rename_i hx
      dsimp only at h'
      rw [h'] at hx
      simp at hx
    by_cases hday : e.day ≤ day
    · obtain ⟨post, h1, h2⟩ := drop_upToE (day := day) l _ h'
      refine ⟨post, ?_, h2⟩
      unfold upToE at h1 ⊢
      rw [List.takeWhile_cons_of_pos (by simpa using hday), List.cons_append, ← h1]
    · refine ⟨e :: l, ?_, fun x hx => ?_⟩
      · unfold upToE
        rw [List.takeWhile_cons_of_neg (by simpa using hday)]
        rfl
      · rcases List.mem_cons.1 hx with rfl | hx
        · omega
        · have h2 := adds_day l _ h' x hx
          have e2 : (addK k e (errorP k ss rs e).1).day = e.day := rfl
          omega

/-- What the law GraveStaysOn asks. -/
theorem stays_on {ss : List Site} {rs : List Rest} {A R : Option Addr} {n c rn rc : Nat} {c0 c1 c2 : Int} {es : List Event} (h : rCheckP c0 c1 c2 ss rs es = 0) (nm : ByteArray) (day : Int) :
    chainP (staysP nm (readP ss rs (bk0 A n c R rn rc c0 c1 c2) es).1.st) ∧ lotK (upToP ss rs day (bk0 A n c R rn rc c0 c1 c2) es) nm = (lotsOn nm day (readP ss rs (bk0 A n c R rn rc c0 c1 c2) es).1.st).getLast? := by
  obtain ⟨_, _, h3, h4, h5, h6⟩ := (read_check ss rs A R n c rn rc c0 c1 c2 es).2 h
  obtain ⟨g1, g2, g3, g4⟩ := upTo_check (A := A) (R := R) (n := n) (c := c) (rn := rn) (rc := rc) h day
  have hroom := yard_rooms h5
  rw [h3, g1]
  have c1' := adds_chn (rs := rs) hroom es _ _ (rel0 A n c R rn rc c0 c1 c2 ss) (inv0 _ _ _ _ _ _ _ _ _ _) (chn0 _ _ _ _ _ _ _ _ _) h4
  have c2' := adds_chn (rs := rs) hroom (upToE day es) _ _ (rel0 A n c R rn rc c0 c1 c2 ss) (inv0 _ _ _ _ _ _ _ _ _ _) (chn0 _ _ _ _ _ _ _ _ _) g4
  refine ⟨c1'.chain nm, ?_⟩
  obtain ⟨post, p1, p2⟩ := drop_upToE (day := day) es _ h4
  have e1 : addsP ss rs (bk0 A n c R rn rc c0 c1 c2) es = addsP ss rs (addsP ss rs (bk0 A n c R rn rc c0 c1 c2) (upToE day es)).1 post := by
    conv => lhs; rw [p1]
    exact adds_append _ _ _ g4
  have e2 : (addsP ss rs (addsP ss rs (bk0 A n c R rn rc c0 c1 c2) (upToE day es)).1 post).2 = 0 := by rw [← e1]; exact h4
  rw [e1, adds_lotsOn post _ e2 p2, c2'.lot nm]
  congr 1
  unfold lotsOn
  rw [List.filter_eq_self.2]
  intro l hl
  have := adds_since (day := day) (upToE day es) _ g4 mem_upToE (fun l h => by cases h) l (by
    obtain ⟨s, hs, rfl⟩ := List.mem_map.1 hl
    unfold staysP at hs
    exact List.mem_map.2 ⟨s, (List.mem_filter.1 hs).1, rfl⟩)
  simpa using this

/-- The number of the last stay that has begun by a day. -/
def lastGo (day : Int) : Nat → Int → List Stay → Int
  | _, la, [] => la
  | i, la, s :: r => lastGo day (i + 1) (if decide (s.lot.since ≤ day) then (i : Int) else la) r
def LastOk (l : List Stay) (day : Int) (i : Nat) (la : Int) : Prop :=
  (la = -1 ∧ ((l.take i).map (·.lot)).filter (fun x => decide (x.since ≤ day)) = []) ∨
  (∃ (n : Nat) (s : Stay), la = (n : Int) ∧ n < i ∧ l[n]? = some s ∧ (((l.take i).map (·.lot)).filter fun x => decide (x.since ≤ day)).getLast? = some s.lot)
theorem lastOk_step {l : List Stay} {day : Int} {i : Nat} {la : Int} {s : Stay} (hi : l[i]? = some s) (h : LastOk l day i la) : LastOk l day (i + 1) (if decide (s.lot.since ≤ day) then (i : Int) else la) := by
  have ht : l.take (i + 1) = l.take i ++ [s] := by
    have hlt := (List.getElem?_eq_some_iff.1 hi).1
    rw [List.take_succ_eq_append_getElem hlt, (List.getElem?_eq_some_iff.1 hi).2]
  unfold LastOk
  rw [ht, List.map_append, List.filter_append]
  by_cases hd : s.lot.since ≤ day
  · rw [if_pos (by simpa using hd)]
    refine .inr ⟨i, s, rfl, by omega, hi, ?_⟩
    simp [hd]
  · rw [if_neg (by simpa using hd)]
    have h0 : ([s].map (·.lot)).filter (fun x => decide (x.since ≤ day)) = [] := by simp; omega
    rw [h0, List.append_nil]
    rcases h with h | ⟨n, s', h1, h2, h3, h4⟩
    · exact .inl h
    · exact .inr ⟨n, s', h1, by omega, h3, h4⟩
end Go.Proofs.Ytmiobhlgpjjbgaa
namespace Go.Proofs.Ytmiobhlgpjjbgaa
open Go.RowKit

/-- What Add answers, by the reference's words. -/
def addW (c0 c1 c2 : Int) (ss : List Site) (rs : List Rest) (es : List Event) (ev : Event) : List Event × Int :=
  if rCheckP c0 c1 c2 ss rs es != 0 then ([], rCheckP c0 c1 c2 ss rs es) else rAddP c0 c1 c2 ss rs es ev
theorem addR_w (ss : List Site) (rs : List Rest) (A R : Option Addr) (n c rn rc : Nat) (c0 c1 c2 : Int) (es : List Event) (ev : Event) :
    addR ss rs (readP ss rs (bk0 A n c R rn rc c0 c1 c2) es) es ev = addW c0 c1 c2 ss rs es ev := by
  obtain ⟨h1, h2⟩ := read_check ss rs A R n c rn rc c0 c1 c2 es
  unfold addR addW
  rw [h1]
  cases hc : (rCheckP c0 c1 c2 ss rs es != 0)
  · rw [if_neg Bool.false_ne_true, if_neg Bool.false_ne_true]
    obtain ⟨hR, hI, h3, h4, h5, h6⟩ := h2 (by simpa using hc)
    unfold rAddP
    by_cases hbig : (300 : Int) ≤ es.length
    · rw [if_pos (by simpa using hbig)]
      have : rReplayP c0 c1 c2 ss rs (es ++ [ev]) = ([], 0, 8) := by
        unfold rReplayP
        rw [if_pos (by simp; omega)]
      rw [this]
      rfl
    · rw [if_neg (by simpa using hbig)]
      have h7 : (rReplayP c0 c1 c2 ss rs (es ++ [ev])).2.2 = (errorP (readP ss rs (bk0 A n c R rn rc c0 c1 c2) es).1 ss rs ev).2 := by
        have hpl := (play_same (rs := rs) (yard_rooms h5) (es ++ [ev]) (bk0 A n c R rn rc c0 c1 c2) [] 0 (rel0 _ _ _ _ _ _ _ _ _ _) (inv0 _ _ _ _ _ _ _ _ _ _) rfl rfl rfl).2.2.1
        have hap := adds_play ss rs (es ++ [ev]) (bk0 A n c R rn rc c0 c1 c2) 0
        have hrp : rReplayP c0 c1 c2 ss rs (es ++ [ev]) = rGoP c0 c1 c2 ss rs [] 0 0 (es ++ [ev]) := by
          unfold rReplayP
          rw [if_neg (by simp; omega)]
        have e1 : (rGoP c0 c1 c2 ss rs [] (bk0 A n c R rn rc c0 c1 c2).day 0 (es ++ [ev])).2.2 = (addsP ss rs (bk0 A n c R rn rc c0 c1 c2) (es ++ [ev])).2 := by
          have hpl' : (playP ss rs (bk0 A n c R rn rc c0 c1 c2) 0 (es ++ [ev])).2 = (rGoP c0 c1 c2 ss rs [] (bk0 A n c R rn rc c0 c1 c2).day 0 (es ++ [ev])).2 := hpl
          rw [← hpl', hap]
        rw [hrp]
        have e2 : (bk0 A n c R rn rc c0 c1 c2).day = 0 := rfl
        rw [e2] at e1
        rw [e1, adds_append _ _ _ h4, h3]
        generalize (addsP ss rs (bk0 A n c R rn rc c0 c1 c2) es).1 = k
        unfold addsP
        split
        · rfl
        · rename_i hx
          have : (errorP k ss rs ev).2 = 0 := by simpa using hx
          rw [this]
          rfl
      rw [h7]
  · rfl
theorem gAdd_w (ss : List Site) (rs : List Rest) (A R : Option Addr) (n c rn rc : Nat) (c0 c1 c2 : Int) (es : List Event) (L : Option Addr) (ln lc : Nat) (dy kd : Int) (si : ByteArray) (lv : Int) (rm : ByteArray) (co : Int) (od : Bool) (w : World) (hy : YardIn w ss rs A n c R rn rc) (hev : EventsIn w es L ln) (hs : si.size ≤ 100000) (hr : rm.size ≤ 100000) :
    Calls Try.prog 41 #[.agg #[.slice A n c, .slice R rn rc, .int .i64 c0, .int .i64 c1, .int .i64 c2], .slice L ln lc, .agg #[.int .i64 dy, .int .i64 kd, .string si, .int .i64 lv, .string rm, .int .i64 co, .bool od]] w (AddRPost w (addW c0 c1 c2 ss rs es ⟨dy, kd, si, lv, rm, co, od⟩)) := by
  rw [← addR_w ss rs A R n c rn rc c0 c1 c2 es]
  exact gAdd_any ss rs A R n c rn rc c0 c1 c2 es L ln lc dy kd si lv rm co od w hy hev hs hr
end Go.Proofs.Ytmiobhlgpjjbgaa
