/- Plain law: a remain's stays follow each other without gaps; on a day the last one that has begun is its lot. -/
/- Plain law of GraveOnePlace: each remain that was buried by a day has one lot, and no two lie at one level. -/
/- Plain law of GraveStays: the reference's stays are those of the book; the stays at each level are alike. -/
import Derived.Test.YtpohkolapgofdaaGreatLD
import Derived.Test.YtpohkolapgofdaaGreatF4
import Derived.Test.YtpohkolapgofdaaGreatH4
namespace Go.Proofs.YtpohkolapgofdaaGreat
open Go.RowKit

def closeS (nm : ByteArray) (d : Int) (s : Stay) : Stay := if s.lot.remain.toList == nm.toList && decide (s.till < 0) then { s with till := d } else s
theorem closeS_lot (nm : ByteArray) (d : Int) (s : Stay) : (closeS nm d s).lot = s.lot := by unfold closeS; split <;> rfl
theorem closeAt_map {k : Bk} {ls : List Lot} {ss : List Site} (h : Rel k ls ss) (nm : ByteArray) (d : Int) : closeAt (mget eqS nm k.m) d k.st = k.st.map (closeS nm d) := by
  apply List.ext_getElem?
  intro j
  rw [List.getElem?_map]
  cases hs : k.st[j]? with
  | none =>
    have : k.st.length ≤ j := List.getElem?_eq_none_iff.1 hs
    simp only [Option.map_none]
    exact List.getElem?_eq_none_iff.2 (by rw [closeAt_len]; exact this)
  | some s =>
    simp only [Option.map_some]
    cases hm : mget eqS nm k.m with
    | none =>
      simp only [closeAt, hs, Option.some.injEq]
      unfold closeS
      rw [if_neg]
      simp only [Bool.and_eq_true, decide_eq_true_eq, not_and]
      intro h1 h2
      have h3 := h.closed j s hs h2
      rw [bytes_ext (eq_of_beq h1)] at h3
      rw [h3] at hm
      cases hm
    | some i =>
      obtain ⟨n, s', rfl, h1, h2, h3⟩ := h.opened _ _ hm
      simp only [closeAt, List.getElem?_modify, hs, Option.map_eq_map, Option.map_some, Option.some.injEq, Int.toNat_natCast]
      unfold closeS
      by_cases hnj : n = j
      · subst hnj
        rw [hs] at h1
        cases h1
        rw [if_pos rfl, if_pos (by simp [h2, h3])]
      · rw [if_neg hnj, if_neg]
        simp only [Bool.and_eq_true, decide_eq_true_eq, not_and]
        intro g1 g2
        have g3 := h.closed j s hs g2
        rw [bytes_ext (eq_of_beq g1), hm] at g3
        simp at g3
        omega

/-- Stays that follow each other without gaps, the last one without an end. -/
def chainP : List Stay → Prop
  | [] => True
  | [a] => a.till = -1
  | a :: b :: r => a.till = b.lot.since ∧ chainP (b :: r)
theorem chain_add {nm : ByteArray} {d : Int} {x : Lot} (hx : x.since = d) : ∀ {l : List Stay}, chainP l → (∀ a ∈ l, 0 ≤ a.lot.since ∧ a.lot.remain = nm) → chainP (l.map (closeS nm d) ++ [⟨x, -1⟩])
  | [], _, _ => rfl
  | [a], h, hr => by
    have h1 : a.till = -1 := h
    have h2 := (hr a (by simp)).2
    have h3 : closeS nm d a = { a with till := d } := by unfold closeS; rw [if_pos (by simp [h1, h2])]
    simp only [List.map_cons, List.map_nil, List.cons_append, List.nil_append, h3]
    exact ⟨hx.symm, rfl⟩
  | a :: b :: r, h, hr => by
    obtain ⟨h1, h2⟩ := h
    have h3 := (hr b (by simp)).1
    have h4 : closeS nm d a = a := by unfold closeS; rw [if_neg (by simp; omega)]
    have ih := chain_add (nm := nm) hx h2 fun c hc => hr c (by simp [hc])
    simp only [List.map_cons, List.cons_append, h4] at ih ⊢
    exact ⟨by rw [closeS_lot]; exact h1, ih⟩
theorem errorP_head {k : Bk} {ss : List Site} {rs : List Rest} {e : Event} (h : (errorP k ss rs e).2 = 0) : (errorP k ss rs e).1.since = e.day ∧ (errorP k ss rs e).1.remain = e.remain ∧ 0 ≤ e.day := by
  have hd : 0 ≤ e.day := by
    have hc : checkEventP e = 0 := by
      unfold errorP at h
      split at h
      · exact h
      · rename_i hx; simpa using hx
    exact (checkEvent_ok hc).2.2.1
  unfold errorP at h ⊢
  split at h
  · rename_i hc
    dsimp only at h
    rw [h] at hc
    simp at hc
  rename_i g1
  rw [if_neg g1]
  split at h
  · simp at h
  rename_i g2
  rw [if_neg g2]
  unfold errorQ at h ⊢
  split at h
  · rename_i g3
    rw [if_pos g3]
    split at h
    · simp at h
    rename_i g4
    rw [if_neg g4]
    split at h
    · simp at h
    rename_i g5
    rw [if_neg g5]
    split at h
    · simp at h
    rename_i g6
    rw [if_neg g6]
    split at h
    · rename_i hc
      dsimp only at h
      rw [h] at hc
      simp at hc
    rename_i g7
    rw [if_neg g7]
    exact ⟨rfl, rfl, hd⟩
  · rename_i g3
    rw [if_neg g3]
    split at h
    · simp at h
    rename_i g4
    rw [if_neg g4]
    split at h
    · simp at h
    rename_i g5
    rw [if_neg g5]
    split
    · exact ⟨rfl, rfl, hd⟩
    rename_i g6
    rw [if_neg g6] at h
    split
    · exact ⟨rfl, rfl, hd⟩
    rename_i g7
    rw [if_neg g7] at h
    split at h
    · simp at h
    rename_i g8
    rw [if_neg g8]
    split at h
    · simp at h
    rename_i g9
    rw [if_neg g9]
    split at h
    · simp at h
    rename_i g10
    rw [if_neg g10]
    exact ⟨rfl, rfl, hd⟩

theorem staysP_map (nm nm' : ByteArray) (d : Int) (st : List Stay) : staysP nm (st.map (closeS nm' d)) = (staysP nm st).map (closeS nm' d) := by
  unfold staysP
  rw [List.filter_map]
  congr 1
  apply List.filter_congr
  intro s _
  simp only [Function.comp, closeS_lot]
theorem map_closeS_other {nm nm' : ByteArray} {d : Int} (hne : (nm.toList == nm'.toList) = false) (st : List Stay) : (staysP nm st).map (closeS nm' d) = staysP nm st := by
  rw [List.map_congr_left (g := id), List.map_id]
  intro s hs
  unfold staysP at hs
  have h1 := (List.mem_filter.1 hs).2
  unfold closeS
  rw [eq_of_beq h1, hne]
  simp
/-- What holds of the stays of a book behind accepted events. -/
structure Chn (k : Bk) : Prop where
  chain : ∀ nm, chainP (staysP nm k.st)
  since : ∀ s ∈ k.st, 0 ≤ s.lot.since
  lot : ∀ nm, lotK k nm = ((staysP nm k.st).map (·.lot)).getLast?
theorem chn0 (A : Option Addr) (n c : Nat) (R : Option Addr) (rn rc : Nat) (c0 c1 c2 : Int) : Chn (bk0 A n c R rn rc c0 c1 c2) := ⟨fun _ => trivial, fun _ h => (by cases h), fun _ => rfl⟩
theorem chn_add {k : Bk} {ls : List Lot} {ss : List Site} {rs : List Rest} {e : Event} (hC : Chn k) (hR : Rel k ls ss) (hI : Inv k ss) (h0 : (errorP k ss rs e).2 = 0) : Chn (addK k e (errorP k ss rs e).1) := by
  obtain ⟨h1, h2, h3⟩ := errorP_head h0
  generalize (errorP k ss rs e).1 = l at *
  have hst : (addK k e l).st = k.st.map (closeS e.remain e.day) ++ [⟨l, -1⟩] := by
    show closeAt (mget eqS e.remain k.m) e.day k.st ++ [⟨l, -1⟩] = _
    rw [closeAt_map hR]
  have hsp : ∀ nm, staysP nm (addK k e l).st = (staysP nm k.st).map (closeS e.remain e.day) ++ (if l.remain.toList == nm.toList then [⟨l, -1⟩] else []) := fun nm => by
    rw [hst, staysP, List.filter_append]
    have := staysP_map nm e.remain e.day k.st
    rw [staysP] at this
    rw [this]
    congr 1
    cases hq : (l.remain.toList == nm.toList) <;> simp [hq]
  refine ⟨fun nm => ?_, fun s hs => ?_, fun nm => ?_⟩
  · rw [hsp]
    cases hq : (l.remain.toList == nm.toList)
    · rw [map_closeS_other (by rw [← h2]; rw [beq_eq_false_iff_ne] at hq ⊢; exact fun e => hq e.symm), if_neg Bool.false_ne_true, List.append_nil]
      exact hC.chain nm
    · have hnm : e.remain = nm := by rw [← h2]; exact bytes_ext (eq_of_beq hq)
      subst hnm
      rw [if_pos rfl]
      refine chain_add h1 (hC.chain _) fun a ha => ?_
      unfold staysP at ha
      obtain ⟨ha1, ha2⟩ := List.mem_filter.1 ha
      exact ⟨hC.since a ha1, bytes_ext (eq_of_beq ha2)⟩
  · rw [hst] at hs
    rcases List.mem_append.1 hs with hs | hs
    · obtain ⟨s', hs', rfl⟩ := List.mem_map.1 hs
      rw [closeS_lot]
      exact hC.since s' hs'
    · have : s = ⟨l, -1⟩ := by simpa using hs
      subst this
      dsimp only
      omega
  · rw [lotK_add hI, hsp, hC.lot nm]
    have hm : ((staysP nm k.st).map (closeS e.remain e.day)).map (·.lot) = (staysP nm k.st).map (·.lot) := by
      rw [List.map_map]
      apply List.map_congr_left
      intro s _
      exact closeS_lot _ _ _
    rw [List.map_append, hm]
    unfold eqS
    rw [← h2]
    by_cases hq : nm.toList = l.remain.toList
    · simp [hq]
    · have hq' : ¬ l.remain.toList = nm.toList := fun e => hq e.symm
      simp [hq, hq']
/-- The lots that a remain had, up to a day. -/
def lotsOn (nm : ByteArray) (day : Int) (st : List Stay) : List Lot := ((staysP nm st).map (·.lot)).filter fun l => decide (l.since ≤ day)
theorem staysP_lots {nm : ByteArray} : ∀ {st st' : List Stay}, st.map (·.lot) = st'.map (·.lot) → (staysP nm st).map (·.lot) = (staysP nm st').map (·.lot)
  | [], [], _ => rfl
  | [], _ :: _, h => by simp at h
  | _ :: _, [], h => by simp at h
  | a :: l, b :: l', h => by
    simp only [List.map_cons, List.cons.injEq] at h
    have ih := staysP_lots (nm := nm) h.2
    unfold staysP at ih ⊢
    rw [List.filter_cons, List.filter_cons, h.1]
    split
    · simp only [List.map_cons, h.1, ih]
    · exact ih
theorem closeAt_lots (i : Option Int) (d : Int) (st : List Stay) : (closeAt i d st).map (·.lot) = st.map (·.lot) := by
  apply List.ext_getElem?
  intro j
  rw [List.getElem?_map, List.getElem?_map, closeAt_lot]
theorem lots_addK (nm : ByteArray) (k : Bk) (e : Event) (l : Lot) : (staysP nm (addK k e l).st).map (·.lot) = (staysP nm k.st).map (·.lot) ++ (if l.remain.toList == nm.toList then [l] else []) := by
  show (staysP nm (closeAt (mget eqS e.remain k.m) e.day k.st ++ [⟨l, -1⟩])).map (·.lot) = _
  have h1 : staysP nm (closeAt (mget eqS e.remain k.m) e.day k.st ++ [⟨l, -1⟩]) = staysP nm (closeAt (mget eqS e.remain k.m) e.day k.st) ++ (if l.remain.toList == nm.toList then [⟨l, -1⟩] else []) := by
    unfold staysP
    rw [List.filter_append]
    congr 1
    cases hq : (l.remain.toList == nm.toList) <;> simp [hq]
  rw [h1, List.map_append, staysP_lots (closeAt_lots _ _ _)]
  congr 1
  split <;> rfl
theorem adds_chn {ss : List Site} {rs : List Rest} (hroom : ∀ s ∈ ss, s.room ≤ 12) : ∀ (es : List Event) (k : Bk) (ls : List Lot), Rel k ls ss → Inv k ss → Chn k → (addsP ss rs k es).2 = 0 → Chn (addsP ss rs k es).1
  | [], _, _, _, _, hC, _ => hC
  | e :: l, k, ls, hR, hI, hC, h => by
    unfold addsP at h ⊢
    split at h
    · rename_i hx
      dsimp only at h
      rw [h] at hx
      simp at hx
    rename_i hx
    rw [if_neg hx]
    have hx0 : (errorP k ss rs e).2 = 0 := by simpa using hx
    exact adds_chn hroom l _ _ (hR.add hI hroom hx0) (inv_add hI (Prod.ext rfl hx0)) (chn_add hC hR hI hx0) h
theorem adds_lotsOn {ss : List Site} {rs : List Rest} {nm : ByteArray} {day : Int} : ∀ (es : List Event) (k : Bk), (addsP ss rs k es).2 = 0 → (∀ x ∈ es, day < x.day) → lotsOn nm day (addsP ss rs k es).1.st = lotsOn nm day k.st
  | [], _, _, _ => rfl
  | e :: l, k, h, hd => by
    unfold addsP at h ⊢
    split at h
    · rename_i hx
      dsimp only at h
      rw [h] at hx
      simp at hx
    rename_i hx
    rw [if_neg hx]
    have hx0 : (errorP k ss rs e).2 = 0 := by simpa using hx
    rw [adds_lotsOn l _ h fun x hx => hd x (by simp [hx])]
    obtain ⟨h1, h2, h3⟩ := errorP_head hx0
    have h4 := hd e (by simp)
    unfold lotsOn
    rw [lots_addK, List.filter_append]
    split
    · rw [List.filter_cons_of_neg (by simp; omega)]
      simp
    · simp
theorem adds_since {ss : List Site} {rs : List Rest} {day : Int} : ∀ (es : List Event) (k : Bk), (addsP ss rs k es).2 = 0 → (∀ x ∈ es, x.day ≤ day) → (∀ l ∈ k.st.map (·.lot), l.since ≤ day) → ∀ l ∈ (addsP ss rs k es).1.st.map (·.lot), l.since ≤ day
  | [], _, _, _, hk => hk
  | e :: l, k, h, hd, hk => by
    unfold addsP at h ⊢
    split at h
    · rename_i hx
      dsimp only at h
      rw [h] at hx
      simp at hx
    rename_i hx
    rw [if_neg hx]
    have hx0 : (errorP k ss rs e).2 = 0 := by simpa using hx
    refine adds_since l _ h (fun x hx => hd x (by simp [hx])) ?_
    obtain ⟨h1, h2, h3⟩ := errorP_head hx0
    intro t ht
    have ht' : t ∈ (closeAt (mget eqS e.remain k.m) e.day k.st ++ [(⟨(errorP k ss rs e).1, -1⟩ : Stay)]).map (fun s : Stay => s.lot) := ht
    rw [List.map_append, closeAt_lots] at ht'
    rcases List.mem_append.1 ht' with ht' | ht'
    · exact hk t ht'
    · have : t = (errorP k ss rs e).1 := by simpa using ht'
      rw [this, h1]
      exact hd e (by simp)
theorem adds_append {ss : List Site} {rs : List Rest} : ∀ (es es' : List Event) (k : Bk), (addsP ss rs k es).2 = 0 → addsP ss rs k (es ++ es') = addsP ss rs (addsP ss rs k es).1 es'
  | [], _, _, _ => rfl
  | e :: l, es', k, h => by
    unfold addsP at h
    split at h
    · rename_i hx
      dsimp only at h
      rw [h] at hx
      simp at hx
    rename_i hx
    rw [List.cons_append]
    have h1 : addsP ss rs k (e :: (l ++ es')) = addsP ss rs (addK k e (errorP k ss rs e).1) (l ++ es') := by
      conv => lhs; unfold addsP
      rw [if_neg hx]
    have h2 : addsP ss rs k (e :: l) = addsP ss rs (addK k e (errorP k ss rs e).1) l := by
      conv => lhs; unfold addsP
      rw [if_neg hx]
    rw [h1, h2]
    exact adds_append l es' _ h
theorem mem_upToE {day : Int} : ∀ {es : List Event}, ∀ e ∈ upToE day es, e.day ≤ day
  | [], _, h => by cases h
  | x :: l, e, h => by
    unfold upToE at h
    by_cases hd : x.day ≤ day
    · rw [List.takeWhile_cons_of_pos (by simpa using hd)] at h
      rcases List.mem_cons.1 h with rfl | h
      · exact hd
      · exact mem_upToE e h
    · rw [List.takeWhile_cons_of_neg (by simpa using hd)] at h
      cases h
theorem drop_upToE {ss : List Site} {rs : List Rest} {day : Int} : ∀ (es : List Event) (k : Bk), (addsP ss rs k es).2 = 0 → ∃ post, es = upToE day es ++ post ∧ ∀ e ∈ post, day < e.day
  | [], _, _ => ⟨[], rfl, fun _ h => by cases h⟩
  | e :: l, k, h => by
    have hd := adds_day (e :: l) k h
    have h' := h
    unfold addsP at h'
    split at h'
    · rename_i hx
      dsimp only at h'
      rw [h'] at hx
      simp at hx
    by_cases hday : e.day ≤ day
    · obtain ⟨post, h1, h2⟩ := drop_upToE (day := day) l _ h'
      refine ⟨post, ?_, h2⟩
      unfold upToE at h1 ⊢
      rw [List.takeWhile_cons_of_pos (by simpa using hday), List.cons_append, ← h1]
    · refine ⟨e :: l, ?_, fun x hx => ?_⟩
      · unfold upToE
        rw [List.takeWhile_cons_of_neg (by simpa using hday)]
        rfl
      · rcases List.mem_cons.1 hx with rfl | hx
        · omega
        · have h2 := adds_day l _ h' x hx
          have e2 : (addK k e (errorP k ss rs e).1).day = e.day := rfl
          omega

/-- What the law GraveStaysOn asks. -/
theorem stays_on {ss : List Site} {rs : List Rest} {A R : Option Addr} {n c rn rc : Nat} {c0 c1 c2 : Int} {es : List Event} (h : rCheckP c0 c1 c2 ss rs es = 0) (nm : ByteArray) (day : Int) :
    chainP (staysP nm (readP ss rs (bk0 A n c R rn rc c0 c1 c2) es).1.st) ∧ lotK (upToP ss rs day (bk0 A n c R rn rc c0 c1 c2) es) nm = (lotsOn nm day (readP ss rs (bk0 A n c R rn rc c0 c1 c2) es).1.st).getLast? := by
  obtain ⟨_, _, h3, h4, h5, h6⟩ := (read_check ss rs A R n c rn rc c0 c1 c2 es).2 h
  obtain ⟨g1, g2, g3, g4⟩ := upTo_check (A := A) (R := R) (n := n) (c := c) (rn := rn) (rc := rc) h day
  have hroom := yard_rooms h5
  rw [h3, g1]
  have c1' := adds_chn (rs := rs) hroom es _ _ (rel0 A n c R rn rc c0 c1 c2 ss) (inv0 _ _ _ _ _ _ _ _ _ _) (chn0 _ _ _ _ _ _ _ _ _) h4
  have c2' := adds_chn (rs := rs) hroom (upToE day es) _ _ (rel0 A n c R rn rc c0 c1 c2 ss) (inv0 _ _ _ _ _ _ _ _ _ _) (chn0 _ _ _ _ _ _ _ _ _) g4
  refine ⟨c1'.chain nm, ?_⟩
  obtain ⟨post, p1, p2⟩ := drop_upToE (day := day) es _ h4
  have e1 : addsP ss rs (bk0 A n c R rn rc c0 c1 c2) es = addsP ss rs (addsP ss rs (bk0 A n c R rn rc c0 c1 c2) (upToE day es)).1 post := by
    conv => lhs; rw [p1]
    exact adds_append _ _ _ g4
  have e2 : (addsP ss rs (addsP ss rs (bk0 A n c R rn rc c0 c1 c2) (upToE day es)).1 post).2 = 0 := by rw [← e1]; exact h4
  rw [e1, adds_lotsOn post _ e2 p2, c2'.lot nm]
  congr 1
  unfold lotsOn
  rw [List.filter_eq_self.2]
  intro l hl
  have := adds_since (day := day) (upToE day es) _ g4 mem_upToE (fun l h => by cases h) l (by
    obtain ⟨s, hs, rfl⟩ := List.mem_map.1 hl
    unfold staysP at hs
    exact List.mem_map.2 ⟨s, (List.mem_filter.1 hs).1, rfl⟩)
  simpa using this

/-- The number of the last stay that has begun by a day. -/
def lastGo (day : Int) : Nat → Int → List Stay → Int
  | _, la, [] => la
  | i, la, s :: r => lastGo day (i + 1) (if decide (s.lot.since ≤ day) then (i : Int) else la) r
def LastOk (l : List Stay) (day : Int) (i : Nat) (la : Int) : Prop :=
  (la = -1 ∧ ((l.take i).map (·.lot)).filter (fun x => decide (x.since ≤ day)) = []) ∨
  (∃ (n : Nat) (s : Stay), la = (n : Int) ∧ n < i ∧ l[n]? = some s ∧ (((l.take i).map (·.lot)).filter fun x => decide (x.since ≤ day)).getLast? = some s.lot)
theorem lastOk_step {l : List Stay} {day : Int} {i : Nat} {la : Int} {s : Stay} (hi : l[i]? = some s) (h : LastOk l day i la) : LastOk l day (i + 1) (if decide (s.lot.since ≤ day) then (i : Int) else la) := by
  have ht : l.take (i + 1) = l.take i ++ [s] := by
    have hlt := (List.getElem?_eq_some_iff.1 hi).1
    rw [List.take_succ_eq_append_getElem hlt, (List.getElem?_eq_some_iff.1 hi).2]
  unfold LastOk
  rw [ht, List.map_append, List.filter_append]
  by_cases hd : s.lot.since ≤ day
  · rw [if_pos (by simpa using hd)]
    refine .inr ⟨i, s, rfl, by omega, hi, ?_⟩
    simp [hd]
  · rw [if_neg (by simpa using hd)]
    have h0 : ([s].map (·.lot)).filter (fun x => decide (x.since ≤ day)) = [] := by simp; omega
    rw [h0, List.append_nil]
    rcases h with h | ⟨n, s', h1, h2, h3, h4⟩
    · exact .inl h
    · exact .inr ⟨n, s', h1, by omega, h3, h4⟩
end Go.Proofs.YtpohkolapgofdaaGreat
namespace Go.Proofs.YtpohkolapgofdaaGreat
open Go.RowKit

theorem next_ok {c0 c1 c2 : Int} {ss : List Site} {rs : List Rest} {ls : List Lot} {last : Int} {e : Event} (h : (rNextP c0 c1 c2 ss rs ls last e).2 = 0) :
    (rNextP c0 c1 c2 ss rs ls last e).1 = rWithP (rLotP ss ls e) ls ∧ rErrP c0 c1 c2 ss rs ls e = 0 ∧ checkEventP e = 0 ∧ last ≤ e.day := by
  unfold rNextP at h ⊢
  split at h
  · rename_i hx; dsimp only at h; rw [h] at hx; simp at hx
  rename_i g1
  split at h
  · simp at h
  rename_i g2
  split at h
  · rename_i hx; dsimp only at h; rw [h] at hx; simp at hx
  rename_i g3
  rw [if_neg g1, if_neg g2, if_neg g3]
  exact ⟨rfl, by simpa using g3, by simpa using g1, by simpa using g2⟩

/-- No two lots lie at one level. -/
def Apart (ls : List Lot) : Prop := ∀ a ∈ ls, ∀ b ∈ ls, a.state = 1 → b.state = 1 → a.site = b.site → a.level = b.level → a = b
theorem apart_with {l : Lot} {ls : List Lot} (h : Apart ls) (hl : l.state = 1 → ∀ t ∈ ls, t.state = 1 → t.site = l.site → t.level ≠ l.level) : Apart (rWithP l ls) := by
  intro a ha b hb h1 h2 h3 h4
  rcases mem_with ha with ea | ha'
  · rcases mem_with hb with eb | hb'
    · rw [ea, eb]
    · subst ea
      exact absurd h4.symm (hl h1 b hb' h2 h3.symm)
  · rcases mem_with hb with eb | hb'
    · subst eb
      exact absurd h4 (hl h2 a ha' h1 h3)
    · exact h a ha' b hb' h1 h2 h3 h4
theorem len_with (l : Lot) : ∀ ls : List Lot, (rWithP l ls).length ≤ ls.length + 1
  | [] => by simp [rWithP]
  | x :: r => by
    unfold rWithP
    have := len_with l r
    split
    · simp only [List.length_cons]; omega
    split
    · simp only [List.length_cons]; omega
    · simp only [List.length_cons]; omega

section
variable {c0 c1 c2 : Int} {ss : List Site} {rs : List Rest} {ls : List Lot} {e : Event}
theorem place_free {si : ByteArray} {lv co : Int} (h : rPlaceP c0 c1 c2 ss ls si lv co = 0) : rOccP si lv ls = false := by
  unfold rPlaceP at h
  split at h
  · simp at h
  · split at h
    · simp at h
    split at h
    · simp at h
    split at h
    · simp at h
    · rename_i s hs _ _ h3
      simpa using h3
theorem put_ok (h : rErrP c0 c1 c2 ss rs ls e = 0) (hk : e.kind = 0 ∨ e.kind = 2) : rPlaceP c0 c1 c2 ss ls e.site e.level e.container = 0 ∧ (e.kind = 0 → findLot e.remain ls = none) := by
  unfold rErrP at h
  rw [if_pos (by simpa using hk)] at h
  unfold rPutP at h
  split at h
  · simp at h
  rename_i g1
  split at h
  · simp at h
  split at h
  · simp at h
  refine ⟨h, fun h0 => ?_⟩
  cases hf : findLot e.remain ls with
  | none => rfl
  | some t => rw [h0, hf] at g1; simp at g1
theorem lot_apart (hlies : ∀ t ∈ ls, t.state = 1 → ∃ s, findSite t.site ss = some s ∧ 0 ≤ t.level ∧ t.level < s.room) (h : rErrP c0 c1 c2 ss rs ls e = 0) :
    (rLotP ss ls e).state = 1 → ∀ t ∈ ls, t.state = 1 → t.site = (rLotP ss ls e).site → t.level ≠ (rLotP ss ls e).level := by
  by_cases hk : e.kind = 0 ∨ e.kind = 2
  · have h1 := place_free (put_ok h hk).1
    unfold rLotP
    rw [if_pos (by simpa using hk)]
    dsimp only
    intro _ t ht hs1 hs2 hs3
    rw [Bool.eq_false_iff] at h1
    exact h1 (rOcc_iff.2 ⟨t, ht, hs1, hs2, hs3⟩)
  · unfold rErrP at h
    rw [if_neg (by simpa using hk)] at h
    unfold rLotP
    rw [if_neg (by simpa using hk)]
    by_cases hk3 : e.kind = 3
    · rw [if_pos (by simpa using hk3)]
      unfold rTakeP at h
      cases hf : findLot e.remain ls with
      | none => rw [hf] at h; simp at h
      | some t0 =>
        rw [hf] at h
        dsimp only at h
        split at h
        · simp at h
        rename_i hs1
        have hs1' : t0.state = 1 := by simpa using hs1
        obtain ⟨s, hs, _, _⟩ := hlies t0 (findLot_mem hf) hs1'
        rw [hs] at h
        dsimp only at h
        unfold rLiesP at h
        split at h
        · simp at h
        split at h
        · simp at h
        rename_i g2
        split at h
        · simp at h
        rename_i g3
        simp only [hk3, beq_self_eq_true, Bool.true_and, decide_eq_true_eq] at g2 g3
        simp only [Option.getD_some]
        intro _ t ht hs4 hs5 hs6
        refine g3 (busy_iff.2 ⟨t, ht, hs4, ?_, by omega, by omega⟩)
        rw [findSite_name hs]
        exact hs5
    · rw [if_neg (by simpa using hk3)]
      intro hst
      exfalso
      split at hst
      · simp at hst
      · simp at hst
end

/-- What holds of the lots behind accepted events. -/
structure One (es : List Event) (ls : List Lot) : Prop where
  apart : Apart ls
  len : ls.length ≤ es.length
  has : ∀ e ∈ es, (findLot e.remain ls).isSome = true
  of : ∀ nm, (findLot nm ls).isSome = true → ∃ e ∈ es, e.remain = nm
  fresh : es.Pairwise fun a b => b.kind = 0 → a.remain ≠ b.remain
theorem one0 : One [] [] := ⟨fun _ h => (by cases h), Nat.le_refl _, fun _ h => (by cases h), fun _ h => (by cases h), List.Pairwise.nil⟩
theorem one_add {c0 c1 c2 : Int} {ss : List Site} {rs : List Rest} {ls : List Lot} {es : List Event} {e : Event} (hO : One es ls) (ha : Asc ls)
    (hlies : ∀ t ∈ ls, t.state = 1 → ∃ s, findSite t.site ss = some s ∧ 0 ≤ t.level ∧ t.level < s.room) (h : rErrP c0 c1 c2 ss rs ls e = 0) : One (es ++ [e]) (rWithP (rLotP ss ls e) ls) where
  apart := apart_with hO.apart (lot_apart hlies h)
  len := by
    have h1 := len_with (rLotP ss ls e) ls
    have h2 := hO.len
    simp only [List.length_append, List.length_cons, List.length_nil]
    omega
  has := fun x hx => by
    rw [findLot_with ha, lotP_remain]
    split
    · rfl
    · rename_i hne
      rcases List.mem_append.1 hx with hx | hx
      · exact hO.has x hx
      · have : x = e := by simpa using hx
        subst this
        simp at hne
  of := fun nm hnm => by
    rw [findLot_with ha, lotP_remain] at hnm
    split at hnm
    · rename_i he
      exact ⟨e, by simp, bytes_ext (eq_of_beq he)⟩
    · obtain ⟨x, hx, h1⟩ := hO.of nm hnm
      exact ⟨x, by simp [hx], h1⟩
  fresh := List.pairwise_append.2 ⟨hO.fresh, List.pairwise_singleton _ _, fun a ha' b hb hk => by
    have : b = e := by simpa using hb
    subst this
    intro he
    have h1 := hO.has a ha'
    rw [he, (put_ok h (.inl hk)).2 hk] at h1
    cases h1⟩
theorem one_adds {ss : List Site} {rs : List Rest} (hroom : ∀ s ∈ ss, s.room ≤ 12) : ∀ (es es0 : List Event) (k : Bk) (ls : List Lot), Rel k ls ss → Inv k ss → One es0 ls → (addsP ss rs k es).2 = 0 → ∃ ls', Rel (addsP ss rs k es).1 ls' ss ∧ One (es0 ++ es) ls'
  | [], es0, k, ls, hR, _, hO, _ => ⟨ls, hR, by rw [List.append_nil]; exact hO⟩
  | e :: l, es0, k, ls, hR, hI, hO, h => by
    unfold addsP at h ⊢
    cases hq : ((errorP k ss rs e).2 != 0)
    · rw [hq, if_neg Bool.false_ne_true] at h
      rw [if_neg Bool.false_ne_true]
      have hq0 : (errorP k ss rs e).2 = 0 := by simpa using hq
      have g1 := (hR.error hroom rs e).1
      rw [hq0] at g1
      have h3 := (next_ok g1.symm).2.1
      obtain ⟨ls', r1, r2⟩ := one_adds hroom l (es0 ++ [e]) (addK k e (errorP k ss rs e).1) (rWithP (rLotP ss ls e) ls) (hR.add hI hroom hq0) (inv_add hI (Prod.ext rfl hq0)) (one_add hO hR.asc hR.lies h3) h
      exact ⟨ls', r1, by simpa using r2⟩
    · rw [hq, if_pos rfl] at h
      dsimp only at h
      simp [h] at hq
theorem upToE_sub {day : Int} : ∀ {es : List Event}, ∃ post, es = upToE day es ++ post
  | [] => ⟨[], rfl⟩
  | e :: l => by
    unfold upToE
    by_cases h : e.day ≤ day
    · obtain ⟨post, hp⟩ := upToE_sub (day := day) (es := l)
      refine ⟨post, ?_⟩
      rw [List.takeWhile_cons_of_pos (by simpa using h), List.cons_append]
      unfold upToE at hp
      rw [← hp]
    · rw [List.takeWhile_cons_of_neg (by simpa using h)]
      exact ⟨e :: l, rfl⟩
theorem one_place {ss : List Site} {rs : List Rest} {c0 c1 c2 : Int} {es : List Event} (A R : Option Addr) (n c rn rc : Nat) (h : rCheckP c0 c1 c2 ss rs es = 0) (day : Int) :
    ∃ ls, Rel (upToP ss rs day (bk0 A n c R rn rc c0 c1 c2) es) ls ss ∧ Apart ls ∧ ls.length ≤ es.length ∧
      ∀ e ∈ es, (e.day ≤ day → (findLot e.remain ls).isSome = true) ∧ (e.kind = 0 → day < e.day → findLot e.remain ls = none) := by
  obtain ⟨_, _, _, h4, h5, h6⟩ := (read_check ss rs A R n c rn rc c0 c1 c2 es).2 h
  have hroom := yard_rooms h5
  obtain ⟨g1, _, _, g4⟩ := upTo_check (A := A) (R := R) (n := n) (c := c) (rn := rn) (rc := rc) h day
  obtain ⟨ls, r1, r2⟩ := one_adds hroom (upToE day es) [] _ [] (rel0 A n c R rn rc c0 c1 c2 ss) (inv0 _ _ _ _ _ _ _ _ _ _) one0 g4
  obtain ⟨ls2, _, q2⟩ := one_adds hroom es [] _ [] (rel0 A n c R rn rc c0 c1 c2 ss) (inv0 _ _ _ _ _ _ _ _ _ _) one0 h4
  rw [List.nil_append] at r2 q2
  rw [← g1] at r1
  obtain ⟨post, p1, p2⟩ := drop_upToE (day := day) es _ h4
  refine ⟨ls, r1, r2.apart, ?_, fun e he => ⟨fun hd => ?_, fun hk hd => ?_⟩⟩
  · have := r2.len
    have h7 : es.length = (upToE day es).length + post.length := by
      conv => lhs; rw [p1]
      simp
    omega
  · rw [p1] at he
    rcases List.mem_append.1 he with he | he
    · exact r2.has e he
    · have := p2 e he
      omega
  · cases hf : findLot e.remain ls with
    | none => rfl
    | some t =>
      exfalso
      obtain ⟨x, hx, hxe⟩ := r2.of e.remain (by rw [hf]; rfl)
      have hf2 := q2.fresh
      rw [p1] at hf2 he
      rcases List.mem_append.1 he with he | he
      · have := mem_upToE e he
        omega
      · exact (List.pairwise_append.1 hf2).2.2 x hx e he hk hxe

/-- How many lots are of one remain. -/
theorem cnt_none {nm : ByteArray} : ∀ {ls : List Lot}, findLot nm ls = none → ls.countP (fun t => t.remain.toList == nm.toList) = 0
  | [], _ => rfl
  | x :: l, h => by
    unfold findLot at h
    split at h
    · cases h
    · rename_i hx
      rw [List.countP_cons_of_neg (p := fun t : Lot => t.remain.toList == nm.toList) hx]
      exact cnt_none h
theorem cnt_asc {nm : ByteArray} : ∀ {ls : List Lot}, Asc ls → (findLot nm ls).isSome = true → ls.countP (fun t => t.remain.toList == nm.toList) = 1
  | [], _, h => by cases h
  | x :: l, ha, h => by
    obtain ⟨h1, h2⟩ := List.pairwise_cons.1 ha
    unfold findLot at h
    split at h
    · rename_i hx
      rw [List.countP_cons_of_pos (p := fun t : Lot => t.remain.toList == nm.toList) hx]
      have e := bytes_ext (eq_of_beq hx)
      have h3 := findLot_less (nm := nm) fun t ht => by rw [← e]; exact h1 t ht
      rw [cnt_none h3]
    · rename_i hx
      rw [List.countP_cons_of_neg (p := fun t : Lot => t.remain.toList == nm.toList) hx]
      exact cnt_asc h2 h
end Go.Proofs.YtpohkolapgofdaaGreat
namespace Go.Proofs.YtpohkolapgofdaaGreat
open Go.RowKit

def closeLast (d : Int) (l : List Stay) : List Stay := l.modify (l.length - 1) fun s => { s with till := d }
/-- The stays of a remain that the reference finds behind the first i events. -/
def rStGo (c0 c1 c2 : Int) (ss : List Site) (rs : List Rest) (es : List Event) (rm : ByteArray) : Nat → List Stay
  | 0 => []
  | i + 1 => match es[i]? with
    | none => rStGo c0 c1 c2 ss rs es rm i
    | some e => if e.remain.toList == rm.toList then closeLast e.day (rStGo c0 c1 c2 ss rs es rm i) ++ [⟨(findLot rm (rReplayP c0 c1 c2 ss rs (es.take (i + 1))).1).getD zeroLot, -1⟩] else rStGo c0 c1 c2 ss rs es rm i
theorem adds_prefix {ss : List Site} {rs : List Rest} : ∀ (es es' : List Event) (k : Bk), (addsP ss rs k (es ++ es')).2 = 0 → (addsP ss rs k es).2 = 0
  | [], _, _, _ => rfl
  | e :: l, es', k, h => by
    rw [List.cons_append] at h
    unfold addsP at h ⊢
    split at h
    · rename_i hx
      rw [if_pos hx]
      exact h
    · rename_i hx
      rw [if_neg hx]
      exact adds_prefix l es' _ h
theorem check_take {c0 c1 c2 : Int} {ss : List Site} {rs : List Rest} {es : List Event} (h : rCheckP c0 c1 c2 ss rs es = 0) (i : Nat) : rCheckP c0 c1 c2 ss rs (es.take i) = 0 := by
  obtain ⟨_, _, _, h4, h5, h6⟩ := (read_check ss rs none none 0 0 0 0 c0 c1 c2 es).2 h
  rw [← (read_check ss rs none none 0 0 0 0 c0 c1 c2 (es.take i)).1]
  have hrd : readP ss rs (bk0 none 0 0 none 0 0 c0 c1 c2) (es.take i) = if checkYardP ss rs c0 c1 c2 != 0 then (bk0 none 0 0 none 0 0 c0 c1 c2, checkYardP ss rs c0 c1 c2) else if decide (300 < ((es.take i).length : Int)) then (bk0 none 0 0 none 0 0 c0 c1 c2, 8) else addsP ss rs (bk0 none 0 0 none 0 0 c0 c1 c2) (es.take i) := rfl
  rw [hrd, if_neg (by simp [h5]), if_neg (by simp; omega)]
  have h7 : es = es.take i ++ es.drop i := (List.take_append_drop i es).symm
  rw [h7] at h4
  exact adds_prefix _ _ _ h4
theorem chain_map {nm : ByteArray} {d : Int} : ∀ {l : List Stay}, chainP l → (∀ a ∈ l, 0 ≤ a.lot.since ∧ a.lot.remain = nm) → l.map (closeS nm d) = closeLast d l
  | [], _, _ => rfl
  | [a], h, hr => by
    have h1 : a.till = -1 := h
    have h2 := (hr a (by simp)).2
    have h3 : closeS nm d a = { a with till := d } := by unfold closeS; rw [if_pos (by simp [h1, h2])]
    simp [closeLast, h3]
  | a :: b :: r, h, hr => by
    obtain ⟨h1, h2⟩ := h
    have h3 := (hr b (by simp)).1
    have h4 : closeS nm d a = a := by unfold closeS; rw [if_neg (by simp; omega)]
    have ih := chain_map (nm := nm) (d := d) h2 fun c hc => hr c (by simp [hc])
    rw [List.map_cons, h4, ih]
    simp [closeLast]
section
variable {c0 c1 c2 : Int} {ss : List Site} {rs : List Rest} {es : List Event}
/-- The book behind accepted events. -/
theorem book_take (h : rCheckP c0 c1 c2 ss rs es = 0) (A R : Option Addr) (n c rn rc : Nat) (i : Nat) :
    (addsP ss rs (bk0 A n c R rn rc c0 c1 c2) (es.take i)).2 = 0 ∧ Rel (addsP ss rs (bk0 A n c R rn rc c0 c1 c2) (es.take i)).1 (rReplayP c0 c1 c2 ss rs (es.take i)).1 ss ∧ Inv (addsP ss rs (bk0 A n c R rn rc c0 c1 c2) (es.take i)).1 ss ∧ Chn (addsP ss rs (bk0 A n c R rn rc c0 c1 c2) (es.take i)).1 := by
  obtain ⟨h1, h2, h3, h4, h5, _⟩ := (read_check ss rs A R n c rn rc c0 c1 c2 (es.take i)).2 (check_take h i)
  rw [h3] at h1 h2
  exact ⟨h4, h1, h2, adds_chn (yard_rooms h5) (es.take i) _ _ (rel0 A n c R rn rc c0 c1 c2 ss) (inv0 _ _ _ _ _ _ _ _ _ _) (chn0 _ _ _ _ _ _ _ _ _) h4⟩
/-- One event more. -/
theorem book_step (h : rCheckP c0 c1 c2 ss rs es = 0) (A R : Option Addr) (n c rn rc : Nat) {i : Nat} {e : Event} (he : es[i]? = some e) :
    (errorP (addsP ss rs (bk0 A n c R rn rc c0 c1 c2) (es.take i)).1 ss rs e).2 = 0 ∧
    addsP ss rs (bk0 A n c R rn rc c0 c1 c2) (es.take (i + 1)) = (addK (addsP ss rs (bk0 A n c R rn rc c0 c1 c2) (es.take i)).1 e (errorP (addsP ss rs (bk0 A n c R rn rc c0 c1 c2) (es.take i)).1 ss rs e).1, 0) ∧
    (findLot e.remain (rReplayP c0 c1 c2 ss rs (es.take (i + 1))).1) = some (errorP (addsP ss rs (bk0 A n c R rn rc c0 c1 c2) (es.take i)).1 ss rs e).1 := by
  obtain ⟨h4, hR, hI, _⟩ := book_take h A R n c rn rc i
  obtain ⟨g4, gR, _, _⟩ := book_take h A R n c rn rc (i + 1)
  obtain ⟨_, _, _, _, h5, _⟩ := (read_check ss rs A R n c rn rc c0 c1 c2 es).2 h
  have ht : es.take (i + 1) = es.take i ++ [e] := by
    have hlt := (List.getElem?_eq_some_iff.1 he).1
    rw [List.take_succ_eq_append_getElem hlt, (List.getElem?_eq_some_iff.1 he).2]
  have hap := adds_append (ss := ss) (rs := rs) (es.take i) [e] _ h4
  rw [← ht] at hap
  generalize (addsP ss rs (bk0 A n c R rn rc c0 c1 c2) (es.take i)).1 = k at *
  have herr : (errorP k ss rs e).2 = 0 := by
    rw [hap] at g4
    unfold addsP at g4
    split at g4
    · exact g4
    · rename_i hx
      simpa using hx
  have hadd : addsP ss rs k [e] = (addK k e (errorP k ss rs e).1, 0) := by
    unfold addsP
    rw [if_neg (by simp [herr])]
    rfl
  rw [hadd] at hap
  rw [hap] at gR
  have hls : (rReplayP c0 c1 c2 ss rs (es.take (i + 1))).1 = rWithP (rLotP ss (rReplayP c0 c1 c2 ss rs (es.take i)).1 e) (rReplayP c0 c1 c2 ss rs (es.take i)).1 := by
    have hadd := hR.add hI (yard_rooms h5) herr
    exact asc_mem gR.asc hadd.asc fun x => gR.mem.symm.trans hadd.mem
  refine ⟨herr, hap, ?_⟩
  rw [hls, findLot_with hR.asc, lotP_remain, if_pos (by simp), (hR.error (yard_rooms h5) rs e).2 herr]
theorem stGo_book (h : rCheckP c0 c1 c2 ss rs es = 0) (A R : Option Addr) (n c rn rc : Nat) (rm : ByteArray) : ∀ i, i ≤ es.length → rStGo c0 c1 c2 ss rs es rm i = staysP rm (addsP ss rs (bk0 A n c R rn rc c0 c1 c2) (es.take i)).1.st
  | 0, _ => rfl
  | i + 1, hi => by
    have ih := stGo_book h A R n c rn rc rm i (by omega)
    have hlt : i < es.length := by omega
    obtain ⟨h4, hR, hI, hC⟩ := book_take h A R n c rn rc i
    obtain ⟨q1, q2, q3⟩ := book_step h A R n c rn rc (List.getElem?_eq_getElem hlt)
    unfold rStGo
    rw [List.getElem?_eq_getElem hlt]
    dsimp only
    rw [q2]
    generalize es[i] = e at *
    obtain ⟨e1, e2, e3⟩ := errorP_head q1
    generalize (addsP ss rs (bk0 A n c R rn rc c0 c1 c2) (es.take i)).1 = k at *
    generalize hl : (errorP k ss rs e).1 = l at *
    have hst : (addK k e l).st = k.st.map (closeS e.remain e.day) ++ [⟨l, -1⟩] := by
      show closeAt (mget eqS e.remain k.m) e.day k.st ++ [⟨l, -1⟩] = _
      rw [closeAt_map hR]
    dsimp only
    rw [hst, staysP, List.filter_append]
    have hmap := staysP_map rm e.remain e.day k.st
    rw [staysP] at hmap
    rw [hmap]
    cases hq : (e.remain.toList == rm.toList)
    · rw [if_neg Bool.false_ne_true, ih, map_closeS_other (by rw [beq_eq_false_iff_ne] at hq ⊢; exact fun e => hq e.symm)]
      have : List.filter (fun s : Stay => s.lot.remain.toList == rm.toList) [⟨l, -1⟩] = [] := by simp [e2]; simpa using hq
      rw [this, List.append_nil]
    · have hnm : e.remain = rm := bytes_ext (eq_of_beq hq)
      subst hnm
      rw [if_pos rfl, ih, q3]
      have : List.filter (fun s : Stay => s.lot.remain.toList == e.remain.toList) [⟨l, -1⟩] = [⟨l, -1⟩] := by simp [e2]
      rw [this]
      rw [chain_map (hC.chain _) fun a ha => ?_]
      · rfl
      · unfold staysP at ha
        obtain ⟨ha1, ha2⟩ := List.mem_filter.1 ha
        exact ⟨hC.since a ha1, bytes_ext (eq_of_beq ha2)⟩
theorem st_remains (h : rCheckP c0 c1 c2 ss rs es = 0) (A R : Option Addr) (n c rn rc : Nat) : ∀ i, i ≤ es.length → (addsP ss rs (bk0 A n c R rn rc c0 c1 c2) (es.take i)).1.st.map (·.lot.remain) = (es.take i).map (·.remain)
  | 0, _ => rfl
  | i + 1, hi => by
    have ih := st_remains h A R n c rn rc i (by omega)
    have hlt : i < es.length := by omega
    obtain ⟨q1, q2, q3⟩ := book_step h A R n c rn rc (List.getElem?_eq_getElem hlt)
    obtain ⟨e1, e2, e3⟩ := errorP_head q1
    rw [q2, List.take_succ_eq_append_getElem hlt, List.map_append, ← ih]
    generalize es[i] = e at *
    show (closeAt _ _ _ ++ [_]).map _ = _
    have h1 := congrArg (List.map (·.remain)) (closeAt_lots (mget eqS e.remain (addsP ss rs (bk0 A n c R rn rc c0 c1 c2) (es.take i)).1.m) e.day (addsP ss rs (bk0 A n c R rn rc c0 c1 c2) (es.take i)).1.st)
    rw [List.map_map, List.map_map] at h1
    rw [List.map_append]
    simp only [List.map_cons, List.map_nil, e2]
    exact congrArg (· ++ _) h1
/-- A stay at a place of the yard, or at none. -/
def PlacedS (ss : List Site) (l : Lot) : Prop := (l.site = ⟨#[]⟩ ∧ l.state ≠ 1 ∧ l.state ≠ 3) ∨ ((l.state = 1 ∨ l.state = 3) ∧ ∃ s, findSite l.site ss = some s ∧ 0 ≤ l.level ∧ l.level < s.room)
theorem error_placed {k : Bk} {ls : List Lot} {e : Event} (hr : Rel k ls ss) (h : (errorP k ss rs e).2 = 0) : PlacedS ss (errorP k ss rs e).1 := by
  generalize hp : errorP k ss rs e = p at *
  obtain ⟨l, er⟩ := p
  dsimp only at h ⊢
  subst h
  by_cases hs1 : l.state = 1
  · obtain ⟨s, hs⟩ := put_lies hr hp hs1
    exact .inr ⟨.inl hs1, s, hs⟩
  · unfold errorP at hp
    split at hp
    · rename_i hc
      simp only [Prod.mk.injEq] at hp
      rw [hp.2] at hc
      simp at hc
    rename_i hce
    split at hp
    · simp at hp
    unfold errorQ at hp
    split at hp
    · rename_i hk
      split at hp
      · simp at hp
      split at hp
      · simp at hp
      split at hp
      · simp at hp
      split at hp
      · rename_i hq
        simp only [Prod.mk.injEq] at hp
        rw [hp.2] at hq
        simp at hq
      · rename_i hq
        have hp0 : placeP k ss e.site e.level e.container = 0 := by simpa using hq
        obtain ⟨s, hs⟩ := placeP_site hp0
        unfold placeP at hp0
        rw [hs] at hp0
        dsimp only at hp0
        split at hp0
        · cases hp0
        rename_i hro
        simp only [Prod.mk.injEq] at hp
        have hl := hp.1
        have hput := (checkEvent_ok (show checkEventP e = 0 by simpa using hce)).2.2.2.2.1 (by simpa using hk)
        rw [← hl] at hs1 ⊢
        dsimp only at hs1 ⊢
        refine .inr ⟨?_, s, hs, hput.1, by simpa using hro⟩
        split
        · exact .inr rfl
        · exact .inl rfl
    · split at hp
      · simp at hp
      split at hp
      · simp at hp
      split at hp
      · simp only [Prod.mk.injEq] at hp
        rw [← hp.1]
        exact .inl ⟨rfl, by simp, by simp⟩
      split at hp
      · simp only [Prod.mk.injEq] at hp
        rw [← hp.1]
        exact .inl ⟨rfl, by simp, by simp⟩
      split at hp
      · simp at hp
      split at hp
      · simp at hp
      split at hp
      · simp at hp
      · simp only [Prod.mk.injEq] at hp
        rw [← hp.1] at hs1
        simp at hs1
theorem st_placed (h : rCheckP c0 c1 c2 ss rs es = 0) (A R : Option Addr) (n c rn rc : Nat) : ∀ i, i ≤ es.length → ∀ s ∈ (addsP ss rs (bk0 A n c R rn rc c0 c1 c2) (es.take i)).1.st, PlacedS ss s.lot
  | 0, _ => fun _ h => (by cases h)
  | i + 1, hi => by
    have ih := st_placed h A R n c rn rc i (by omega)
    have hlt : i < es.length := by omega
    obtain ⟨_, hR, _, _⟩ := book_take h A R n c rn rc i
    obtain ⟨q1, q2, q3⟩ := book_step h A R n c rn rc (List.getElem?_eq_getElem hlt)
    have hpl := error_placed hR q1
    rw [q2]
    generalize (addsP ss rs (bk0 A n c R rn rc c0 c1 c2) (es.take i)).1 = k at *
    intro s hs
    rcases List.mem_append.1 (show s ∈ closeAt (mget eqS es[i].remain k.m) es[i].day k.st ++ [⟨(errorP k ss rs es[i]).1, -1⟩] from hs) with hs | hs
    · have h1 : s.lot ∈ (closeAt (mget eqS es[i].remain k.m) es[i].day k.st).map (·.lot) := List.mem_map.2 ⟨s, hs, rfl⟩
      rw [closeAt_lots] at h1
      obtain ⟨s', h2, h3⟩ := List.mem_map.1 h1
      have h4 := ih s' h2
      rw [h3] at h4
      exact h4
    · have : s = ⟨(errorP k ss rs es[i]).1, -1⟩ := by simpa using hs
      subst this
      exact hpl
end
/-- The stays at each level of a site. -/
def levelsP (nm : ByteArray) (room : Nat) (st : List Stay) : List (List Stay) := (List.range room).map fun (lv : Nat) => st.filter fun s => s.lot.site.toList == nm.toList && s.lot.level == (lv : Int)
theorem levels_len (nm : ByteArray) (room : Nat) (st : List Stay) : (levelsP nm room st).length = room := by simp [levelsP]
theorem levels_nil (nm : ByteArray) (room : Nat) : levelsP nm room [] = List.replicate room [] := by
  unfold levelsP
  apply List.ext_getElem
  · simp
  · intro i h1 h2
    simp
theorem levels_at {nm : ByteArray} {room : Nat} {st : List Stay} {lv : Nat} (h : lv < room) : (levelsP nm room st)[lv]? = some (st.filter fun s => s.lot.site.toList == nm.toList && s.lot.level == (lv : Int)) := by
  unfold levelsP
  rw [List.getElem?_map, List.getElem?_range h]
  rfl
theorem levels_snoc_other {nm : ByteArray} {room : Nat} {st : List Stay} {s : Stay} (h : (s.lot.site.toList == nm.toList) = false) : levelsP nm room (st ++ [s]) = levelsP nm room st := by
  unfold levelsP
  apply List.map_congr_left
  intro lv _
  rw [List.filter_append]
  simp [h]
theorem levels_snoc {nm : ByteArray} {room : Nat} {st : List Stay} {s : Stay} {lv : Nat} (h : (s.lot.site.toList == nm.toList) = true) (hl : s.lot.level = (lv : Int)) (hlt : lv < room) :
    levelsP nm room (st ++ [s]) = (levelsP nm room st).set lv ((st.filter fun s => s.lot.site.toList == nm.toList && s.lot.level == (lv : Int)) ++ [s]) := by
  apply List.ext_getElem
  · simp [levels_len]
  · intro i h1 h2
    have hi : i < room := by simpa [levels_len] using h1
    rw [List.getElem_set]
    unfold levelsP
    simp only [List.getElem_map, List.getElem_range, List.filter_append]
    split
    · rename_i e
      subst e
      simp [h, hl]
    · rename_i e
      have : (s.lot.level == (i : Int)) = false := by rw [beq_eq_false_iff_ne]; omega
      simp [this]
theorem nth_filter {α : Type} {p : α → Bool} : ∀ {l : List α} {i : Nat} {x : α}, l[i]? = some x → p x = true → (l.filter p)[(l.take i).countP p]? = some x
  | [], _, _, h, _ => by simp at h
  | y :: l, 0, x, h, hp => by
    simp only [List.getElem?_cons_zero, Option.some.injEq] at h
    subst h
    simp [hp]
  | y :: l, i + 1, x, h, hp => by
    have ih := nth_filter (l := l) (i := i) (by simpa using h) hp
    rw [List.take_succ_cons]
    cases hy : p y
    · rw [List.filter_cons, hy, if_neg Bool.false_ne_true, List.countP_cons_of_neg (by simp [hy])]
      exact ih
    · rw [List.filter_cons, hy, if_pos rfl, List.countP_cons_of_pos hy]
      simpa using ih
end Go.Proofs.YtpohkolapgofdaaGreat
