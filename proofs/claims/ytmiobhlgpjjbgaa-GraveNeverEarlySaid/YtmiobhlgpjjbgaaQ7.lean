/- Plain law: a remain's stays follow each other without gaps; on a day the last one that has begun is its lot. -/
/- Plain law of GraveNeverEarly: what an accepted event finds. -/
import Derived.Test.YtmiobhlgpjjbgaaLD
import Derived.Test.YtmiobhlgpjjbgaaF4
import Derived.Test.YtmiobhlgpjjbgaaH4
import Derived.Test.YtmiobhlgpjjbgaaB6
namespace Go.Proofs.Ytmiobhlgpjjbgaa
open Go.RowKit

def closeS (nm : ByteArray) (d : Int) (s : Stay) : Stay := if s.lot.remain.toList == nm.toList && decide (s.till < 0) then { s with till := d } else s
theorem closeS_lot (nm : ByteArray) (d : Int) (s : Stay) : (closeS nm d s).lot = s.lot := by unfold closeS; split <;> rfl
theorem closeAt_map {k : Bk} {ls : List Lot} {ss : List Site} (h : Rel k ls ss) (nm : ByteArray) (d : Int) : closeAt (mget eqS nm k.m) d k.st = k.st.map (closeS nm d) := by
  apply List.ext_getElem?
  intro j
  rw [List.getElem?_map]
  cases hs : k.st[j]? with
  | none =>
    have : k.st.length ≤ j := List.getElem?_eq_none_iff.1 hs
    simp only [Option.map_none]
    exact List.getElem?_eq_none_iff.2 (by rw [closeAt_len]; exact this)
  | some s =>
    simp only [Option.map_some]
    cases hm : mget eqS nm k.m with
    | none =>
      simp only [closeAt, hs, Option.some.injEq]
      unfold closeS
      rw [if_neg]
      simp only [Bool.and_eq_true, decide_eq_true_eq, not_and]
      intro h1 h2
      have h3 := h.closed j s hs h2
      rw [bytes_ext (eq_of_beq h1)] at h3
      rw [h3] at hm
      cases hm
    | some i =>
      obtain ⟨n, s', rfl, h1, h2, h3⟩ := h.opened _ _ hm
      simp only [closeAt, List.getElem?_modify, hs, Option.map_eq_map, Option.map_some, Option.some.injEq, Int.toNat_natCast]
      unfold closeS
      by_cases hnj : n = j
      · subst hnj
        rw [hs] at h1
        cases h1
        rw [if_pos rfl, if_pos (by simp [h2, h3])]
      · rw [if_neg hnj, if_neg]
        simp only [Bool.and_eq_true, decide_eq_true_eq, not_and]
        intro g1 g2
        have g3 := h.closed j s hs g2
        rw [bytes_ext (eq_of_beq g1), hm] at g3
        simp at g3
        omega

/-- Stays that follow each other without gaps, the last one without an end. -/
def chainP : List Stay → Prop
  | [] => True
  | [a] => a.till = -1
  | a :: b :: r => a.till = b.lot.since ∧ chainP (b :: r)
theorem chain_add {nm : ByteArray} {d : Int} {x : Lot} (hx : x.since = d) : ∀ {l : List Stay}, chainP l → (∀ a ∈ l, 0 ≤ a.lot.since ∧ a.lot.remain = nm) → chainP (l.map (closeS nm d) ++ [⟨x, -1⟩])
  | [], _, _ => rfl
  | [a], h, hr => by
    have h1 : a.till = -1 := h
    have h2 := (hr a (by simp)).2
    have h3 : closeS nm d a = { a with till := d } := by unfold closeS; rw [if_pos (by simp [h1, h2])]
    simp only [List.map_cons, List.map_nil, List.cons_append, List.nil_append, h3]
    exact ⟨hx.symm, rfl⟩
  | a :: b :: r, h, hr => by
    obtain ⟨h1, h2⟩ := h
    have h3 := (hr b (by simp)).1
    have h4 : closeS nm d a = a := by unfold closeS; rw [if_neg (by simp; omega)]
    have ih := chain_add (nm := nm) hx h2 fun c hc => hr c (by simp [hc])
    simp only [List.map_cons, List.cons_append, h4] at ih ⊢
    exact ⟨by rw [closeS_lot]; exact h1, ih⟩
theorem errorP_head {k : Bk} {ss : List Site} {rs : List Rest} {e : Event} (h : (errorP k ss rs e).2 = 0) : (errorP k ss rs e).1.since = e.day ∧ (errorP k ss rs e).1.remain = e.remain ∧ 0 ≤ e.day := by
  have hd : 0 ≤ e.day := by
    have hc : checkEventP e = 0 := by
      unfold errorP at h
      split at h
      · exact h
      · rename_i hx; simpa using hx
    exact (checkEvent_ok hc).2.2.1
  unfold errorP at h ⊢
  split at h
  · rename_i hc
    dsimp only at h
    rw [h] at hc
    simp at hc
  rename_i g1
  rw [if_neg g1]
  split at h
  · simp at h
  rename_i g2
  rw [if_neg g2]
  unfold errorQ at h ⊢
  split at h
  · rename_i g3
    rw [if_pos g3]
    split at h
    · simp at h
    rename_i g4
    rw [if_neg g4]
    split at h
    · simp at h
    rename_i g5
    rw [if_neg g5]
    split at h
    · simp at h
    rename_i g6
    rw [if_neg g6]
    split at h
    · rename_i hc
      dsimp only at h
      rw [h] at hc
      simp at hc
    rename_i g7
    rw [if_neg g7]
    exact ⟨rfl, rfl, hd⟩
  · rename_i g3
    rw [if_neg g3]
    split at h
    · simp at h
    rename_i g4
    rw [if_neg g4]
    split at h
    · simp at h
    rename_i g5
    rw [if_neg g5]
    split
    · exact ⟨rfl, rfl, hd⟩
    rename_i g6
    rw [if_neg g6] at h
    split
    · exact ⟨rfl, rfl, hd⟩
    rename_i g7
    rw [if_neg g7] at h
    split at h
    · simp at h
    rename_i g8
    rw [if_neg g8]
    split at h
    · simp at h
    rename_i g9
    rw [if_neg g9]
    split at h
    · simp at h
    rename_i g10
    rw [if_neg g10]
    exact ⟨rfl, rfl, hd⟩

theorem staysP_map (nm nm' : ByteArray) (d : Int) (st : List Stay) : staysP nm (st.map (closeS nm' d)) = (staysP nm st).map (closeS nm' d) := by
  unfold staysP
  rw [List.filter_map]
  congr 1
  apply List.filter_congr
  intro s _
  simp only [Function.comp, closeS_lot]
theorem map_closeS_other {nm nm' : ByteArray} {d : Int} (hne : (nm.toList == nm'.toList) = false) (st : List Stay) : (staysP nm st).map (closeS nm' d) = staysP nm st := by
  rw [List.map_congr_left (g := id), List.map_id]
  intro s hs
  unfold staysP at hs
  have h1 := (List.mem_filter.1 hs).2
  unfold closeS
  rw [eq_of_beq h1, hne]
  simp
/-- What holds of the stays of a book behind accepted events. -/
structure Chn (k : Bk) : Prop where
  chain : ∀ nm, chainP (staysP nm k.st)
  since : ∀ s ∈ k.st, 0 ≤ s.lot.since
  lot : ∀ nm, lotK k nm = ((staysP nm k.st).map (·.lot)).getLast?
theorem chn0 (A : Option Addr) (n c : Nat) (R : Option Addr) (rn rc : Nat) (c0 c1 c2 : Int) : Chn (bk0 A n c R rn rc c0 c1 c2) := ⟨fun _ => trivial, fun _ h => (by cases h), fun _ => rfl⟩
theorem chn_add {k : Bk} {ls : List Lot} {ss : List Site} {rs : List Rest} {e : Event} (hC : Chn k) (hR : Rel k ls ss) (hI : Inv k ss) (h0 : (errorP k ss rs e).2 = 0) : Chn (addK k e (errorP k ss rs e).1) := by
  obtain ⟨h1, h2, h3⟩ := errorP_head h0
  generalize (errorP k ss rs e).1 = l at *
  have hst : (addK k e l).st = k.st.map (closeS e.remain e.day) ++ [⟨l, -1⟩] := by
    show closeAt (mget eqS e.remain k.m) e.day k.st ++ [⟨l, -1⟩] = _
    rw [closeAt_map hR]
  have hsp : ∀ nm, staysP nm (addK k e l).st = (staysP nm k.st).map (closeS e.remain e.day) ++ (if l.remain.toList == nm.toList then [⟨l, -1⟩] else []) := fun nm => by
    rw [hst, staysP, List.filter_append]
    have := staysP_map nm e.remain e.day k.st
    rw [staysP] at this
    rw [this]
    congr 1
    cases hq : (l.remain.toList == nm.toList) <;> simp [hq]
  refine ⟨fun nm => ?_, fun s hs => ?_, fun nm => ?_⟩
  · rw [hsp]
    cases hq : (l.remain.toList == nm.toList)
    · rw [map_closeS_other (by rw [← h2]; rw [beq_eq_false_iff_ne] at hq ⊢; exact fun e => hq e.symm), if_neg Bool.false_ne_true, List.append_nil]
      exact hC.chain nm
    · have hnm : e.remain = nm := by rw [← h2]; exact bytes_ext (eq_of_beq hq)
      subst hnm
      rw [if_pos rfl]
      refine chain_add h1 (hC.chain _) fun a ha => ?_
      unfold staysP at ha
      obtain ⟨ha1, ha2⟩ := List.mem_filter.1 ha
      exact ⟨hC.since a ha1, bytes_ext (eq_of_beq ha2)⟩
  · rw [hst] at hs
    rcases List.mem_append.1 hs with hs | hs
    · obtain ⟨s', hs', rfl⟩ := List.mem_map.1 hs
      rw [closeS_lot]
      exact hC.since s' hs'
    · have : s = ⟨l, -1⟩ := by simpa using hs
      subst this
      dsimp only
      omega
  · rw [lotK_add hI, hsp, hC.lot nm]
    have hm : ((staysP nm k.st).map (closeS e.remain e.day)).map (·.lot) = (staysP nm k.st).map (·.lot) := by
      rw [List.map_map]
      apply List.map_congr_left
      intro s _
      exact closeS_lot _ _ _
    rw [List.map_append, hm]
    unfold eqS
    rw [← h2]
    by_cases hq : nm.toList = l.remain.toList
    · simp [hq]
    · have hq' : ¬ l.remain.toList = nm.toList := fun e => hq e.symm
      simp [hq, hq']
/-- The lots that a remain had, up to a day. -/
def lotsOn (nm : ByteArray) (day : Int) (st : List Stay) : List Lot := ((staysP nm st).map (·.lot)).filter fun l => decide (l.since ≤ day)
theorem staysP_lots {nm : ByteArray} : ∀ {st st' : List Stay}, st.map (·.lot) = st'.map (·.lot) → (staysP nm st).map (·.lot) = (staysP nm st').map (·.lot)
  | [], [], _ => rfl
  | [], _ :: _, h => by simp at h
  | _ :: _, [], h => by simp at h
  | a :: l, b :: l', h => by
    simp only [List.map_cons, List.cons.injEq] at h
    have ih := staysP_lots (nm := nm) h.2
    unfold staysP at ih ⊢
    rw [List.filter_cons, List.filter_cons, h.1]
    split
    · simp only [List.map_cons, h.1, ih]
    · exact ih
theorem closeAt_lots (i : Option Int) (d : Int) (st : List Stay) : (closeAt i d st).map (·.lot) = st.map (·.lot) := by
  apply List.ext_getElem?
  intro j
  rw [List.getElem?_map, List.getElem?_map, closeAt_lot]
theorem lots_addK (nm : ByteArray) (k : Bk) (e : Event) (l : Lot) : (staysP nm (addK k e l).st).map (·.lot) = (staysP nm k.st).map (·.lot) ++ (if l.remain.toList == nm.toList then [l] else []) := by
  show (staysP nm (closeAt (mget eqS e.remain k.m) e.day k.st ++ [⟨l, -1⟩])).map (·.lot) = _
  have h1 : staysP nm (closeAt (mget eqS e.remain k.m) e.day k.st ++ [⟨l, -1⟩]) = staysP nm (closeAt (mget eqS e.remain k.m) e.day k.st) ++ (if l.remain.toList == nm.toList then [⟨l, -1⟩] else []) := by
    unfold staysP
    rw [List.filter_append]
    congr 1
    cases hq : (l.remain.toList == nm.toList) <;> simp [hq]
  rw [h1, List.map_append, staysP_lots (closeAt_lots _ _ _)]
  congr 1
  split <;> rfl
theorem adds_chn {ss : List Site} {rs : List Rest} (hroom : ∀ s ∈ ss, s.room ≤ 12) : ∀ (es : List Event) (k : Bk) (ls : List Lot), Rel k ls ss → Inv k ss → Chn k → (addsP ss rs k es).2 = 0 → Chn (addsP ss rs k es).1
  | [], _, _, _, _, hC, _ => hC
  | e :: l, k, ls, hR, hI, hC, h => by
    unfold addsP at h ⊢
    split at h
    · rename_i hx
      dsimp only at h
      rw [h] at hx
      simp at hx
    rename_i hx
    rw [if_neg hx]
    have hx0 : (errorP k ss rs e).2 = 0 := by simpa using hx
    exact adds_chn hroom l _ _ (hR.add hI hroom hx0) (inv_add hI (Prod.ext rfl hx0)) (chn_add hC hR hI hx0) h
theorem adds_lotsOn {ss : List Site} {rs : List Rest} {nm : ByteArray} {day : Int} : ∀ (es : List Event) (k : Bk), (addsP ss rs k es).2 = 0 → (∀ x ∈ es, day < x.day) → lotsOn nm day (addsP ss rs k es).1.st = lotsOn nm day k.st
  | [], _, _, _ => rfl
  | e :: l, k, h, hd => by
    unfold addsP at h ⊢
    split at h
    · rename_i hx
      dsimp only at h
      rw [h] at hx
      simp at hx
    rename_i hx
    rw [if_neg hx]
    have hx0 : (errorP k ss rs e).2 = 0 := by simpa using hx
    rw [adds_lotsOn l _ h fun x hx => hd x (by simp [hx])]
    obtain ⟨h1, h2, h3⟩ := errorP_head hx0
    have h4 := hd e (by simp)
    unfold lotsOn
    rw [lots_addK, List.filter_append]
    split
    · rw [List.filter_cons_of_neg (by simp; omega)]
      simp
    · simp
theorem adds_since {ss : List Site} {rs : List Rest} {day : Int} : ∀ (es : List Event) (k : Bk), (addsP ss rs k es).2 = 0 → (∀ x ∈ es, x.day ≤ day) → (∀ l ∈ k.st.map (·.lot), l.since ≤ day) → ∀ l ∈ (addsP ss rs k es).1.st.map (·.lot), l.since ≤ day
  | [], _, _, _, hk => hk
  | e :: l, k, h, hd, hk => by
    unfold addsP at h ⊢
    split at h
    · rename_i hx
      dsimp only at h
      rw [h] at hx
      simp at hx
    rename_i hx
    rw [if_neg hx]
    have hx0 : (errorP k ss rs e).2 = 0 := by simpa using hx
    refine adds_since l _ h (fun x hx => hd x (by simp [hx])) ?_
    obtain ⟨h1, h2, h3⟩ := errorP_head hx0
    intro t ht
    have ht' : t ∈ (closeAt (mget eqS e.remain k.m) e.day k.st ++ [(⟨(errorP k ss rs e).1, -1⟩ : Stay)]).map (fun s : Stay => s.lot) := ht
    rw [List.map_append, closeAt_lots] at ht'
    rcases List.mem_append.1 ht' with ht' | ht'
    · exact hk t ht'
    · have : t = (errorP k ss rs e).1 := by simpa using ht'
      rw [this, h1]
      exact hd e (by simp)
theorem adds_append {ss : List Site} {rs : List Rest} : ∀ (es es' : List Event) (k : Bk), (addsP ss rs k es).2 = 0 → addsP ss rs k (es ++ es') = addsP ss rs (addsP ss rs k es).1 es'
  | [], _, _, _ => rfl
  | e :: l, es', k, h => by
    unfold addsP at h
    split at h
    · rename_i hx
      dsimp only at h
      rw [h] at hx
      simp at hx
    rename_i hx
    rw [List.cons_append]
    have h1 : addsP ss rs k (e :: (l ++ es')) = addsP ss rs (addK k e (errorP k ss rs e).1) (l ++ es') := by
      conv => lhs; unfold addsP
      rw [if_neg hx]
    have h2 : addsP ss rs k (e :: l) = addsP ss rs (addK k e (errorP k ss rs e).1) l := by
      conv => lhs; unfold addsP
      rw [if_neg hx]
    rw [h1, h2]
    exact adds_append l es' _ h
theorem mem_upToE {day : Int} : ∀ {es : List Event}, ∀ e ∈ upToE day es, e.day ≤ day
  | [], _, h => by cases h
  | x :: l, e, h => by
    unfold upToE at h
    by_cases hd : x.day ≤ day
    · rw [List.takeWhile_cons_of_pos (by simpa using hd)] at h
      rcases List.mem_cons.1 h with rfl | h
      · exact hd
      · exact mem_upToE e h
    · rw [List.takeWhile_cons_of_neg (by simpa using hd)] at h
      cases h
theorem drop_upToE {ss : List Site} {rs : List Rest} {day : Int} : ∀ (es : List Event) (k : Bk), (addsP ss rs k es).2 = 0 → ∃ post, es = upToE day es ++ post ∧ ∀ e ∈ post, day < e.day
  | [], _, _ => ⟨[], rfl, fun _ h => by cases h⟩
  | e :: l, k, h => by
    have hd := adds_day (e :: l) k h
    have h' := h
    unfold addsP at h'
    split at h'
    · rename_i hx
      dsimp only at h'
      rw [h'] at hx
      simp at hx
    by_cases hday : e.day ≤ day
    · obtain ⟨post, h1, h2⟩ := drop_upToE (day := day) l _ h'
      refine ⟨post, ?_, h2⟩
      unfold upToE at h1 ⊢
      rw [List.takeWhile_cons_of_pos (by simpa using hday), List.cons_append, ← h1]
    · refine ⟨e :: l, ?_, fun x hx => ?_⟩
      · unfold upToE
        rw [List.takeWhile_cons_of_neg (by simpa using hday)]
        rfl
      · rcases List.mem_cons.1 hx with rfl | hx
        · omega
        · have h2 := adds_day l _ h' x hx
          have e2 : (addK k e (errorP k ss rs e).1).day = e.day := rfl
          omega

/-- What the law GraveStaysOn asks. -/
theorem stays_on {ss : List Site} {rs : List Rest} {A R : Option Addr} {n c rn rc : Nat} {c0 c1 c2 : Int} {es : List Event} (h : rCheckP c0 c1 c2 ss rs es = 0) (nm : ByteArray) (day : Int) :
    chainP (staysP nm (readP ss rs (bk0 A n c R rn rc c0 c1 c2) es).1.st) ∧ lotK (upToP ss rs day (bk0 A n c R rn rc c0 c1 c2) es) nm = (lotsOn nm day (readP ss rs (bk0 A n c R rn rc c0 c1 c2) es).1.st).getLast? := by
  obtain ⟨_, _, h3, h4, h5, h6⟩ := (read_check ss rs A R n c rn rc c0 c1 c2 es).2 h
  obtain ⟨g1, g2, g3, g4⟩ := upTo_check (A := A) (R := R) (n := n) (c := c) (rn := rn) (rc := rc) h day
  have hroom := yard_rooms h5
  rw [h3, g1]
  have c1' := adds_chn (rs := rs) hroom es _ _ (rel0 A n c R rn rc c0 c1 c2 ss) (inv0 _ _ _ _ _ _ _ _ _ _) (chn0 _ _ _ _ _ _ _ _ _) h4
  have c2' := adds_chn (rs := rs) hroom (upToE day es) _ _ (rel0 A n c R rn rc c0 c1 c2 ss) (inv0 _ _ _ _ _ _ _ _ _ _) (chn0 _ _ _ _ _ _ _ _ _) g4
  refine ⟨c1'.chain nm, ?_⟩
  obtain ⟨post, p1, p2⟩ := drop_upToE (day := day) es _ h4
  have e1 : addsP ss rs (bk0 A n c R rn rc c0 c1 c2) es = addsP ss rs (addsP ss rs (bk0 A n c R rn rc c0 c1 c2) (upToE day es)).1 post := by
    conv => lhs; rw [p1]
    exact adds_append _ _ _ g4
  have e2 : (addsP ss rs (addsP ss rs (bk0 A n c R rn rc c0 c1 c2) (upToE day es)).1 post).2 = 0 := by rw [← e1]; exact h4
  rw [e1, adds_lotsOn post _ e2 p2, c2'.lot nm]
  congr 1
  unfold lotsOn
  rw [List.filter_eq_self.2]
  intro l hl
  have := adds_since (day := day) (upToE day es) _ g4 mem_upToE (fun l h => by cases h) l (by
    obtain ⟨s, hs, rfl⟩ := List.mem_map.1 hl
    unfold staysP at hs
    exact List.mem_map.2 ⟨s, (List.mem_filter.1 hs).1, rfl⟩)
  simpa using this

/-- The number of the last stay that has begun by a day. -/
def lastGo (day : Int) : Nat → Int → List Stay → Int
  | _, la, [] => la
  | i, la, s :: r => lastGo day (i + 1) (if decide (s.lot.since ≤ day) then (i : Int) else la) r
def LastOk (l : List Stay) (day : Int) (i : Nat) (la : Int) : Prop :=
  (la = -1 ∧ ((l.take i).map (·.lot)).filter (fun x => decide (x.since ≤ day)) = []) ∨
  (∃ (n : Nat) (s : Stay), la = (n : Int) ∧ n < i ∧ l[n]? = some s ∧ (((l.take i).map (·.lot)).filter fun x => decide (x.since ≤ day)).getLast? = some s.lot)
theorem lastOk_step {l : List Stay} {day : Int} {i : Nat} {la : Int} {s : Stay} (hi : l[i]? = some s) (h : LastOk l day i la) : LastOk l day (i + 1) (if decide (s.lot.since ≤ day) then (i : Int) else la) := by
  have ht : l.take (i + 1) = l.take i ++ [s] := by
    have hlt := (List.getElem?_eq_some_iff.1 hi).1
    rw [List.take_succ_eq_append_getElem hlt, (List.getElem?_eq_some_iff.1 hi).2]
  unfold LastOk
  rw [ht, List.map_append, List.filter_append]
  by_cases hd : s.lot.since ≤ day
  · rw [if_pos (by simpa using hd)]
    refine .inr ⟨i, s, rfl, by omega, hi, ?_⟩
    simp [hd]
  · rw [if_neg (by simpa using hd)]
    have h0 : ([s].map (·.lot)).filter (fun x => decide (x.since ≤ day)) = [] := by simp; omega
    rw [h0, List.append_nil]
    rcases h with h | ⟨n, s', h1, h2, h3, h4⟩
    · exact .inl h
    · exact .inr ⟨n, s', h1, by omega, h3, h4⟩
end Go.Proofs.Ytmiobhlgpjjbgaa
namespace Go.Proofs.Ytmiobhlgpjjbgaa
open Go.RowKit

theorem adds_sorted {ss : List Site} {rs : List Rest} : ∀ (es : List Event) (k : Bk), (addsP ss rs k es).2 = 0 → es.Pairwise fun a b => a.day ≤ b.day
  | [], _, _ => List.Pairwise.nil
  | e :: l, k, h => by
    unfold addsP at h
    cases hq : ((errorP k ss rs e).2 != 0)
    · rw [hq, if_neg Bool.false_ne_true] at h
      exact List.pairwise_cons.2 ⟨adds_day l _ h, adds_sorted l _ h⟩
    · rw [hq, if_pos rfl] at h
      dsimp only at h
      simp [h] at hq
theorem play_ge {ss : List Site} {rs : List Rest} : ∀ (es : List Event) (k : Bk) (i : Nat), i ≤ (playP ss rs k i es).2.1 ∧ (playP ss rs k i es).2.1 ≤ i + es.length
  | [], _, _ => ⟨Nat.le_refl _, Nat.le_refl _⟩
  | e :: l, k, i => by
    unfold playP
    split
    · exact ⟨Nat.le_refl _, Nat.le_add_right _ _⟩
    · obtain ⟨h1, h2⟩ := play_ge (ss := ss) (rs := rs) l (addK k e (errorP k ss rs e).1) (i + 1)
      simp only [List.length_cons]
      exact ⟨by omega, by omega⟩
theorem play_at {ss : List Site} {rs : List Rest} : ∀ (es : List Event) (k : Bk) (i j : Nat) (e : Event), i + j < (playP ss rs k i es).2.1 → es[j]? = some e → (addsP ss rs k (es.take j)).2 = 0 ∧ (errorP (addsP ss rs k (es.take j)).1 ss rs e).2 = 0
  | [], _, _, _, _, _, he => by simp at he
  | x :: l, k, i, j, e, hj, he => by
    unfold playP at hj
    cases hq : ((errorP k ss rs x).2 != 0)
    · rw [hq, if_neg Bool.false_ne_true] at hj
      cases j with
      | zero =>
        simp only [List.getElem?_cons_zero, Option.some.injEq] at he
        subst he
        exact ⟨rfl, show (errorP k ss rs x).2 = 0 by simpa using hq⟩
      | succ j =>
        have h := play_at (ss := ss) (rs := rs) l (addK k x (errorP k ss rs x).1) (i + 1) j e (by omega) (by simpa using he)
        rw [List.take_succ_cons]
        unfold addsP
        rw [hq, if_neg Bool.false_ne_true]
        exact h
    · rw [hq, if_pos rfl] at hj
      dsimp only at hj
      omega
theorem upToE_all {day : Int} : ∀ {es : List Event}, (∀ x ∈ es, x.day ≤ day) → upToE day es = es
  | [], _ => rfl
  | e :: l, h => by
    unfold upToE
    rw [List.takeWhile_cons_of_pos (by simpa using h e (by simp))]
    exact congrArg _ (upToE_all fun x hx => h x (by simp [hx]))
section
variable {ss : List Site} {rs : List Rest} {A R : Option Addr} {n c rn rc : Nat} {c0 c1 c2 : Int} {es : List Event}
theorem early_at (A R : Option Addr) (n c rn rc : Nat) (hcy : checkYardP ss rs c0 c1 c2 = 0) (hl : ¬ 300 < (es.length : Int)) {j : Nat} {e : Event} (hj : j < (playP ss rs (bk0 A n c R rn rc c0 c1 c2) 0 es).2.1) (he : es[j]? = some e) :
    (e.kind ≠ 0 → ∃ t, whereR (onDayR ss rs (bk0 A n c R rn rc c0 c1 c2) (es.take j) e.day) e.remain = (t, 0) ∧ t.state ≠ 2 ∧ t.state ≠ 3) ∧
    (e.kind = 1 ∨ e.kind = 3 ∨ e.kind = 4 → e.order = false → ∃ d, restOverR ss rs (readP ss rs (bk0 A n c R rn rc c0 c1 c2) (es.take j)) e.remain = (d, 0) ∧ d ≤ e.day) := by
  obtain ⟨h1, h2⟩ := play_at (ss := ss) (rs := rs) es (bk0 A n c R rn rc c0 c1 c2) 0 j e (by omega) he
  have hr : readP ss rs (bk0 A n c R rn rc c0 c1 c2) (es.take j) = addsP ss rs (bk0 A n c R rn rc c0 c1 c2) (es.take j) := by
    have hrd : readP ss rs (bk0 A n c R rn rc c0 c1 c2) (es.take j) = if checkYardP ss rs c0 c1 c2 != 0 then (bk0 A n c R rn rc c0 c1 c2, checkYardP ss rs c0 c1 c2) else if decide (300 < ((es.take j).length : Int)) then (bk0 A n c R rn rc c0 c1 c2, 8) else addsP ss rs (bk0 A n c R rn rc c0 c1 c2) (es.take j) := rfl
    rw [hrd, if_neg (by simp [hcy]), if_neg (by simp; omega)]
  have hX : rCheckP c0 c1 c2 ss rs (es.take j) = 0 := by
    rw [← (read_check ss rs A R n c rn rc c0 c1 c2 (es.take j)).1, hr]
    exact h1
  obtain ⟨hR, hI, _⟩ := (read_check ss rs A R n c rn rc c0 c1 c2 (es.take j)).2 hX
  rw [hr] at hR hI
  have hdays : ∀ x ∈ es.take j, x.day ≤ e.day := by
    have h3 : (addsP ss rs (bk0 A n c R rn rc c0 c1 c2) (es.take j ++ [e])).2 = 0 := by
      rw [adds_append _ _ _ h1]
      unfold addsP
      rw [if_neg (by simp [h2])]
      rfl
    have h4 := adds_sorted _ _ h3
    exact fun x hx => (List.pairwise_append.1 h4).2.2 x hx e (by simp)
  have hup : upToP ss rs e.day (bk0 A n c R rn rc c0 c1 c2) (es.take j) = (addsP ss rs (bk0 A n c R rn rc c0 c1 c2) (es.take j)).1 := by
    rw [(upTo_same (day := e.day) (es.take j) _ h1).1, upToE_all hdays]
  rw [hr]
  unfold onDayR
  rw [hr, hup, h1]
  generalize (addsP ss rs (bk0 A n c R rn rc c0 c1 c2) (es.take j)) = q at *
  obtain ⟨k, er⟩ := q
  dsimp only at *
  subst h1
  unfold errorP at h2
  split at h2
  · rename_i hx
    have hx' : checkEventP e ≠ 0 := by simpa using hx
    exact absurd h2 hx'
  rename_i hce
  split at h2
  · simp at h2
  have hday : inR e.day 0 200000 = true := by
    unfold checkEventP at hce
    cases hd : inR e.day 0 200000
    · simp [hd] at hce
    · rfl
  simp only [bne_self_eq_false, Bool.false_eq_true, if_false, hday, Bool.not_true]
  unfold errorQ at h2
  have hw : ∀ t, lotK k e.remain = some t → whereR (k, 0) e.remain = (t, 0) := fun t ht => by
    unfold whereR
    dsimp only
    rw [if_neg (by simp), ht]
  have hrs : ∀ t, lotK k e.remain = some t → t.state = 1 → ∀ s, findSite t.site ss = some s → restOverR ss rs (k, 0) e.remain = (restOverP rs s t, 0) := fun t ht h1 s hs => by
    unfold restOverR restOfP
    dsimp only
    rw [if_neg (by simp), ht]
    dsimp only
    rw [if_neg (by simp [h1]), hs]
  cases hk : (e.kind == 0 || e.kind == 2)
  · rw [hk, if_neg Bool.false_ne_true] at h2
    cases ht : lotK k e.remain with
    | none => rw [ht] at h2; simp at h2
    | some t =>
      rw [ht] at h2
      simp only [Option.isSome_some, Bool.not_true, Bool.false_eq_true, if_false, Option.getD_some] at h2
      cases hs1 : (t.state != 1)
      · rw [hs1, if_neg Bool.false_ne_true] at h2
        have hst : t.state = 1 := by simpa using hs1
        refine ⟨fun _ => ⟨t, hw t ht, by omega, by omega⟩, fun _ ho => ?_⟩
        obtain ⟨⟨s, hs⟩, _⟩ := hI.lies e.remain t ht hst
        refine ⟨_, hrs t ht hst s hs, ?_⟩
        have hlp : liesP k rs ss t e.day e.order = 0 := by
          split at h2
          · exact h2
          split at h2
          · exact h2
          split at h2
          · simp at h2
          split at h2
          · simp at h2
          split at h2
          · simp at h2
          · exact h2
        unfold liesP at hlp
        rw [hs] at hlp
        unfold openP at hlp
        dsimp only at hlp
        split at hlp
        · simp at hlp
        split at hlp
        · simp at hlp
        rename_i hx
        rw [ho] at hx
        simpa using hx
      · rw [hs1, if_pos rfl] at h2
        simp at h2
  · rw [hk, if_pos rfl] at h2
    refine ⟨fun hk0 => ?_, fun h => ?_⟩
    · have hk2 : e.kind = 2 := by simpa [hk0] using hk
      cases ht : lotK k e.remain with
      | none => rw [ht, hk2] at h2; simp at h2
      | some t =>
        rw [ht, hk2] at h2
        simp only [Option.isSome_some, Option.getD_some] at h2
        refine ⟨t, hw t ht, ?_⟩
        cases hs1 : (t.state != 0)
        · have : t.state = 0 := by simpa using hs1
          exact ⟨by omega, by omega⟩
        · have hne : ¬ t.state = 0 := by simpa using hs1
          simp [hne] at h2
    · simp at hk
      omega
end
end Go.Proofs.Ytmiobhlgpjjbgaa
