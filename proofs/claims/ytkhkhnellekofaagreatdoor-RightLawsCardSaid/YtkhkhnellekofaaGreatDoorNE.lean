/- Plain law of replays: up to a day; circles by way of records. -/
import Derived.Test.YtkhkhnellekofaaGreatDoorN9
set_option linter.unusedSimpArgs false
set_option linter.unusedVariables false
namespace Go.Proofs.YtkhkhnellekofaaGreatDoor
open Go.RowKit

theorem GoodSt.later {s : St} {a b : Int} (h : GoodSt s a) (hab : a ≤ b) : GoodSt s b :=
 { h with force := fun i j gi gj hi hj hp day hd h1 h2 => h.force i j gi gj hi hj hp day (by omega) h1 h2 }
theorem given_all : ∀ {l : List RPart} {out : Parts}, GoodParts out → (∀ p ∈ out, IsN 720720 p.2) → (∀ p ∈ l, 0 < p.rat ∧ IsN 720720 p.rat) →
    GoodParts (givenAll l out) ∧ (∀ p ∈ givenAll l out, IsN 720720 p.2) ∧ sumQ (givenAll l out) = sumQ out + sumQ (ratParts l)
 | [], out, h1, h2, _ => ⟨h1, h2, by simp only [givenAll, List.foldl_nil, ratParts, List.map_nil, sumQ]; grind⟩
 | p :: l, out, h1, h2, h => by
  obtain ⟨p1, p2⟩ := h p (by simp)
  have ih := given_all (l := l) (given_good (n := p.name) (q := p.rat) (by grind) h1) (given_isN p2 h2) fun q hq => h q (by simp [hq])
  have e : givenAll (p :: l) out = givenAll l (givenP out p.name p.rat) := rfl
  rw [e]
  refine ⟨ih.1, ih.2.1, ?_⟩
  rw [ih.2.2, sum_given]
  simp only [ratParts, List.map_cons, sumQ]
  grind
theorem parts_ok {all : Bool} {frm : ByteArray} {l : List RPart} (h : partsOk true all frm l = true) : (∀ p ∈ l, 0 < p.rat ∧ IsN 720720 p.rat ∧ isShareP 16 p.num p.den = true) ∧ sumQ (ratParts l) ≤ 1 ∧ (all = true → sumQ (ratParts l) = 1) ∧ ∀ p ∈ l, p.name ≠ frm := by
 unfold partsOk at h
 simp only [if_true, Bool.and_eq_true, List.all_eq_true, Bool.not_eq_true', decide_eq_true_eq, Bool.or_eq_true, bne_iff_ne, ne_eq, beq_iff_eq] at h
 obtain ⟨⟨_, hn⟩, ⟨hs, hle⟩, hall⟩ := h
 refine ⟨fun p hp => ?_, hle, fun ha => ?_, fun p hp => same_ne.1 (hn p hp)⟩
 · obtain ⟨h1, h2⟩ := hs p hp
   have h3 := share_rat h1
   refine ⟨?_, share_isN h1, h1⟩
   have hne : p.rat ≠ 0 := by
    intro k
    apply h2
    rw [← h3.1]
    unfold RPart.rat at k
    rw [k]
    rfl
   have hnn : 0 ≤ p.rat := h3.2.2.1
   grind
 · rcases hall with k | k
   · rw [ha] at k; cases k
   · exact k
theorem parts_will {all : Bool} {frm : ByteArray} {l : List RPart} (h : partsOk true all frm l = true) : WillOk (ratParts l) := by
 obtain ⟨h1, h2, _, _⟩ := parts_ok h
 refine ⟨fun p hp => ?_, fun p hp => ?_, h2⟩
 · obtain ⟨q, hq, rfl⟩ := List.mem_map.1 hp
   exact (h1 q hq).1
 · obtain ⟨q, hq, rfl⟩ := List.mem_map.1 hp
   exact (h1 q hq).2.1
theorem grant_keeps {s s' : St} {d : Deed} {last : Int} (h : GoodSt s last) (hd : OkD d) (hl : last ≤ d.day) (hk : d.kind = 0) (ht : grantP s d = (s', 0)) : GoodSt s' d.day := by
 have h := h.later hl
 unfold grantP at ht
 split at ht
 · simp at ht
 rename_i h1
 split at ht
 · simp at ht
 split at ht
 · simp at ht
 simp only [Prod.mk.injEq, and_true] at ht
 rw [← ht]
 have hx : graveIx s d.place d.day = none := by simpa using h1
 have hn := graveIx_none hx
 obtain ⟨hto, hpa⟩ := hd.parts (.inl hk)
 obtain ⟨p1, p2, p3, _⟩ := parts_ok hpa
 obtain ⟨g1, g2, g3⟩ := given_all (l := d.to) (out := []) good_nil (by simp) fun p hp => ⟨(p1 p hp).1, (p1 p hp).2.1⟩
 have g4 : sumQ (givenAll d.to []) = 1 := by
  rw [g3, p3 (by rw [hk]; rfl), sumQ]
  grind
 generalize hg : (⟨d.place, d.cls, if decide (0 < d.years) = true then afterP d.day d.years else -1, givenAll d.to [], []⟩ : Grave) = g
 have hgp : g.place = d.place := by rw [← hg]
 have hgood : GoodG g := by rw [← hg]; exact ⟨g1, small_of (by decide) (by decide) g2, .inr g4⟩
 refine { h with graves := fun x hx => ?_, force := fun i j gi gj hi hj hp day hday f1 f2 => ?_ }
 · rcases List.mem_append.1 hx with hx | hx
   · exact h.graves x hx
   · rw [List.mem_singleton.1 hx]; exact hgood
 · have hi : (s.graves ++ [g])[i]? = some gi := hi
   have hj : (s.graves ++ [g])[j]? = some gj := hj
   rw [List.getElem?_append] at hi hj
   split at hi <;> split at hj
   · exact h.force i j gi gj hi hj hp day hday f1 f2
   · exfalso
     have e : gj = g := by
      rw [List.getElem?_cons] at hj
      split at hj
      · exact (Option.some.inj hj).symm
      · simp at hj
     have := hn gi (List.mem_of_getElem? hi) (by rw [hp, e, hgp])
     rw [force_down hday f1] at this
     cases this
   · exfalso
     have e : gi = g := by
      rw [List.getElem?_cons] at hi
      split at hi
      · exact (Option.some.inj hi).symm
      · simp at hi
     have := hn gj (List.mem_of_getElem? hj) (by rw [← hp, e, hgp])
     rw [force_down hday f2] at this
     cases this
   · have := (List.getElem?_eq_some_iff.1 hi).1
     have := (List.getElem?_eq_some_iff.1 hj).1
     simp at *
     omega
theorem with_keeps {s : St} {i : Nat} {g g' : Grave} {day : Int} (h : GoodSt s day) (hi : s.graves[i]? = some g) (hg : GoodG g') (hp : g'.place = g.place) (hf : ∀ e, day ≤ e → inForceP g' e = true → inForceP g e = true) : GoodSt (s.withGrave i g') day := by
 have hil := (List.getElem?_eq_some_iff.1 hi).1
 refine { h with graves := fun x hx => ?_, force := fun a b ga gb ha hb hpl e he f1 f2 => ?_ }
 · rcases List.mem_or_eq_of_mem_set hx with hx | hx
   · exact h.graves x hx
   · rw [hx]; exact hg
 · have ha : (s.graves.set i g')[a]? = some ga := ha
   have hb : (s.graves.set i g')[b]? = some gb := hb
   rw [List.getElem?_set] at ha hb
   have one : ∀ (c : Nat) (gc : Grave), (if i = c then if i < s.graves.length then some g' else none else s.graves[c]?) = some gc → ∃ gc', s.graves[c]? = some gc' ∧ gc'.place = gc.place ∧ (inForceP gc e = true → inForceP gc' e = true) := by
    intro c gc hc
    by_cases hic : i = c
    · rw [if_pos hic, if_pos hil] at hc
      cases hc
      subst hic
      exact ⟨g, hi, hp.symm, hf e he⟩
    · rw [if_neg hic] at hc
      exact ⟨gc, hc, rfl, id⟩
   obtain ⟨ga', a1, a2, a3⟩ := one a ga ha
   obtain ⟨gb', b1, b2, b3⟩ := one b gb hb
   exact h.force a b ga' gb' a1 b1 (by rw [a2, b2, hpl]) e he (a3 f1) (b3 f2)
theorem grave_at {s : St} {i : Nat} {g : Grave} (h : s.graves[i]? = some g) : s.graves.getD i zeroG = g := by
 rw [List.getD_eq_getElem?_getD, h]
 rfl
theorem force_holders {g : Grave} {out : Parts} {died : List ByteArray} {e : Int} (hne : g.holders ≠ []) (h : inForceP { g with holders := out, died := died } e = true) : inForceP g e = true := by
 unfold inForceP at *
 simp only [Bool.and_eq_true] at *
 refine ⟨?_, h.2⟩
 cases hg : g.holders with
 | nil => exact absurd hg hne
 | cons _ _ => rfl
theorem transfer_keeps {s s' : St} {d : Deed} {last : Int} (h : GoodSt s last) (hd : OkD d) (hl : last ≤ d.day) (hk : d.kind = 1) (ht : transferP s d = (s', 0)) : GoodSt s' d.day := by
 have h := h.later hl
 unfold transferP at ht
 split at ht
 · simp at ht
 rename_i i hi
 obtain ⟨g, g1, g2, g3⟩ := graveIx_some hi
 rw [grave_at g1] at ht
 dsimp only at ht
 split at ht
 · simp at ht
 split at ht
 · simp at ht
 rename_i hs
 have hs : shareP g.holders d.frm ≠ 0 := by simpa using hs
 split at ht
 · simp at ht
 split at ht
 · simp at ht
 rename_i hb
 split at ht
 · simp at ht
 rename_i out ho
 simp only [Prod.mk.injEq, and_true] at ht
 rw [← ht]
 obtain ⟨hto, hpa⟩ := hd.parts (.inr (.inl hk))
 have hw := parts_will hpa
 have hgg := h.graves g (List.mem_of_getElem? g1)
 exact with_keeps h g1 (transfer_good hgg hs hw.pos hw.le (by simpa using hb) ho) rfl fun e _ hf => force_holders (died := g.died) (share_some hs) hf
theorem surrender_keeps {s s' : St} {d : Deed} {last : Int} (h : GoodSt s last) (hl : last ≤ d.day) (ht : surrenderP s d = (s', 0)) : GoodSt s' d.day := by
 have h := h.later hl
 unfold surrenderP at ht
 split at ht
 · simp at ht
 rename_i i hi
 obtain ⟨g, g1, g2, g3⟩ := graveIx_some hi
 rw [grave_at g1] at ht
 dsimp only at ht
 split at ht
 · simp at ht
 rename_i hs
 have hs : shareP g.holders d.frm ≠ 0 := by simpa using hs
 split at ht
 · simp at ht
 rename_i hb
 simp only [Prod.mk.injEq, and_true] at ht
 rw [← ht]
 have hgg := h.graves g (List.mem_of_getElem? g1)
 exact with_keeps h g1 (surrender_good hgg hs (by simpa using hb)) rfl fun e _ hf => force_holders (died := g.died) (share_some hs) hf
theorem renew_keeps {s s' : St} {d : Deed} {last : Int} (h : GoodSt s last) (hl : last ≤ d.day) (ht : renewP s d = (s', 0)) : GoodSt s' d.day := by
 have h := h.later hl
 unfold renewP at ht
 split at ht
 · simp at ht
 rename_i i hi
 obtain ⟨g, g1, g2, g3⟩ := graveIx_some hi
 rw [grave_at g1] at ht
 dsimp only at ht
 split at ht
 · simp at ht
 split at ht
 · simp at ht
 simp only [Prod.mk.injEq, and_true] at ht
 rw [← ht]
 generalize afterP g.fin d.years = fin at *
 have hgg := h.graves g (List.mem_of_getElem? g1)
 have hil := (List.getElem?_eq_some_iff.1 g1).1
 refine { h with graves := fun x hx => ?_, force := fun a b ga gb ha hb hpl e he f1 f2 => ?_ }
 · rcases List.mem_or_eq_of_mem_set hx with hx | hx
   · exact h.graves x hx
   · rw [hx]; exact ⟨hgg.good, hgg.small, hgg.one⟩
 · have ha : (s.graves.set i { g with fin := fin })[a]? = some ga := ha
   have hb : (s.graves.set i { g with fin := fin })[b]? = some gb := hb
   rw [List.getElem?_set] at ha hb
   have one : ∀ (c : Nat) (gc : Grave), (if i = c then if i < s.graves.length then some ({ g with fin := fin } : Grave) else none else s.graves[c]?) = some gc → ∃ gc', s.graves[c]? = some gc' ∧ gc'.place = gc.place ∧ (inForceP gc e = true → inForceP gc' d.day = true) := by
    intro c gc hc
    by_cases hic : i = c
    · rw [if_pos hic, if_pos hil] at hc
      cases hc
      subst hic
      exact ⟨g, g1, rfl, fun _ => g3⟩
    · rw [if_neg hic] at hc
      exact ⟨gc, hc, rfl, fun hf => force_down he hf⟩
   obtain ⟨ga', a1, a2, a3⟩ := one a ga ha
   obtain ⟨gb', b1, b2, b3⟩ := one b gb hb
   exact h.force a b ga' gb' a1 b1 (by rw [a2, b2, hpl]) d.day (Int.le_refl _) (a3 f1) (b3 f2)
end Go.Proofs.YtkhkhnellekofaaGreatDoor
namespace Go.Proofs.YtkhkhnellekofaaGreatDoor
open Go.RowKit

theorem name_one {d : Deed} (h : d.to.length = 1) : ∃ p, d.to = [p] ∧ toName d = p.name := by
 match hd : d.to, h with
 | [p], _ => exact ⟨p, rfl, by unfold toName; rw [hd]; rfl⟩
theorem one_ne {d : Deed} (hd : OkD d) (h : d.kind = 5 ∨ d.kind = 6 ∨ d.kind = 7) : noB (toName d) = false ∧ toName d ≠ d.frm ∧ noB d.frm = false := by
 obtain ⟨h1, h2⟩ := hd.one h
 obtain ⟨p, hp, hn⟩ := name_one h1
 have hnm := hd.names p (by rw [hp]; simp)
 rw [hn]
 refine ⟨name_not hnm, ?_, name_not (hd.frm (by omega))⟩
 unfold partsOk at h2
 simp only [Bool.and_eq_true, List.all_eq_true, Bool.not_eq_true'] at h2
 exact same_ne.1 (h2.1.2 p (by rw [hp]; simp))
theorem will_append (s : St) (f : ByteArray) (l : Parts) (n : ByteArray) : willOf { s with wills := s.wills ++ [(f, l)] } n = if sameB f n then l else willOf s n := by
 unfold willOf
 rw [List.reverse_append, List.reverse_singleton, List.singleton_append, List.find?_cons]
 split
 · rename_i h
   rw [if_pos h]; rfl
 · rename_i h
   rw [if_neg (by simpa using h)]
theorem will_keeps {s s' : St} {d : Deed} {last : Int} (h : GoodSt s last) (hd : OkD d) (hl : last ≤ d.day) (hk : d.kind = 4) (ht : willP s d = (s', 0)) : GoodSt s' d.day := by
 have h := h.later hl
 unfold willP at ht
 split at ht
 · simp at ht
 simp only [Prod.mk.injEq, and_true] at ht
 rw [← ht]
 obtain ⟨hto, hpa⟩ := hd.parts (.inr (.inr hk))
 refine { h with wills := fun n => ?_, willNames := fun w hw p hp => ?_ }
 · rw [will_append]
   split
   · exact parts_will hpa
   · exact h.wills n
 · rcases List.mem_append.1 hw with hw | hw
   · exact h.willNames w hw p hp
   · rw [List.mem_singleton.1 hw] at hp
     obtain ⟨q, hq, rfl⟩ := List.mem_map.1 hp
     exact name_not (hd.names q hq)
theorem renounce_keeps {s s' : St} {d : Deed} {last : Int} (h : GoodSt s last) (hl : last ≤ d.day) (ht : renounceP s d = (s', 0)) : GoodSt s' d.day := by
 have h := h.later hl
 unfold renounceP at ht
 split at ht
 · simp at ht
 split at ht
 · simp at ht
 simp only [Prod.mk.injEq, and_true] at ht
 rw [← ht]
 exact { h with }
theorem marry_keeps {s s' : St} {d : Deed} {last : Int} (h : GoodSt s last) (hd : OkD d) (hl : last ≤ d.day) (hk : d.kind = 7) (ht : marryP s d = (s', 0)) : GoodSt s' d.day := by
 have h := h.later hl
 unfold marryP at ht
 split at ht
 · simp at ht
 split at ht
 · simp at ht
 simp only [Prod.mk.injEq, and_true] at ht
 rw [← ht]
 obtain ⟨h1, h2, h3⟩ := one_ne hd (.inr (.inr hk))
 refine { h with marr := fun m hm => ?_ }
 rcases List.mem_append.1 hm with hm | hm
 · exact h.marr m hm
 · rw [List.mem_singleton.1 hm]
   exact ⟨h2.symm, h3, h1⟩
theorem child_keeps {s s' : St} {d : Deed} {last : Int} (h : GoodSt s last) (hd : OkD d) (hl : last ≤ d.day) (hk : d.kind = 6) (ht : childP s d = (s', 0)) : GoodSt s' d.day := by
 have h := h.later hl
 unfold childP at ht
 split at ht
 · simp at ht
 split at ht
 · simp at ht
 split at ht
 · simp at ht
 rename_i hn
 have hn : ¬ Desc s (toName d) d.frm := by simpa using hn
 simp only [Prod.mk.injEq, and_true] at ht
 rw [← ht]
 obtain ⟨h1, h2, h3⟩ := one_ne hd (.inr (.inl hk))
 refine { h with acyc := acyc_append h.acyc hn h2.symm, kids := fun c hc => ?_ }
 rcases List.mem_append.1 hc with hc | hc
 · exact h.kids c hc
 · rw [List.mem_singleton.1 hc]
   exact ⟨h3, h1⟩
theorem laws_go : ∀ {l : List Law} {b : Option Int}, lawsGo l b = 0 → ∀ x ∈ l, isShareP 16 x.num x.den = true
 | x :: l, b, h, y, hy => by
  unfold lawsGo at h
  split at h
  · rename_i hb
    simp [h] at hb
  · rename_i hb
    rcases List.mem_cons.1 hy with rfl | hy
    · unfold lawErr at hb
      split at hb
      · simp at hb
      split at hb
      · simp at hb
      · rename_i hq
        simpa using hq
    · exact laws_go h y hy
theorem law_share {laws : List Law} (h : checkLawsP laws = 0) (day : Int) : isShareP 16 (lawOnP laws day).num (lawOnP laws day).den = true := by
 unfold checkLawsP at h
 split at h
 · simp at h
 unfold lawOnP
 cases hl : (laws.filter fun x => decide (x.frm ≤ day)).getLast? with
 | none => decide
 | some x =>
  have hm := List.mem_of_getLast? hl
  exact laws_go h x (List.mem_filter.1 hm).1
theorem dies_at {s : St} {n : ByteArray} {day : Int} {heirs : Option Parts} : ∀ {l l' : List Grave} {k : Nat}, diesGo s n day heirs k l = some l' → l'.length = l.length ∧ ∀ (i : Nat) g', l'[i]? = some g' → ∃ g, l[i]? = some g ∧
    (g' = g ∧ heldP s n day (k + i) g = false ∨ heldP s n day (k + i) g = true ∧ ∃ h out, heirs = some h ∧ gainGo (shareP g.holders n) h (withoutP g.holders n) = some out ∧ g' = { g with holders := out, died := g.died ++ [n] })
 | [], l', k, h => by
  unfold diesGo at h
  cases h
  exact ⟨rfl, fun i g' hg => by simp at hg⟩
 | g :: l, l', k, h => by
  unfold diesGo at h
  have step : ∀ {r : List Grave} {g' : Grave}, diesGo s n day heirs (k + 1) l = some r → l' = g' :: r → (g' = g ∧ heldP s n day k g = false ∨ heldP s n day k g = true ∧ ∃ h out, heirs = some h ∧ gainGo (shareP g.holders n) h (withoutP g.holders n) = some out ∧ g' = { g with holders := out, died := g.died ++ [n] }) →
      l'.length = (g :: l).length ∧ ∀ (i : Nat) g', l'[i]? = some g' → ∃ x, (g :: l)[i]? = some x ∧ (g' = x ∧ heldP s n day (k + i) x = false ∨ heldP s n day (k + i) x = true ∧ ∃ h out, heirs = some h ∧ gainGo (shareP x.holders n) h (withoutP x.holders n) = some out ∧ g' = { x with holders := out, died := x.died ++ [n] }) := by
   intro r g' hr he hc
   obtain ⟨i1, i2⟩ := dies_at hr
   subst he
   refine ⟨by simp [i1], fun i x hx => ?_⟩
   cases i with
   | zero =>
    simp only [List.getElem?_cons_zero, Option.some.injEq] at hx
    subst hx
    exact ⟨g, rfl, hc⟩
   | succ i =>
    obtain ⟨y, y1, y2⟩ := i2 i x (by simpa using hx)
    exact ⟨y, by simpa using y1, by rw [show k + (i + 1) = k + 1 + i by omega]; exact y2⟩
  split at h
  · rename_i hh
    cases heirs with
    | none => simp at h
    | some hs =>
     dsimp only at h
     rw [Option.bind_eq_some_iff] at h
     obtain ⟨out, h1, h2⟩ := h
     rw [Option.map_eq_some_iff] at h2
     obtain ⟨r, h3, h4⟩ := h2
     exact step h3 h4.symm (.inr ⟨hh, hs, out, rfl, h1, rfl⟩)
  · rename_i hh
    rw [Option.map_eq_some_iff] at h
    obtain ⟨r, h3, h4⟩ := h
    exact step h3 h4.symm (.inl ⟨rfl, by simpa using hh⟩)
theorem death_keeps {laws : List Law} {s s' : St} {d : Deed} {last : Int} (h : GoodSt s last) (hd : OkD d) (hl : last ≤ d.day) (hk : d.kind = 8) (hlw : checkLawsP laws = 0) (ht : deathP laws s d = (s', 0)) : GoodSt s' d.day := by
 have h := h.later hl
 unfold deathP at ht
 split at ht
 · simp at ht
 split at ht
 · simp at ht
 rename_i gs hgs
 simp only [Prod.mk.injEq, and_true] at ht
 rw [← ht]
 obtain ⟨hlen, hat⟩ := dies_at hgs
 have one : ∀ (i : Nat) g', gs[i]? = some g' → ∃ g, s.graves[i]? = some g ∧ GoodG g' ∧ g'.place = g.place ∧ ∀ e, inForceP g' e = true → inForceP g e = true := by
  intro i g' hg'
  obtain ⟨g, g1, g2⟩ := hat i g' hg'
  have hgg := h.graves g (List.mem_of_getElem? g1)
  rcases g2 with ⟨rfl, _⟩ | ⟨hh, hs, out, e1, e2, rfl⟩
  · exact ⟨g', g1, hgg, rfl, fun _ => id⟩
  · unfold heldP at hh
    rw [Bool.and_eq_true] at hh
    have hs0 : shareP g.holders d.frm ≠ 0 := by simpa using hh.1
    obtain ⟨k1, k2, k3⟩ := estate_good (h.wills d.frm) (law_share hlw d.day) e1
    exact ⟨g, g1, inherit_good hgg hs0 k1 k2 e2, rfl, fun e => force_holders (share_some hs0)⟩
 refine { h with graves := fun x hx => ?_, force := fun a b ga gb ha hb hpl e he f1 f2 => ?_, dead := fun n hn => ?_ }
 · obtain ⟨i, hi⟩ := List.mem_iff_getElem?.1 hx
   exact (one i x hi).elim fun _ hg => hg.2.1
 · obtain ⟨ga', a1, _, a2, a3⟩ := one a ga ha
   obtain ⟨gb', b1, _, b2, b3⟩ := one b gb hb
   exact h.force a b ga' gb' a1 b1 (by rw [← a2, ← b2, hpl]) e he (a3 e f1) (b3 e f2)
 · rcases List.mem_append.1 hn with hn | hn
   · exact h.dead n hn
   · rw [List.mem_singleton.1 hn]
     exact name_not (hd.frm (by omega))
theorem take_keeps {laws : List Law} {s s' : St} {d : Deed} {last : Int} (h : GoodSt s last) (hd : OkD d) (hl : last ≤ d.day) (hlw : checkLawsP laws = 0) (ht : takeD laws s d = (s', 0)) : GoodSt s' d.day := by
 have hk := hd.kind
 unfold takeD at ht
 split at ht
 · rename_i k; exact grant_keeps h hd hl (by simpa using k) ht
 split at ht
 · rename_i k; exact transfer_keeps h hd hl (by simpa using k) ht
 split at ht
 · exact surrender_keeps h hl ht
 split at ht
 · exact renew_keeps h hl ht
 split at ht
 · rename_i k; exact will_keeps h hd hl (by simpa using k) ht
 split at ht
 · exact renounce_keeps h hl ht
 split at ht
 · rename_i k; exact child_keeps h hd hl (by simpa using k) ht
 split at ht
 · rename_i k; exact marry_keeps h hd hl (by simpa using k) ht
 · rename_i k0 k1 k2 k3 k4 k5 k6 k7
   simp only [beq_iff_eq] at k0 k1 k2 k3 k4 k5 k6 k7
   exact death_keeps h hd hl (by omega) hlw ht
end Go.Proofs.YtkhkhnellekofaaGreatDoor
namespace Go.Proofs.YtkhkhnellekofaaGreatDoor
open Go.RowKit

theorem share_cons (x : ByteArray × Rat) (l : Parts) (n : ByteArray) : shareP (x :: l) n = if sameB x.1 n then x.2 else shareP l n := by
 unfold shareP
 rw [List.find?_cons]
 split
 · rename_i h; rw [if_pos h]; rfl
 · rename_i h; rw [if_neg (by simpa using h)]
theorem share_given {n : ByteArray} {q : Rat} : ∀ {l : Parts}, GoodParts l → ∀ m, shareP (givenP l n q) m = if sameB m n then shareP l n + q else shareP l m
 | [], _, m => by
  unfold givenP
  split
  · rename_i h
    have : q = 0 := by simpa using h
    subst this
    split
    · rename_i hs; rw [same_iff.1 hs]; grind
    · rfl
  · rw [share_cons]
    by_cases hs : m = n
    · rw [if_pos (same_iff.2 hs.symm), if_pos (same_iff.2 hs)]
      show q = shareP [] n + q
      have : shareP [] n = 0 := rfl
      grind
    · rw [if_neg (by rw [same_iff]; exact fun e => hs e.symm), if_neg (by rw [same_iff]; exact hs)]
 | x :: r, ⟨h1, h2⟩, m => by
  have hr : GoodParts r := ⟨(List.pairwise_cons.1 h1).2, fun p hp => h2 p (by simp [hp])⟩
  have hx := (List.pairwise_cons.1 h1).1
  unfold givenP
  split
  · rename_i h
    have : q = 0 := by simpa using h
    subst this
    split
    · rename_i hs; rw [same_iff.1 hs]; grind
    · rfl
  · split
    · rename_i hl
      have hne := lessN_ne hl
      have ih := share_given (n := n) (q := q) hr m
      rw [share_cons, ih, share_cons, share_cons]
      by_cases hs : m = n
      · subst hs
        rw [if_neg (by rw [same_iff]; exact hne), if_pos (same_refl m), if_pos (same_refl m), if_neg (by rw [same_iff]; exact hne)]
      · rw [if_neg (c := sameB m n = true) (by rw [same_iff]; exact hs), if_neg (c := sameB m n = true) (by rw [same_iff]; exact hs)]
    · split
      · rename_i hs
        have e := same_iff.1 hs
        rw [share_cons, share_cons, share_cons]
        by_cases hm : m = n
        · subst hm
          rw [if_pos (same_refl m), if_pos (same_refl m), if_pos hs]
        · rw [if_neg (by rw [same_iff]; exact fun k => hm k.symm), if_neg (by rw [same_iff]; exact hm), if_neg (by rw [same_iff, e]; exact fun k => hm k.symm)]
      · rename_i hl hs
        have hnx : ∀ p ∈ x :: r, p.1 ≠ n := by
         intro p hp e
         rcases List.mem_cons.1 hp with rfl | hp
         · exact hs (same_iff.2 e)
         · rcases lessN_tri x.1 n with k | k | k
           · exact hl k
           · exact hs (same_iff.2 k)
           · have := lessN_trans k (hx p hp)
             rw [e, lessN_irr] at this
             cases this
        have h0 := (share_none hnx).1
        rw [share_cons]
        by_cases hm : m = n
        · subst hm
          rw [if_pos (same_refl m), if_pos (same_refl m), h0]
          grind
        · rw [if_neg (by rw [same_iff]; exact fun k => hm k.symm), if_neg (by rw [same_iff]; exact hm)]
theorem share_without {n m : ByteArray} : ∀ {l : Parts}, shareP (withoutP l n) m = if sameB m n then 0 else shareP l m
 | [] => by
  have e : shareP (withoutP [] n) m = 0 := rfl
  have e2 : shareP [] m = 0 := rfl
  rw [e, e2]
  split <;> rfl
 | x :: r => by
  have ih := share_without (n := n) (m := m) (l := r)
  by_cases hx : x.1 = n
  · have e : withoutP (x :: r) n = withoutP r n := by
      unfold withoutP
      rw [List.filter_cons, same_iff.2 hx]
      rfl
    rw [e, ih, share_cons]
    by_cases hm : m = n
    · rw [if_pos (same_iff.2 hm), if_pos (same_iff.2 hm)]
    · rw [if_neg (by rw [same_iff]; exact hm), if_neg (by rw [same_iff]; exact hm), if_neg (by rw [same_iff, hx]; exact fun k => hm k.symm)]
  · have e : withoutP (x :: r) n = x :: withoutP r n := by
      unfold withoutP
      rw [List.filter_cons, same_ne.2 hx]
      rfl
    rw [e, share_cons, ih, share_cons]
    by_cases hm : m = n
    · rw [if_pos (c := sameB m n = true) (same_iff.2 hm), if_pos (c := sameB m n = true) (same_iff.2 hm), if_neg (by rw [same_iff, hm]; exact hx)]
    · rw [if_neg (c := sameB m n = true) (by rw [same_iff]; exact hm), if_neg (c := sameB m n = true) (by rw [same_iff]; exact hm)]
theorem share_mem {l : Parts} (h : GoodParts l) {p : ByteArray × Rat} (hp : p ∈ l) : shareP l p.1 = p.2 := by
 induction l with
 | nil => cases hp
 | cons x r ih =>
  obtain ⟨h1, h2⟩ := h
  have hr : GoodParts r := ⟨(List.pairwise_cons.1 h1).2, fun p hp => h2 p (by simp [hp])⟩
  have hx := (List.pairwise_cons.1 h1).1
  rw [share_cons]
  rcases List.mem_cons.1 hp with rfl | hp
  · rw [if_pos (same_refl _)]
  · rw [if_neg (by rw [same_iff]; exact lessN_ne (hx p hp)), ih hr hp]
end Go.Proofs.YtkhkhnellekofaaGreatDoor
namespace Go.Proofs.YtkhkhnellekofaaGreatDoor
open Go.RowKit

noncomputable def stopGo (laws : List Law) (upto : Int) : List Deed → St → Nat → Int → St × Nat × Int
 | [], s, k, _ => (s, k, 0)
 | d :: l, s, k, last =>
  if checkDeedP d == 0 && decide (upto < d.day) then (s, k + (d :: l).length, 0) else
  if (nextD laws s k last d).2 != 0 then (s, k, (nextD laws s k last d).2) else stopGo laws upto l (nextD laws s k last d).1 (k + 1) d.day
theorem next_parts {laws : List Law} {s : St} {k : Nat} {last : Int} {d : Deed} (h : (nextD laws s k last d).2 = 0) : checkDeedP d = 0 ∧ k < 60 ∧ last ≤ d.day ∧ nextD laws s k last d = takeD laws s d := by
 unfold nextD at h ⊢
 split at h
 · rename_i hc
   have h : checkDeedP d = 0 := h
   rw [h] at hc
   exact absurd hc (by decide)
 rename_i hc
 split at h
 · simp at h
 rename_i hk
 split at h
 · simp at h
 rename_i hl
 rw [if_neg hc, if_neg hk, if_neg hl]
 simp at hc hk hl
 exact ⟨hc, hk, hl, rfl⟩
theorem told_stays {laws : List Law} {upto : Int} : ∀ {ds : List Deed} {s told : St} {k : Nat} {last : Int}, (replayGo laws upto ds s told k last).2.2 = 0 → upto < last → (replayGo laws upto ds s told k last).1 = told
 | [], s, told, k, last, _, _ => rfl
 | d :: l, s, told, k, last, h, hl => by
  rw [replayGo] at h ⊢
  split at h
  · rename_i hc
    have h : (nextD laws s k last d).2 = 0 := h
    rw [h] at hc
    exact absurd hc (by decide)
  · rename_i hc
    rw [if_neg hc]
    have hn := next_parts (show (nextD laws s k last d).2 = 0 by simpa using hc)
    have hd : ¬ decide (d.day ≤ upto) = true := by simp; omega
    rw [if_neg hd] at h ⊢
    exact told_stays h (by omega)
theorem stop_told {laws : List Law} {upto : Int} : ∀ {ds : List Deed} {s : St} {k : Nat} {last : Int}, (replayGo laws upto ds s s k last).2.2 = 0 →
    (stopGo laws upto ds s k last).1 = (replayGo laws upto ds s s k last).1 ∧ (stopGo laws upto ds s k last).2.2 = 0
 | [], s, k, last, _ => ⟨rfl, rfl⟩
 | d :: l, s, k, last, h => by
  rw [replayGo] at h ⊢
  split at h
  · rename_i hc
    have h : (nextD laws s k last d).2 = 0 := h
    rw [h] at hc
    exact absurd hc (by decide)
  · rename_i hc
    rw [if_neg hc]
    have h0 : (nextD laws s k last d).2 = 0 := by simpa using hc
    have hn := next_parts h0
    rw [stopGo]
    by_cases hd : d.day ≤ upto
    · have e1 : decide (d.day ≤ upto) = true := by simpa using hd
      have e2 : ¬ (checkDeedP d == 0 && decide (upto < d.day)) = true := by simp; omega
      rw [if_pos e1] at h ⊢
      rw [if_neg e2, if_neg hc]
      exact stop_told h
    · have e1 : ¬ decide (d.day ≤ upto) = true := by simpa using hd
      have e2 : (checkDeedP d == 0 && decide (upto < d.day)) = true := by simp [hn.1]; omega
      rw [if_neg e1] at h ⊢
      rw [if_pos e2]
      exact ⟨(told_stays h (by omega)).symm, rfl⟩
theorem stop_all {laws : List Law} {upto : Int} (hu : 200000 ≤ upto) : ∀ {ds : List Deed} {s : St} {k : Nat} {last : Int},
    (stopGo laws upto ds s k last).2 = (replayGo laws upto ds s s k last).2
 | [], s, k, last => rfl
 | d :: l, s, k, last => by
  rw [stopGo, replayGo]
  have h1 : ¬ (checkDeedP d == 0 && decide (upto < d.day)) = true := by
   intro h
   simp only [Bool.and_eq_true, beq_iff_eq, decide_eq_true_eq] at h
   have := (deed_ok h.1).day
   omega
  rw [if_neg h1]
  split
  · rfl
  · rename_i hc
    have hn := next_parts (show (nextD laws s k last d).2 = 0 by simpa using hc)
    have := (deed_ok hn.1).day
    rw [if_pos (by simp; omega)]
    exact stop_all hu
theorem circle_records {l : List Rec} : Circle l ↔ ∃ x ∈ l, x.kind = 2 ∧ (x.other = x.name ∨ Relation.TransGen (Edge l) x.other x.name) := by
 constructor
 · rintro ⟨a, ha⟩
   have key : ∀ {c : ByteArray}, Relation.TransGen (Edge l) a c → ∃ x ∈ l, x.kind = 2 ∧ x.name = a ∧ (x.other = c ∨ Relation.TransGen (Edge l) x.other c) := by
    intro c hc
    induction hc with
    | single h =>
     obtain ⟨x, hx, h1, h2, h3⟩ := h
     exact ⟨x, hx, h1, h2, .inl h3⟩
    | tail _ h ih =>
     obtain ⟨x, hx, h1, h2, h3⟩ := ih
     refine ⟨x, hx, h1, h2, .inr ?_⟩
     rcases h3 with h3 | h3
     · rw [h3]; exact Relation.TransGen.single h
     · exact Relation.TransGen.tail h3 h
   obtain ⟨x, hx, h1, h2, h3⟩ := key ha
   exact ⟨x, hx, h1, by rw [h2]; exact h3⟩
 · rintro ⟨x, hx, h1, h2⟩
   have he : Edge l x.name x.other := ⟨x, hx, h1, rfl, rfl⟩
   rcases h2 with h2 | h2
   · exact ⟨x.name, Relation.TransGen.single (by rw [h2] at he; exact he)⟩
   · refine ⟨x.name, ?_⟩
     have : ∀ {c : ByteArray}, Relation.TransGen (Edge l) x.other c → Relation.TransGen (Edge l) x.name c := by
      intro c hc
      induction hc with
      | single h => exact Relation.TransGen.tail (Relation.TransGen.single he) h
      | tail _ h ih => exact Relation.TransGen.tail ih h
     exact this h2
end Go.Proofs.YtkhkhnellekofaaGreatDoor
