/- Maps by places on days: laws on look-up and store. -/
import Derived.Test.YtkhkhnellekofaaGreatDoorE3
import Derived.Test.YtkhkhnellekofaaGreatDoorE6
import Derived.Test.YtkhkhnellekofaaGreatDoorNE
import Derived.Test.YtkhkhnellekofaaGreatDoorJH
import Derived.Test.YtkhkhnellekofaaGreatDoorN9
import Derived.Test.YtkhkhnellekofaaGreatDoorJ7
import Derived.Test.YtkhkhnellekofaaGreatDoorR9
import Derived.Test.YtkhkhnellekofaaGreatDoorM0
import Derived.Test.YtkhkhnellekofaaGreatDoorJX
import Derived.Test.YtkhkhnellekofaaGreatDoorE4
import Derived.Test.YtkhkhnellekofaaGreatDoorJE
set_option linter.unusedSimpArgs false
set_option linter.unusedVariables false
namespace Go.Proofs.YtkhkhnellekofaaGreatDoor
open Go.RowKit

structure FewS (k : Nat) (s : St) : Prop where
 graves : s.graves.length ≤ k
 kids : s.children.length ≤ k
 marr : s.marriages.length ≤ k
 dead : s.dead.length ≤ k
 ren : s.renounce.length ≤ k
 wills : ∀ n, (willOf s n).length ≤ 8
 held : ∀ g ∈ s.graves, g.holders.length ≤ 80 * k ∧ g.died.length ≤ k ∧ g.fin ≤ 200000
theorem after_le (day years : Int) : afterP day years ≤ 200000 := by
 unfold afterP addMonthsP
 simp only
 split
 · decide
 · split
   · rename_i h
     have := (inR_iff5.1 h).2
     omega
   · decide
theorem few_zero : FewS 0 zeroSt := ⟨Nat.le_refl _, Nat.le_refl _, Nat.le_refl _, Nat.le_refl _, Nat.le_refl _, fun n => by simp [zeroSt, willOf], by simp [zeroSt]⟩
theorem FewS.up {k : Nat} {s : St} (h : FewS k s) : FewS (k + 1) s :=
 ⟨Nat.le_succ_of_le h.graves, Nat.le_succ_of_le h.kids, Nat.le_succ_of_le h.marr, Nat.le_succ_of_le h.dead, Nat.le_succ_of_le h.ren, h.wills, fun g hg => by have := h.held g hg; exact ⟨by omega, by omega, this.2.2⟩⟩
theorem without_len (l : Parts) (n : ByteArray) : (withoutP l n).length ≤ l.length := List.length_filter_le _ _
theorem gain_len {own : Rat} : ∀ {l out o : Parts}, gainGo own l out = some o → o.length ≤ out.length + l.length
 | [], out, o, h => by
  rw [gainGo] at h
  cases h
  simp
 | p :: l, out, o, h => by
  rw [gainGo] at h
  split at h
  · cases h
  split at h
  · cases h
  have := gain_len h
  have h2 := given_len p.1 (own * p.2) out
  simp
  omega
theorem FewS.withG {k : Nat} {s : St} {i : Nat} {g g' : Grave} (h : FewS k s) (hi : s.graves[i]? = some g) (h1 : g'.holders.length ≤ 80 * k + 80) (h2 : g'.died.length ≤ k + 1) (h3 : g'.fin ≤ 200000) : FewS (k + 1) (s.withGrave i g') := by
 refine { h.up with graves := ?_, held := fun x hx => ?_ }
 · unfold St.withGrave
   simp only [List.length_set]
   exact Nat.le_succ_of_le h.graves
 · unfold St.withGrave at hx
   rcases List.mem_or_eq_of_mem_set hx with hx | rfl
   · exact h.up.held x hx
   · exact ⟨by omega, h2, h3⟩
theorem few_ix {s : St} {pl : ByteArray} {day : Int} {i : Nat} (h : graveIx s pl day = some i) : ∃ g, s.graves[i]? = some g ∧ s.graves.getD i zeroG = g ∧ g ∈ s.graves := by
 obtain ⟨g, h1, _⟩ := graveIx_some h
 exact ⟨g, h1, grave_at h1, List.mem_of_getElem? h1⟩
theorem few_take {laws : List Law} {s s' : St} {d : Deed} {last : Int} {k : Nat} (h : FewS k s) (hk : k < 60) (hG : GoodSt s last) (hd : OkD d) (hl : last ≤ d.day) (hlw : checkLawsP laws = 0) (ht : takeD laws s d = (s', 0)) : FewS (k + 1) s' := by
 have hto := hd.len
 have hkd := hd.kind
 unfold takeD at ht
 split at ht
 · unfold grantP at ht
   split at ht
   · simp at ht
   split at ht
   · simp at ht
   split at ht
   · simp at ht
   simp only [Prod.mk.injEq, and_true] at ht
   rw [← ht]
   refine { h.up with graves := ?_, held := fun g hg => ?_ }
   · have := h.graves
     simp
     omega
   · rcases List.mem_append.1 hg with hg | hg
     · exact h.up.held g hg
     · rw [List.mem_singleton.1 hg]
       have := givenAll_len d.to []
       simp only [List.length_nil] at this ⊢
       refine ⟨by omega, Nat.zero_le _, ?_⟩
       split
       · exact after_le _ _
       · decide
 split at ht
 · unfold transferP at ht
   split at ht
   · simp at ht
   rename_i i hi
   obtain ⟨g, hg1, hg2, hgm⟩ := few_ix hi
   rw [hg2] at ht
   simp only at ht
   split at ht
   · simp at ht
   split at ht
   · simp at ht
   split at ht
   · simp at ht
   split at ht
   · simp at ht
   split at ht
   · simp at ht
   rename_i out ho
   simp only [Prod.mk.injEq, and_true] at ht
   rw [← ht]
   have h1 := gain_len ho
   have h2 := given_len d.frm (shareP g.holders d.frm * (1 - sumQ (ratParts d.to))) (withoutP g.holders d.frm)
   have h3 := without_len g.holders d.frm
   have h4 := h.held g hgm
   have h5 : (ratParts d.to).length = d.to.length := by unfold ratParts; simp
   exact h.withG hg1 (by simp only; omega) (by simp only; omega) (by simp only; omega)
 split at ht
 · unfold surrenderP at ht
   split at ht
   · simp at ht
   rename_i i hi
   obtain ⟨g, hg1, hg2, hgm⟩ := few_ix hi
   rw [hg2] at ht
   simp only at ht
   split at ht
   · simp at ht
   split at ht
   · simp at ht
   simp only [Prod.mk.injEq, and_true] at ht
   rw [← ht]
   have h3 := without_len g.holders d.frm
   have h4 := h.held g hgm
   exact h.withG hg1 (by simp only [List.length_map]; omega) (by simp only; omega) (by simp only; omega)
 split at ht
 · unfold renewP at ht
   split at ht
   · simp at ht
   rename_i i hi
   obtain ⟨g, hg1, hg2, hgm⟩ := few_ix hi
   rw [hg2] at ht
   simp only at ht
   split at ht
   · simp at ht
   split at ht
   · simp at ht
   simp only [Prod.mk.injEq, and_true] at ht
   rw [← ht]
   have h4 := h.held g hgm
   exact h.withG hg1 (by simp only; omega) (by simp only; omega) (after_le _ _)
 split at ht
 · unfold willP at ht
   split at ht
   · simp at ht
   simp only [Prod.mk.injEq, and_true] at ht
   rw [← ht]
   refine { h.up with wills := fun n => ?_ }
   rw [will_append]
   split
   · unfold ratParts; simpa using hto
   · exact h.wills n
 split at ht
 · unfold renounceP at ht
   split at ht
   · simp at ht
   split at ht
   · simp at ht
   simp only [Prod.mk.injEq, and_true] at ht
   rw [← ht]
   exact { h.up with ren := by have := h.ren; simp; omega }
 split at ht
 · unfold childP at ht
   split at ht
   · simp at ht
   split at ht
   · simp at ht
   split at ht
   · simp at ht
   simp only [Prod.mk.injEq, and_true] at ht
   rw [← ht]
   exact { h.up with kids := by have := h.kids; simp; omega }
 split at ht
 · unfold marryP at ht
   split at ht
   · simp at ht
   split at ht
   · simp at ht
   simp only [Prod.mk.injEq, and_true] at ht
   rw [← ht]
   exact { h.up with marr := by have := h.marr; simp; omega }
 · unfold deathP at ht
   split at ht
   · simp at ht
   split at ht
   · simp at ht
   rename_i gs hgs
   simp only [Prod.mk.injEq, and_true] at ht
   rw [← ht]
   obtain ⟨hlen, hat⟩ := dies_at hgs
   refine { h.up with graves := by have := h.graves; simp only; omega, dead := by have := h.dead; simp; omega, held := fun x hx => ?_ }
   obtain ⟨i, hi⟩ := List.mem_iff_getElem?.1 hx
   obtain ⟨g, g1, g2⟩ := hat i x hi
   have h4 := h.held g (List.mem_of_getElem? g1)
   rcases g2 with ⟨rfl, _⟩ | ⟨_, hs, out, e1, e2, rfl⟩
   · exact h.up.held x (List.mem_of_getElem? g1)
   · have h1 := gain_len e2
     have h3 := without_len g.holders d.frm
     have hsh := law_share hlw d.day
     have hgd := estate_good (hG.wills d.frm) hsh e1
     have hes := (estate_same (s := s) (n := d.frm) (hG.wills d.frm) hsh).1 hs e1
     have hhl := heirs_len (s := s) (law := lawOnP laws d.day) (n := d.frm) (by rw [hes]; exact hgd.1)
     rw [hes] at hhl
     have := h.wills d.frm
     have := h.kids
     simp only [List.length_append, List.length_singleton] at *
     exact ⟨by omega, by omega, h4.2.2⟩
end Go.Proofs.YtkhkhnellekofaaGreatDoor
namespace Go.Proofs.YtkhkhnellekofaaGreatDoor
open Go.RowKit

theorem same_comm5 (a b : ByteArray) : sameB a b = sameB b a := by
 rw [Bool.eq_iff_iff, same_iff, same_iff]
 exact ⟨Eq.symm, Eq.symm⟩
theorem partsGo_eq (fb sh : Bool) (frm : ByteArray) : ∀ (l seen : List RPart) (L : List ByteArray) (s : Rat), (∀ n, L.any (sameB n) = seen.any (fun q => sameB q.name n)) →
    partsGo fb sh frm l seen s = if (firstsP l L && l.all (fun p => !(sameB p.name frm && fb))) && (if sh then l.all (fun p => isShareP 16 p.num p.den && p.num != 0) else l.all (fun p => p.num == 0 && p.den == 0)) then some (if sh then s + sumQ (ratParts l) else s) else none
 | [], seen, L, s, h => by
  rw [partsGo]
  cases sh
  · simp [firstsP]
  · simp [firstsP, ratParts, sumQ, Rat.add_zero]
 | p :: l, seen, L, s, h => by
  have ih := fun t => partsGo_eq fb sh frm l (seen ++ [p]) (p.name :: L) t (fun n => by
   rw [List.any_cons, List.any_append, h n, List.any_cons, List.any_nil, Bool.or_false, Bool.or_comm, same_comm5 n])
  have hs : sumQ (ratParts (p :: l)) = p.rat + sumQ (ratParts l) := rfl
  rw [partsGo, firstsP, h p.name, List.all_cons, List.all_cons, List.all_cons, hs, ih, ih]
  cases h1 : seen.any (fun q => sameB q.name p.name)
  · cases h2 : (sameB p.name frm && fb)
    · simp only [Bool.or_self, Bool.false_eq_true, if_false, Bool.not_false, Bool.true_and]
      cases sh
      · simp only [Bool.not_false, if_true, Bool.false_eq_true, if_false]
        by_cases hz : p.num = 0
        · by_cases hy : p.den = 0
          · simp [hz, hy]
          · simp [hz, hy]
        · simp [hz]
      · simp only [Bool.not_true, if_true, Bool.false_eq_true, if_false]
        cases h3 : isShareP 16 p.num p.den
        · simp
        · by_cases hz : p.num = 0
          · simp [hz]
          · have e : s + p.rat + sumQ (ratParts l) = s + (p.rat + sumQ (ratParts l)) := by grind
            simp [hz, e]
    · simp
  · simp
theorem rat_num_le (s : Rat) : decide (s.num ≤ (s.den : Int)) = decide (s ≤ 1) := by
 rw [Bool.eq_iff_iff, decide_eq_true_eq, decide_eq_true_eq, Rat.le_iff]
 simp
theorem rat_num_one (s : Rat) : (s.num == (s.den : Int)) = (s == 1) := by
 rw [Bool.eq_iff_iff, beq_iff_eq, beq_iff_eq]
 constructor
 · intro h
   have h1 := Rat.num_divInt_den s
   rw [h] at h1
   rw [← h1]
   have := s.den_pos
   rw [Rat.divInt_self']
   omega
 · intro h
   rw [h]
   rfl
theorem sumOk_eq (fb sh al : Bool) (frm : ByteArray) (l : List RPart) (hf : fb = true ∨ ∀ p ∈ l, sameB p.name frm = false) : sumOk sh al (partsGo fb sh frm l [] 0) = partsOk sh al frm l := by
 have h0 : ∀ n : ByteArray, ([] : List ByteArray).any (sameB n) = ([] : List RPart).any (fun q => sameB q.name n) := fun n => rfl
 rw [partsGo_eq fb sh frm l [] [] 0 h0]
 have hfa : l.all (fun p => !(sameB p.name frm && fb)) = l.all (fun p => !sameB p.name frm) := by
  rcases hf with hf | hf
  · subst hf; simp
  · rw [Bool.eq_iff_iff, List.all_eq_true, List.all_eq_true]
    exact ⟨fun _ p hp => by rw [hf p hp]; rfl, fun _ p hp => by rw [hf p hp]; rfl⟩
 rw [hfa]
 unfold partsOk
 cases sh
 · simp only [Bool.false_eq_true, if_false]
   split
   · rename_i h; rw [h]; rfl
   · rename_i h
     rw [Bool.not_eq_true] at h
     rw [h]; rfl
 · simp only [if_true]
   split
   · rename_i h
     rw [Bool.and_eq_true, Bool.and_eq_true] at h
     rw [h.1.1, h.1.2, h.2]
     simp only [sumOk, Bool.not_true, Bool.false_or, Bool.true_and, Rat.zero_add, rat_num_le, rat_num_one]
   · rename_i h
     rw [Bool.not_eq_true] at h
     simp only [sumOk]
     cases h1 : firstsP l [] <;> cases h2 : l.all (fun p => !sameB p.name frm) <;> cases h3 : l.all (fun p => isShareP 16 p.num p.den && p.num != 0) <;> simp_all
theorem noB_same {a b : ByteArray} (ha : noB a = false) (hb : noB b = true) : sameB a b = false := by
 unfold noB at ha hb
 unfold sameB
 cases h : (a.toList == b.toList)
 · rfl
 · rw [beq_iff_eq] at h
   rw [h, hb] at ha
   cases ha
theorem right_eq {f : Form} {frm : ByteArray} {l : List RPart} (hf : f.frm = true ∨ ∀ p ∈ l, sameB p.name frm = false) : rightF f frm l = if f.parts then (!l.isEmpty && (f.shares || l.length == 1)) && partsOk f.shares f.all frm l else l.isEmpty := by
 unfold rightF
 rw [sumOk_eq _ _ _ _ _ hf]
 cases f.parts
 · simp
 · cases l.isEmpty
   · cases f.shares
     · by_cases h : l.length = 1
       · simp [h]
       · simp [h]
     · simp
   · simp
theorem checkDeedQ_eq (d : Deed) : checkDeedQ d = checkDeedP d := by
 obtain ⟨kd, dy, pl, fr, ps, cl, yr⟩ := d
 unfold checkDeedQ checkDeedP
 simp only
 split
 · rfl
 rename_i h1
 split
 · rfl
 rename_i h2
 split
 · rfl
 rename_i h3
 have e4 : (ps.any fun p => !isNameP p.name) = !ps.all fun p => isNameP p.name := by rw [List.not_all_eq_any_not]
 rw [e4]
 split
 · rfl
 rename_i h4
 have hn : ∀ p ∈ ps, noB p.name = false := fun p hp => by
  cases ha : (ps.all fun p => isNameP p.name)
  · rw [ha] at h4; simp at h4
  · exact name_not (List.all_eq_true.1 ha p hp)
 simp only [Bool.not_eq_true', Bool.not_eq_false, inR_iff5] at h1
 have hk : kd = 0 ∨ kd = 1 ∨ kd = 2 ∨ kd = 3 ∨ kd = 4 ∨ kd = 5 ∨ kd = 6 ∨ kd = 7 ∨ kd = 8 := by omega
 have hg : noB fr = true → ∀ p ∈ ps, sameB p.name fr = false := fun hb p hp => noB_same (hn p hp) hb
 clear h1 h2 h3 h4 hn e4
 have h10 : (0 : Int) = 0 := rfl
 rcases hk with rfl | rfl | rfl | rfl | rfl | rfl | rfl | rfl | rfl
 all_goals
  simp only [formsL, formedP, Int.toNat_zero, Int.toNat_one, List.getD_cons_zero, show (2 : Int).toNat = 2 from rfl, show (3 : Int).toNat = 3 from rfl, show (4 : Int).toNat = 4 from rfl, show (5 : Int).toNat = 5 from rfl, show (6 : Int).toNat = 6 from rfl, show (7 : Int).toNat = 7 from rfl, show (8 : Int).toNat = 8 from rfl, List.getD_cons_succ]
 · cases hb : noB fr
   · simp
   · rw [right_eq (f := ⟨_, _, _, _, _, _, _, _⟩) (.inr (hg hb))]
     cases noB pl <;> cases hy : (yr == 0) <;> cases hc : (cl == 2) <;> simp
 · rw [right_eq (f := ⟨_, _, _, _, _, _, _, _⟩) (.inl rfl)]
   cases noB fr <;> cases noB pl <;> cases hy : (yr == 0) <;> cases hc : (cl == 0) <;> simp_all
 · rw [right_eq (f := ⟨_, _, _, _, _, _, _, _⟩) (.inl rfl)]
   cases noB fr <;> cases noB pl <;> cases hy : (yr == 0) <;> cases hc : (cl == 0) <;> simp_all
 · cases hb : noB fr
   · simp
   · rw [right_eq (f := ⟨_, _, _, _, _, _, _, _⟩) (.inr (hg hb))]
     cases noB pl <;> cases hy : (yr == 0) <;> cases hc : (cl == 0) <;> simp_all
 · rw [right_eq (f := ⟨_, _, _, _, _, _, _, _⟩) (.inl rfl)]
   cases noB fr <;> cases noB pl <;> cases hy : (yr == 0) <;> cases hc : (cl == 0) <;> simp_all
 · rw [right_eq (f := ⟨_, _, _, _, _, _, _, _⟩) (.inl rfl)]
   cases noB fr <;> cases noB pl <;> cases hy : (yr == 0) <;> cases hc : (cl == 0) <;> cases ps <;> simp_all
 · rw [right_eq (f := ⟨_, _, _, _, _, _, _, _⟩) (.inl rfl)]
   cases noB fr <;> cases noB pl <;> cases hy : (yr == 0) <;> cases hc : (cl == 0) <;> cases ps <;> simp_all
 · rw [right_eq (f := ⟨_, _, _, _, _, _, _, _⟩) (.inl rfl)]
   cases noB fr <;> cases noB pl <;> cases hy : (yr == 0) <;> cases hc : (cl == 0) <;> cases ps <;> simp_all
 · rw [right_eq (f := ⟨_, _, _, _, _, _, _, _⟩) (.inl rfl)]
   cases noB fr <;> cases noB pl <;> cases hy : (yr == 0) <;> cases hc : (cl == 0) <;> simp_all
end Go.Proofs.YtkhkhnellekofaaGreatDoor
namespace Go.Proofs.YtkhkhnellekofaaGreatDoor
open Go.RowKit

def unitR (x : Rec) : Int := x.num * (27720 / x.den)
structure ShareOk (x : Rec) : Prop where
 d1 : 1 ≤ x.den
 d2 : x.den ≤ 12
 n1 : 1 ≤ x.num
 n2 : x.num ≤ x.den
theorem share_ok {x : Rec} (h : checkRecP x = 0) (hk : x.kind = 3) : ShareOk x := by
 unfold checkRecP at h
 by_cases hc : (x.kind == 3 && (!inR x.den 1 12 || !inR x.num 1 x.den || Int.gcd x.num x.den != 1)) = true
 · exfalso
   rw [if_pos hc] at h
   repeat (split at h; · simp at h)
   simp at h
 · simp only [hk, Bool.and_eq_true, beq_self_eq_true, Bool.or_eq_true, Bool.not_eq_true', true_and, not_or, Bool.not_eq_false] at hc
   obtain ⟨⟨h1, h2⟩, _⟩ := hc
   unfold inR at h1 h2
   simp at h1 h2
   exact ⟨h1.1, h1.2, h2.1, h2.2⟩
theorem unit_den {d : Int} (h1 : 1 ≤ d) (h2 : d ≤ 12) : 27720 / d * d = 27720 ∧ 0 < 27720 / d := by
 have : d = 1 ∨ d = 2 ∨ d = 3 ∨ d = 4 ∨ d = 5 ∨ d = 6 ∨ d = 7 ∨ d = 8 ∨ d = 9 ∨ d = 10 ∨ d = 11 ∨ d = 12 := by omega
 rcases this with rfl | rfl | rfl | rfl | rfl | rfl | rfl | rfl | rfl | rfl | rfl | rfl <;> decide
theorem unit_rat {x : Rec} (h : ShareOk x) : ((unitR x : Int) : Rat) = 27720 * Rat.divInt x.num x.den := by
 have h1 := unit_den h.d1 h.d2
 unfold unitR
 generalize 27720 / x.den = q at *
 have hd : (x.den : Rat) ≠ 0 := by
  intro e
  have : x.den = 0 := by exact_mod_cast e
  have := h.d1
  omega
 have h3 : (q : Rat) * (x.den : Rat) = 27720 := by
  have := congrArg (fun z : Int => (z : Rat)) h1.1
  simpa using this
 rw [Rat.divInt_eq_div, Rat.intCast_mul]
 grind
theorem unit_bd {x : Rec} (h : ShareOk x) : 1 ≤ unitR x ∧ unitR x ≤ 27720 := by
 have h1 := unit_den h.d1 h.d2
 unfold unitR
 generalize 27720 / x.den = q at *
 have hn := h.n1
 have hm := h.n2
 refine ⟨?_, ?_⟩
 · have := Int.mul_pos (show 0 < x.num by omega) h1.2
   omega
 · have := Int.mul_le_mul_of_nonneg_right hm (show 0 ≤ q by omega)
   rw [Int.mul_comm x.den q, h1.1] at this
   exact this
abbrev Spot := ByteArray × Int
def eqSp (a b : Spot) : Bool := sameB a.1 b.1 && a.2 == b.2
theorem eqSp_iff {a b : Spot} : eqSp a b = true ↔ a = b := by
 obtain ⟨a1, a2⟩ := a
 obtain ⟨b1, b2⟩ := b
 simp [eqSp, same_iff]
theorem eqSp_refl (a : Spot) : eqSp a a = true := eqSp_iff.2 rfl
theorem eqSp_ne {a b : Spot} : eqSp a b = false ↔ a ≠ b := by rw [← Bool.not_eq_true, Ne, eqSp_iff]
theorem eqSp_sym (a b : Spot) : eqSp a b = eqSp b a := by rw [Bool.eq_iff_iff, eqSp_iff, eqSp_iff]; exact ⟨Eq.symm, Eq.symm⟩
def spotR (x : Rec) : Spot := (x.place, x.day)
def toldS (s : Spot) (l : List Rec) : List ByteArray := toldOf s.1 s.2 l
noncomputable def sumS (s : Spot) (l : List Rec) : Rat := sumGo s.1 s.2 l []
theorem told_snoc (s : Spot) (x : Rec) (l : List Rec) : toldS s (l ++ [x]) = toldS s l ++ if x.kind == 3 && sameB x.place s.1 && x.day == s.2 then [x.name] else [] := by
 unfold toldS toldOf
 simp only [List.filter_append, List.map_append, List.filter_cons, List.filter_nil]
 cases x.kind == 3 && sameB x.place s.1 && x.day == s.2 <;> simp
theorem spot_is {x : Rec} {s : Spot} : (sameB x.place s.1 && x.day == s.2) = true ↔ s = spotR x := by
 obtain ⟨p, d⟩ := s
 simp only [spotR, Bool.and_eq_true, same_iff, beq_iff_eq, Prod.mk.injEq]
 exact ⟨fun h => ⟨h.1.symm, h.2.symm⟩, fun h => ⟨h.1.symm, h.2.symm⟩⟩
theorem told_skip {l : List Rec} {x : Rec} (h : x.kind ≠ 3) (s : Spot) : toldS s (l ++ [x]) = toldS s l := by
 rw [told_snoc, if_neg (by simp [h]), List.append_nil]
theorem told_other {l : List Rec} {x : Rec} {s : Spot} (h : s ≠ spotR x) : toldS s (l ++ [x]) = toldS s l := by
 rw [told_snoc, if_neg, List.append_nil]
 intro hc
 rw [Bool.and_assoc, Bool.and_eq_true] at hc
 exact h (spot_is.1 hc.2)
theorem told_put {l : List Rec} {x : Rec} (h : x.kind = 3) : toldS (spotR x) (l ++ [x]) = toldS (spotR x) l ++ [x.name] := by
 rw [told_snoc, if_pos (by simp [h, spotR, same_refl])]
theorem sum_skip {l : List Rec} {x : Rec} (h : x.kind ≠ 3) (s : Spot) : sumS s (l ++ [x]) = sumS s l := by
 unfold sumS
 rw [sum_snoc, if_neg (by simp [h])]
 grind
theorem sum_old {l : List Rec} {x : Rec} (h : x.name ∈ toldS (spotR x) l) (s : Spot) : sumS s (l ++ [x]) = sumS s l := by
 unfold sumS
 rw [sum_snoc, if_neg]
 · grind
 · intro hc
   simp only [List.any_nil, Bool.not_false, Bool.and_true] at hc
   rw [Bool.and_eq_true, Bool.and_assoc, Bool.and_eq_true] at hc
   have e := spot_is.1 hc.1.2
   subst e
   have := hc.2
   rw [Bool.not_eq_true', ← Bool.not_eq_true, any_same] at this
   exact this h
theorem sum_other {l : List Rec} {x : Rec} {s : Spot} (h : s ≠ spotR x) : sumS s (l ++ [x]) = sumS s l := by
 unfold sumS
 rw [sum_snoc, if_neg]
 · grind
 · intro hc
   simp only [List.any_nil, Bool.not_false, Bool.and_true] at hc
   rw [Bool.and_eq_true, Bool.and_assoc, Bool.and_eq_true] at hc
   exact h (spot_is.1 hc.1.2)
theorem sum_put {l : List Rec} {x : Rec} (hk : x.kind = 3) (h : x.name ∉ toldS (spotR x) l) : sumS (spotR x) (l ++ [x]) = sumS (spotR x) l + Rat.divInt x.num x.den := by
 unfold sumS
 rw [sum_snoc, if_pos]
 simp only [List.any_nil, Bool.not_false, Bool.and_true]
 rw [Bool.and_eq_true, Bool.and_assoc, Bool.and_eq_true]
 refine ⟨⟨by simp [hk], spot_is.2 rfl⟩, ?_⟩
 rw [Bool.not_eq_true', ← Bool.not_eq_true, any_same]
 exact h
def SumsOk (ms : List (Spot × Int)) (l : List Rec) : Prop := ∀ s, ((((mget eqSp s ms).getD 0 : Int)) : Rat) = 27720 * sumS s l
def SmallOk (l : List Rec) : Prop := ∀ s, sumS s l ≤ 1
theorem sums_nil : SumsOk [] [] := fun s => by
 show ((0 : Int) : Rat) = 27720 * sumS s []
 unfold sumS sumGo
 simp
theorem small_nil : SmallOk [] := fun s => by
 unfold sumS sumGo
 decide
theorem small_end {l : List Rec} (h : SmallOk l) : ¬ TooMuch l := fun ⟨p, d, hc⟩ => by
 have := h (p, d)
 unfold sumS at this
 grind
theorem mget_mputSp {V : Type} {k n : Spot} {v : V} : ∀ {m : List (Spot × V)}, mget eqSp n (mput eqSp k v m) = if eqSp n k then some v else mget eqSp n m
 | [] => rfl
 | x :: m => by
  rw [mput]
  cases hk : eqSp k x.1
  · simp only [Bool.false_eq_true, if_false]
    rw [mget, mget, mget_mputSp (m := m)]
    cases hn : eqSp n x.1
    · simp
    · have e := eqSp_iff.1 hn
      subst e
      rw [eqSp_sym, hk]
      simp
  · simp only [if_true]
    have e := eqSp_iff.1 hk
    rw [mget, mget, ← e]
    cases hn : eqSp n k <;> simp
theorem sums_put {ms : List (Spot × Int)} {l : List Rec} {x : Rec} (h : SumsOk ms l) (hx : ShareOk x) (hk : x.kind = 3) (hn : x.name ∉ toldS (spotR x) l) : SumsOk (mput eqSp (spotR x) ((mget eqSp (spotR x) ms).getD 0 + unitR x) ms) (l ++ [x]) := fun s => by
 rw [mget_mputSp]
 by_cases hs : s = spotR x
 · subst hs
   rw [eqSp_refl, if_pos rfl, Option.getD_some, sum_put hk hn, Rat.intCast_add, h, unit_rat hx]
   grind
 · rw [eqSp_ne.2 hs, if_neg (by simp), sum_other hs]
   exact h s
theorem sums_bd {ms : List (Spot × Int)} {l : List Rec} (h : SumsOk ms l) (hs : SmallOk l) (hn : Nonneg l) (s : Spot) : 0 ≤ (mget eqSp s ms).getD 0 ∧ (mget eqSp s ms).getD 0 ≤ 27720 := by
 have h1 := h s
 have h2 := hs s
 have h3 : 0 ≤ sumS s l := by
  have := sum_take_mono (p := s.1) (d := s.2) hn (k := 0)
  rw [List.take_zero] at this
  unfold sumS
  exact this
 generalize (mget eqSp s ms).getD 0 = v at *
 constructor
 · have : ((0 : Int) : Rat) ≤ (v : Rat) := by grind
   exact Rat.intCast_le_intCast.1 this
 · have : (v : Rat) ≤ ((27720 : Int) : Rat) := by
     have e : ((27720 : Int) : Rat) = 27720 := rfl
     grind
   exact Rat.intCast_le_intCast.1 this
theorem small_put {ms : List (Spot × Int)} {l : List Rec} {x : Rec} (h : SumsOk ms l) (hs : SmallOk l) (hx : ShareOk x) (hk : x.kind = 3) (hn : x.name ∉ toldS (spotR x) l) (hv : (mget eqSp (spotR x) ms).getD 0 + unitR x ≤ 27720) : SmallOk (l ++ [x]) := fun s => by
 by_cases e : s = spotR x
 · subst e
   have h1 := h (spotR x)
   rw [sum_put hk hn]
   have h2 := unit_rat hx
   generalize (mget eqSp (spotR x) ms).getD 0 = v at *
   have h3 : ((v + unitR x : Int) : Rat) ≤ ((27720 : Int) : Rat) := Rat.intCast_le_intCast.2 hv
   rw [Rat.intCast_add] at h3
   have e : ((27720 : Int) : Rat) = 27720 := rfl
   grind
 · rw [sum_other e]; exact hs s
theorem much_put {ms : List (Spot × Int)} {l r : List Rec} {x : Rec} (h : SumsOk ms l) (hx : ShareOk x) (hk : x.kind = 3) (hn : x.name ∉ toldS (spotR x) l) (hN : Nonneg (l ++ x :: r)) (hv : 27720 < (mget eqSp (spotR x) ms).getD 0 + unitR x) : TooMuch (l ++ x :: r) := by
 have h1 := sum_take_mono (p := x.place) (d := x.day) hN (k := l.length + 1)
 have e : (l ++ x :: r).take (l.length + 1) = l ++ [x] := by
  rw [show l ++ x :: r = (l ++ [x]) ++ r by simp]
  exact List.take_left' (by simp)
 rw [e] at h1
 refine ⟨x.place, x.day, ?_⟩
 have h2 := sum_put hk hn
 unfold sumS at h2
 have h3 := h (spotR x)
 unfold sumS at h3
 have h4 := unit_rat hx
 generalize (mget eqSp (spotR x) ms).getD 0 = v at *
 have h5 : ((27720 : Int) : Rat) < ((v + unitR x : Int) : Rat) := Rat.intCast_lt_intCast.2 hv
 rw [Rat.intCast_add] at h5
 have e : ((27720 : Int) : Rat) = 27720 := rfl
 simp only [spotR] at h2 h3
 grind
theorem sums_skip {ms : List (Spot × Int)} {l : List Rec} {x : Rec} (h : SumsOk ms l) (hc : x.kind ≠ 3 ∨ x.name ∈ toldS (spotR x) l) : SumsOk ms (l ++ [x]) := fun s => by
 rw [h s]
 rcases hc with hc | hc
 · rw [sum_skip hc]
 · rw [sum_old hc]
theorem small_skip {l : List Rec} {x : Rec} (h : SmallOk l) (hc : x.kind ≠ 3 ∨ x.name ∈ toldS (spotR x) l) : SmallOk (l ++ [x]) := fun s => by
 rcases hc with hc | hc
 · rw [sum_skip hc]; exact h s
 · rw [sum_old hc]; exact h s
theorem told_old {l : List Rec} {x : Rec} (hc : x.kind ≠ 3 ∨ x.name ∈ toldS (spotR x) l) (s : Spot) (n : ByteArray) : n ∈ toldS s (l ++ [x]) ↔ n ∈ toldS s l := by
 rcases hc with hc | hc
 · rw [told_skip hc]
 · by_cases hs : s = spotR x
   · subst hs
     by_cases hk : x.kind = 3
     · rw [told_put hk, List.mem_append, List.mem_singleton]
       exact ⟨fun h => h.elim id fun e => e ▸ hc, .inl⟩
     · rw [told_skip hk]
   · rw [told_other hs]
end Go.Proofs.YtkhkhnellekofaaGreatDoor
namespace Go.Proofs.YtkhkhnellekofaaGreatDoor
open Go.RowKit
attribute [local go_sem] World.cell?_alloc_mark ext_size ext_cell ext_frozen lt_add_r lt_add_r2 lt_add_r3 lt_add_r4 lt_add_r5 lt_add_r6 lt_add_r7 lt_add_r8

def ekSp (s : Spot) : Value := .agg #[.string s.1, .int .i64 s.2]
set_option maxRecDepth 100000 in
theorem equal_sp (a : ByteArray) (c : Int) (a' : ByteArray) (c' : Int) (w : World) : (Op.equal 132 (.agg #[.string a, .int .i64 c]) (.agg #[.string a', .int .i64 c'])).run Tryz.prog w = .ok (sameB a a' && c == c') w := by
 simp only [Op.equal, Op.maxDepth]
 go_simp
 unfold sameB
 by_cases h1 : a.toList = a'.toList <;> by_cases h2 : c = c' <;> simp [h1, h2]
theorem findNow_sp (v : Value) (e : MapEntry) (es : List MapEntry) (fs : Array Field) (i : Nat) : Instr.findNow (.struct fs) v (e :: es) i = none := by
 unfold Instr.findNow
 cases v <;> simp [Instr.sameNow]
theorem findAsking_sp {V : Type} (ev : V → Value) (p : Spot) (w : World) : ∀ (es : List MapEntry) (m : List (Spot × V)), es.map (fun e => (e.key, e.val)) = m.map (fun p => (ekSp p.1, ev p.2)) → ∀ i,
    (Instr.findAsking 132 (ekSp p) es i).run Tryz.prog w = .ok ((locate eqSp p m i).map fun p => (p.1, ev p.2)) w
 | [], [], _, _ => by simp [Instr.findAsking, locate]
 | [], _ :: _, h, _ => by simp at h
 | _ :: _, [], h, _ => by simp at h
 | e :: es, q :: m, h, i => by
  simp only [List.map_cons, List.cons.injEq, Prod.mk.injEq] at h
  obtain ⟨⟨hk, hv⟩, ht⟩ := h
  unfold Instr.findAsking locate
  have h1 := equal_sp p.1 p.2 q.1.1 q.1.2 w
  have h2 := findAsking_sp ev p w es m ht (i + 1)
  rw [hk, hv]
  simp only [ekSp] at h1 h2 ⊢
  simp only [Sem.run_bind, h1, Result.andThen_ok]
  change Sem.run _ (if (eqSp p q.1) = true then _ else _) w = _
  cases hq : eqSp p q.1
  · simpa using h2
  · simp
theorem checkKey_sp (e : Bool) (p : Spot) (w : World) : (Instr.checkKey e 10000 132 (ekSp p)).run Tryz.prog w = .ok () w := by
 obtain ⟨a, c⟩ := p
 cases e <;> kernel_rfl
theorem sameBits_sp (a : ByteArray) (c : Int) : Instr.sameBits 10000 (.agg #[.string a, .int .i64 c]) (.agg #[.string a, .int .i64 c]) = true := by
 have h2 : ∀ n, Instr.sameBits (n + 1) (.agg #[.string a, .int .i64 c]) (.agg #[.string a, .int .i64 c]) = true := fun n => by
  have h : ∀ n (k : IntKind) (x : Int), Instr.sameBits n (.int k x) (.int k x) = true := fun n k x => by cases n <;> simp [Instr.sameBits]
  simp [Instr.sameBits, sameBits_s, beq_toListBytes, h]
 exact h2 9999
theorem mapSp_of {V : Type} {t et : TypeId} {ev : V → Value} {z : V} (ht : Tryz.prog.underlying t = some (.map 132 et)) (hz : ∀ w, (zeroValue et).run Tryz.prog w = .ok (ev z) w) : MapTy Tryz.prog t 132 et ekSp ev z eqSp where
 ht := ht
 hz := hz
 hck := checkKey_sp
 hfind := fun k es m h w => by
  have hu : ∃ fs, Tryz.prog.underlying 132 = some (.struct fs) := ⟨_, Tryz.underlying132⟩
  obtain ⟨fs, hu⟩ := hu
  match es, m, h with
  | [], [], _ => simp [Instr.findKey, run_underlying hu, Instr.findNow, locate]
  | [], _ :: _, h => simp at h
  | e :: es, m, h =>
   simp only [Instr.findKey, Sem.run_bind, run_underlying hu, Result.andThen_ok, findNow_sp]
   exact findAsking_sp ev k w (e :: es) m h 0
 hsame := fun k k' h => by
  have e := eqSp_iff.1 h
  subst e
  exact sameBits_sp k.1 k.2
theorem mapPV : MapTy Tryz.prog 129 132 3 ekSp (fun v : Value => v) (.int .i64 0) eqSp := mapSp_of Tryz.underlying129 (fun w => by kernel_rfl)
theorem mapPM : MapTy Tryz.prog 130 132 104 ekSp (fun v : Value => v) (.map none) eqSp := mapSp_of Tryz.underlying130 (fun w => by kernel_rfl)
theorem lookup_none (n : ByteArray) (w : World) : (Instr.lookup 104 (.map none) (.string n) false).run Tryz.prog w = .ok (.bool false) w := by
 kernel_rfl
theorem mapS_val {W : World} {b : Nat} {ms : List (Spot × Int)} : MapS W b ekSp evI ms ↔ MapS W b ekSp (fun v : Value => v) (ms.map fun p => (p.1, evI p.2)) := by
 unfold MapS
 simp only [List.map_map, Function.comp_def]
theorem mput_val (k : Spot) (v : Int) : ∀ ms : List (Spot × Int), (mput eqSp k v ms).map (fun p => (p.1, evI p.2)) = mput eqSp k (evI v) (ms.map fun p => (p.1, evI p.2))
 | [] => rfl
 | x :: ms => by
  rw [mput, List.map_cons, mput]
  cases eqSp k x.1
  · simp [mput_val k v ms]
  · simp
theorem locate_val {K V : Type} {eq : K → K → Bool} {k : K} : ∀ {m : List (K × V)} {i j : Nat} {v : V}, locate eq k m i = some (j, v) → (m[j - i]?).map (·.2) = some v
 | [], _, _, _, h => by cases h
 | p :: l, i, j, v, h => by
  unfold locate at h
  split at h
  · simp only [Option.some.injEq, Prod.mk.injEq] at h
    obtain ⟨rfl, rfl⟩ := h
    simp
  · obtain ⟨h1, _⟩ := locate_some h
    have e : j - i = (j - (i + 1)) + 1 := by omega
    rw [e]
    simpa using locate_val h
theorem run_mapEntryX {P : Program} {t kt et : TypeId} {K : Type} {ek : K → Value} {z : Value} {eq : K → K → Bool} {w : World} {b : Nat} {m : List (K × Value)} (T : MapTy P t kt et ek (fun v : Value => v) z eq) (h : MapS w b ek (fun v : Value => v) m) (k : K) :
    ∃ w' st j, (Instr.mapEntry t (.map (some b)) (ek k)).run P w = .ok (.tuple #[(mget eq k m).getD z, .int .i64 (st : Nat)]) w' ∧ StampAt w' b ek (mput eq k ((mget eq k m).getD z) m) j st ∧ (∀ v, (mput eq k ((mget eq k m).getD z) m).set j (k, v) = mput eq k v m) ∧ ((mput eq k ((mget eq k m).getD z) m)[j]?).map (·.1) = some k ∧ w.grownBy w' (some b) ∧ w'.heap.size = w.heap.size := by
 obtain ⟨es, c, hh, hm, hb, hn⟩ := h
 have h1 := T.hfind k es.toList m hm w
 have hlt := (Array.getElem?_eq_some_iff.1 hh).1
 have hgt := locate_get eq k m 0
 cases hl : locate eq k m 0 with
 | none =>
  rw [hl] at hgt
  rw [← hgt]
  have hp := fun v' => locate_none hl v'
  refine ⟨_, c, m.length, ?_, ?_, ?_, by rw [hp]; simp, set_heap w b (.map (es.push { key := ek k, val := z, born := c }) (c + 1)), by simp⟩
  · simp [Instr.mapEntry, run_underlying T.ht, run_getObj_map hh, T.hck, h1, hl, T.hz, run_setObj hh, Result.andThen]
    rfl
  · refine ⟨es.push { key := ek k, val := z, born := c }, c + 1, by simp [Array.getElem?_setIfInBounds, hlt], ?_, ?_, ?_, ?_⟩
    · rw [hp]; simp [hm]
    · intro e he
      rw [Array.toList_push] at he
      rcases List.mem_append.1 he with he | he
      · have := hb e he; omega
      · rw [List.mem_singleton.1 he]; exact Nat.lt_succ_self c
    · rw [Array.toList_push, List.map_append, List.nodup_append]
      refine ⟨hn, by simp, ?_⟩
      intro x hx y hy
      obtain ⟨e, he, rfl⟩ := List.mem_map.1 hx
      simp only [List.map_cons, List.map_nil, List.mem_singleton] at hy
      have := hb e he
      omega
    · have hlen : es.size = m.length := by simpa using congrArg List.length hm
      rw [← hlen]
      simp
  · intro v
    rw [hp, hp, List.set_append_right _ _ (Nat.le_refl _)]
    simp
 | some p =>
  obtain ⟨j, u⟩ := p
  rw [hl] at hgt
  rw [← hgt]
  have hlv := locate_val hl
  obtain ⟨_, q, hq, he, hput⟩ := locate_some hl
  simp only [Nat.sub_zero] at hq hput hlv
  rw [hq] at hlv
  simp only [Option.map_some, Option.some.injEq] at hlv
  have hj : j < m.length := (List.getElem?_eq_some_iff.1 hq).1
  have hlen : es.toList.length = m.length := by simpa using congrArg List.length hm
  have hje : j < es.size := by
   have h0 : es.size = m.length := by simpa using hlen
   omega
  have hkey : (es[j]).key = ek q.1 := by
   have := congrArg (fun l => l[j]?) hm
   simp [List.getElem?_map, hq, hje] at this
   exact this.1
  have hval : (es[j]).val = u := by
   have := congrArg (fun l => l[j]?) hm
   simp [List.getElem?_map, hq, hje] at this
   rw [← hlv]
   exact this.2
  have hborn : (es.modify j fun e => { e with key := ek k }).toList.map (·.born) = es.toList.map (·.born) := by
   apply List.ext_getElem?
   intro i
   simp only [List.getElem?_map, Array.getElem?_toList, Array.getElem?_modify]
   by_cases hij : j = i
   · subst hij
     simp [hje, Array.getElem?_eq_getElem hje]
   · simp [hij]
  refine ⟨_, (es[j]).born, j, ?_, ?_, ?_, by rw [hput]; simp [hj], set_heap w b (.map (es.modify j fun e => { e with key := ek k }) c), by simp⟩
  · simp [Instr.mapEntry, run_underlying T.ht, run_getObj_map hh, T.hck, h1, hl, Instr.keyThatStays, Array.getElem?_eq_getElem hje, hkey, T.hsame _ _ he, run_setObj hh, Result.andThen]
    rfl
  · rw [Option.map_some, Option.getD_some, hput]
    refine ⟨es.modify j fun e => { e with key := ek k }, c, by simp [Array.getElem?_setIfInBounds, hlt], ?_, ?_, by rw [hborn]; exact hn, ?_⟩
    · apply List.ext_getElem?
      intro i
      have hmi := congrArg (fun l => l[i]?) hm
      simp only [List.getElem?_map, Array.getElem?_toList] at hmi
      simp only [List.getElem?_map, Array.getElem?_toList, Array.getElem?_modify, List.getElem?_set]
      by_cases hij : j = i
      · subst hij
        simp [hje, hj, Array.getElem?_eq_getElem hje, hval]
      · simp [hij, hmi]
    · intro e he
      have h2 : e.born ∈ (es.modify j fun e => { e with key := ek k }).toList.map (·.born) := List.mem_map.2 ⟨e, he, rfl⟩
      rw [hborn] at h2
      obtain ⟨e', he', hbb⟩ := List.mem_map.1 h2
      rw [← hbb]
      exact hb e' he'
    · simp [Array.getElem?_modify, Array.getElem?_eq_getElem hje]
  · intro v
    rw [Option.map_some, Option.getD_some, hput, hput, List.set_set]
theorem StampAt.mapAt {w : World} {b : Nat} {K : Type} {ek : K → Value} {m : List (K × Value)} {j st : Nat} (h : StampAt w b ek m j st) : MapAt w b ek (fun v : Value => v) m := by
 obtain ⟨es, c, h1, h2, _⟩ := h
 exact ⟨es, c, h1, h2⟩
theorem mem_erase5 {α : Type} {p0 p : α} : ∀ {l : List α} {i : Nat}, l[i]? = some p0 → p ∈ l → p = p0 ∨ p ∈ l.eraseIdx i
 | [], _, _, h => by cases h
 | x :: l, 0, h, hp => by
  simp only [List.getElem?_cons_zero, Option.some.injEq] at h
  rcases List.mem_cons.1 hp with e | hp
  · exact .inl (e.trans h)
  · exact .inr hp
 | x :: l, i + 1, h, hp => by
  simp only [List.getElem?_cons_succ] at h
  rw [List.eraseIdx_cons_succ]
  rcases List.mem_cons.1 hp with e | hp
  · exact .inr (by simp [e])
  · rcases mem_erase5 h hp with k | k
    · exact .inl k
    · exact .inr (by simp [k])
theorem take_snoc5 {α : Type} {l : List α} {k : Nat} (h : k < l.length) : l.take (k + 1) = l.take k ++ [l[k]] := List.take_succ_eq_append_getElem h
theorem step_update {P : Program} {ops : Array Oper} {o : Oper} {a : Act} {w : World} {K : Act → World → Prop} {Q : Exit → Act → World → Prop} {E : Prop} {T : TypeId} (hgd : o.guard = none) (x i u : Operand) (ho : o.op = .mapUpdate T x i u) (vx vi vu : Value) (hx : a.eval x = vx) (hi : a.eval i = vi) (hu : a.eval u = vu) (w' : World)
    (hrun : (Instr.mapUpdate T vx vi vu).run P w = .ok () w') (h : K (a.put o.dst undef) w') : if Region.wanted o (yielded ops a.tmps) = true then Oper.wp P o a w K Q else E := by
 have hw : Region.wanted o (yielded ops a.tmps) = true := by simp [Region.wanted, hgd]
 rw [if_pos hw]
 unfold Oper.wp
 simp [execOp, ho, hx, hi, hu, hrun, Result.andThen]
 exact h
def CountAt (W : World) (base b : Nat) (l : List Rec) : Prop :=
 ∃ mc, MapS W b ekSp (fun v : Value => v) mc ∧ (∀ s, (mget eqSp s mc = none ∧ toldS s l = []) ∨ ∃ k T, mget eqSp s mc = some (.map (some k)) ∧ base ≤ k ∧ MapS W k ekS evB (outM T) ∧ ∀ n, n ∈ T ↔ n ∈ toldS s l) ∧
  ∀ s s' k, mget eqSp s mc = some (.map (some k)) → mget eqSp s' mc = some (.map (some k)) → s = s'
theorem count_new {W : World} {base b : Nat} (h : MapS W b ekSp (fun v : Value => v) ([] : List (Spot × Value))) : CountAt W base b [] :=
 ⟨[], h, fun s => .inl ⟨rfl, rfl⟩, fun s s' k h => by cases h⟩
end Go.Proofs.YtkhkhnellekofaaGreatDoor
