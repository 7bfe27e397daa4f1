/- Chapter 5 in plain words: fractions as rational numbers; names. -/
import Derived.RangeFuncNested
import Derived.RangeFuncBound
import Derived.RangeFuncCalls
import Derived.RangeFuncLeaves
import Derived.Shelf.Abstract
import Derived.Shelf.RegionOpen
import Derived.OwnWalkIn
import Derived.TacticsInMore
import Derived.LoopNIn
import Derived.LoopIn
import Derived.Test.YtkhkhnellekofaaGreatDoorK0
import Derived.RowKit3
set_option linter.unusedSimpArgs false
set_option linter.unusedVariables false
namespace Go.Proofs.YtkhkhnellekofaaGreatDoor
open Go.RowKit
variable {F : Fence} {n : Nat} {P : Program}

end Go.Proofs.YtkhkhnellekofaaGreatDoor
namespace Go.Proofs.YtkhkhnellekofaaGreatDoor
open Go.RowKit

theorem divInt_num {a b : Int} (h : 0 < b) : (Rat.divInt a b).num = a / (Int.gcd a b : Int) := by
 rw [Rat.num_divInt, Int.gcd_comm b a, Int.sign_eq_one_of_pos h, Int.one_mul]
theorem divInt_den {a b : Int} (h : 0 < b) : ((Rat.divInt a b).den : Int) = b / (Int.gcd a b : Int) := by
 rw [Rat.den_divInt, if_neg (by omega), Int.gcd_comm b a]
 obtain ⟨n, rfl⟩ : ∃ n : Nat, b = n := ⟨b.toNat, by omega⟩
 simp
theorem tdiv_exact {a g : Int} (h : g ∣ a) : a.tdiv g = a / g := Int.tdiv_eq_ediv_of_dvd h
def isShareP (n : Int) (num den : Int) : Bool := (decide (1 ≤ den) && decide (den ≤ n)) && (decide (0 ≤ num) && decide (num ≤ den)) && Int.gcd num den == 1
theorem share_rat {n num den : Int} (h : isShareP n num den = true) : (Rat.divInt num den).num = num ∧ ((Rat.divInt num den).den : Int) = den ∧ 0 ≤ Rat.divInt num den ∧ Rat.divInt num den ≤ 1 := by
 unfold isShareP at h
 simp only [Bool.and_eq_true, decide_eq_true_eq, beq_iff_eq] at h
 obtain ⟨⟨⟨h1, h2⟩, h3, h4⟩, h5⟩ := h
 have hb : 0 < den := by omega
 have e1 : (Rat.divInt num den).num = num := by rw [divInt_num hb, h5]; simp
 have e2 : ((Rat.divInt num den).den : Int) = den := by rw [divInt_den hb, h5]; simp
 refine ⟨e1, e2, ?_, ?_⟩
 · rw [Rat.le_iff, e1]; simp; omega
 · rw [Rat.le_iff, e1, e2]; simp; omega
theorem add_divInt (p q : Rat) : p + q = Rat.divInt (p.num * q.den + q.num * p.den) (p.den * q.den) := by
 rw [Rat.add_def']
 rfl
theorem sub_divInt (p q : Rat) : p - q = Rat.divInt (p.num * q.den - q.num * p.den) (p.den * q.den) := by
 rw [Rat.sub_def']
 rfl
theorem mul_divInt (p q : Rat) : p * q = Rat.divInt (p.num * q.num) (p.den * q.den) := by
 rw [Rat.mul_def']
 rfl
theorem den_pos' (p : Rat) : (0 : Int) < p.den := by have := p.den_pos; omega
theorem ratI {n : Int} (h : n ≠ 0) : (n : Rat) ≠ 0 := fun e => h (Rat.intCast_inj.1 (by simpa using e))
theorem div_divInt (p q : Rat) (h : 0 < q) : p / q = Rat.divInt (p.num * q.den) (p.den * q.num) := by
 have hq : 0 < q.num := by have := (Rat.lt_iff 0 q).1 h; simpa using this
 rw [Rat.divInt_eq_div]
 have h1 : p = p.num / (p.den : Int) := by rw [← Rat.divInt_eq_div, Rat.num_divInt_den]
 have h2 : q = q.num / (q.den : Int) := by rw [← Rat.divInt_eq_div, Rat.num_divInt_den]
 have a1 : ((p.den : Int) : Rat) ≠ 0 := by have := den_pos' p; exact ratI (by omega)
 have a2 : ((q.den : Int) : Rat) ≠ 0 := by have := den_pos' q; exact ratI (by omega)
 have a3 : (q.num : Rat) ≠ 0 := ratI (by omega)
 conv => lhs; rw [h1, h2]
 rw [Rat.intCast_mul, Rat.intCast_mul]
 generalize (p.num : Rat) = x at *
 generalize ((p.den : Int) : Rat) = y at *
 generalize (q.num : Rat) = z at *
 generalize ((q.den : Int) : Rat) = t at *
 clear h1 h2
 grind
end Go.Proofs.YtkhkhnellekofaaGreatDoor
