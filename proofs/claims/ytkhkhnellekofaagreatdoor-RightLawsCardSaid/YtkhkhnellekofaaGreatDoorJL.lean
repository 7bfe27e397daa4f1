/- Dates in plain words: years and months as the program steps through them. -/
import Derived.Shelf.Small.Strs
import Derived.Shelf.SlicesE.Clone
import Derived.Shelf.SlicesE.Index
import Derived.Shelf.SlicesQ.Contains
import Derived.Shelf.Spec.TrailingZeros
import Derived.Test.YtkhkhnellekofaaGreatDoorJ1
import Derived.Test.YtkhkhnellekofaaGreatDoorNE
set_option linter.unusedSimpArgs false
set_option linter.unusedVariables false
namespace Go.Proofs.YtkhkhnellekofaaGreatDoor
open Go.RowKit Go.Shelf

def cmpStr_ren : Go.Shelf.Ren := ⟨fun | 106 => 147 | 213 => 155 | 265 => 168 | n => n, fun | 9 => 9 | 3 => 3 | n => n, fun | n => n⟩
theorem cmpStr : Go.Proofs.Lays.n106 Tryz.prog cmpStr_ren := {
 mixed := by kernel_rfl
 f106 := Tryz.func147.trans (congrArg some (by kernel_rfl))
 f213 := Tryz.func155.trans (congrArg some (by kernel_rfl))
 f265 := Tryz.func168.trans (congrArg some (by kernel_rfl))
 t3 := Tryz.underlying3
 a3 := Tryz.isAgg3
 z3 := Tryz.sizeOf3
 v3 := Tryz.zeroValue3
 t9 := Tryz.underlying9
 a9 := Tryz.isAgg9
 z9 := Tryz.sizeOf9
 v9 := Tryz.zeroValue9 }
def coStr_ren : Go.Shelf.Ren := ⟨fun | 31 => 82 | 29 => 104 | n => n, fun | 22 => 86 | 23 => 9 | 4 => 4 | 3 => 3 | 0 => 0 | n => n, fun | n => n⟩
theorem coStr : Go.Proofs.SlLaysE.n31 Tryz.prog coStr_ren := {
 mixed := by kernel_rfl
 f29 := ⟨Tryz.f104.name, by decide, Tryz.func104.trans (congrArg some (by kernel_rfl))⟩
 f31 := ⟨Tryz.f82.name, by decide, Tryz.func82.trans (congrArg some (by kernel_rfl))⟩
 t0 := Tryz.underlying0
 a0 := Tryz.isAgg0
 z0 := Tryz.sizeOf0
 v0 := Tryz.zeroValue0
 t3 := Tryz.underlying3
 a3 := Tryz.isAgg3
 z3 := Tryz.sizeOf3
 v3 := Tryz.zeroValue3
 t4 := Tryz.underlying4
 a4 := Tryz.isAgg4
 z4 := Tryz.sizeOf4
 v4 := Tryz.zeroValue4
 t22 := Tryz.underlying86
 a22 := Tryz.isAgg86
 z22 := Tryz.sizeOf86
 v22 := Tryz.zeroValue86
 a23 := Tryz.isAgg9
 z23 := Tryz.sizeOf9 }
def coPair_ren : Go.Shelf.Ren := ⟨fun | 7 => 102 | 6 => 113 | n => n, fun | 22 => 106 | 24 => 138 | 4 => 4 | 0 => 0 | 3 => 3 | n => n, fun | n => n⟩
theorem coPair : Go.Proofs.SlLaysQ.n7 Tryz.prog coPair_ren := {
 mixed := by kernel_rfl
 f6 := ⟨Tryz.f113.name, by decide, Tryz.func113.trans (congrArg some (by kernel_rfl))⟩
 f7 := ⟨Tryz.f102.name, by decide, Tryz.func102.trans (congrArg some (by kernel_rfl))⟩
 t0 := Tryz.underlying0
 a0 := Tryz.isAgg0
 z0 := Tryz.sizeOf0
 v0 := Tryz.zeroValue0
 t3 := Tryz.underlying3
 a3 := Tryz.isAgg3
 z3 := Tryz.sizeOf3
 v3 := Tryz.zeroValue3
 t4 := Tryz.underlying4
 a4 := Tryz.isAgg4
 z4 := Tryz.sizeOf4
 v4 := Tryz.zeroValue4
 t22 := Tryz.underlying106
 a22 := Tryz.isAgg106
 z22 := Tryz.sizeOf106
 v22 := Tryz.zeroValue106 }
def tzBits_ren : Go.Shelf.Ren := ⟨fun | 27 => 65 | 28 => 94 | 29 => 95 | n => n, fun | 25 => 95 | 3 => 3 | 27 => 124 | 22 => 126 | 4 => 4 | 53 => 147 | 0 => 0 | 5 => 5 | 54 => 148 | n => n, fun | 0 => 1 | 1 => 2 | n => n⟩
theorem tzBits : Go.Proofs.Lays7.n27 Tryz.prog tzBits_ren := {
 mixed := by kernel_rfl
 f27 := Tryz.func65.trans (congrArg some (by kernel_rfl))
 f28 := Tryz.func94.trans (congrArg some (by kernel_rfl))
 f29 := Tryz.func95.trans (congrArg some (by kernel_rfl))
 t0 := Tryz.underlying0
 a0 := Tryz.isAgg0
 z0 := Tryz.sizeOf0
 v0 := Tryz.zeroValue0
 i0 := by kernel_rfl
 t3 := Tryz.underlying3
 a3 := Tryz.isAgg3
 z3 := Tryz.sizeOf3
 v3 := Tryz.zeroValue3
 i3 := by kernel_rfl
 t4 := Tryz.underlying4
 a4 := Tryz.isAgg4
 z4 := Tryz.sizeOf4
 v4 := Tryz.zeroValue4
 i4 := by kernel_rfl
 t5 := Tryz.underlying5
 a5 := Tryz.isAgg5
 z5 := Tryz.sizeOf5
 v5 := Tryz.zeroValue5
 i5 := by kernel_rfl
 t22 := Tryz.underlying126
 a22 := Tryz.isAgg126
 z22 := Tryz.sizeOf126
 v22 := Tryz.zeroValue126
 i22 := by kernel_rfl
 t25 := Tryz.underlying95
 a25 := Tryz.isAgg95
 z25 := Tryz.sizeOf95
 v25 := Tryz.zeroValue95
 i25 := by kernel_rfl
 t27 := Tryz.underlying124
 a27 := Tryz.isAgg124
 z27 := Tryz.sizeOf124
 v27 := Tryz.zeroValue124
 i27 := by kernel_rfl
 t53 := Tryz.underlying147
 a53 := Tryz.isAgg147
 z53 := Tryz.sizeOf147
 v53 := Tryz.zeroValue147
 i53 := by kernel_rfl
 t54 := Tryz.underlying148
 a54 := Tryz.isAgg148
 z54 := Tryz.sizeOf148
 g0 := by kernel_rfl
 g1 := by kernel_rfl }
end Go.Proofs.YtkhkhnellekofaaGreatDoor
namespace Go.Proofs.YtkhkhnellekofaaGreatDoor
open Go.RowKit

theorem leaps_div {y : Int} (h : 0 ≤ y) : leapsP y = y / 4 - y / 100 + y / 400 := by
 unfold leapsP
 rw [Int.tdiv_eq_ediv_of_nonneg h, Int.tdiv_eq_ediv_of_nonneg h, Int.tdiv_eq_ediv_of_nonneg h]
theorem leap_mod {y : Int} (h : 0 ≤ y) : leapP y = ((y % 4 == 0 && y % 100 != 0) || y % 400 == 0) := by
 unfold leapP
 rw [Int.tmod_eq_emod_of_nonneg h, Int.tmod_eq_emod_of_nonneg h, Int.tmod_eq_emod_of_nonneg h]
def leapQ (y : Int) : Bool := y.tmod 4 == 0 && (y.tmod 100 != 0 || y.tmod 400 == 0)
theorem leapQ_eq {y : Int} (h : 0 ≤ y) : leapQ y = leapP y := by
 rw [leap_mod h]
 unfold leapQ
 rw [Int.tmod_eq_emod_of_nonneg h, Int.tmod_eq_emod_of_nonneg h, Int.tmod_eq_emod_of_nonneg h, Bool.eq_iff_iff]
 simp only [Bool.and_eq_true, Bool.or_eq_true, beq_iff_eq, bne_iff_ne]
 omega
def begP (y : Int) : Int := 365 * (y - 1800) + leapsP (y - 1) - 436
theorem first_one (y : Int) : firstP y 1 = begP y := by
 unfold firstP begP
 simp [monthsGo]
theorem beg_up {y : Int} (h : 1800 ≤ y) : begP (y + 1) = begP y + 365 + (if leapP y then 1 else 0) := by
 unfold begP
 rw [leaps_div (by omega), leaps_div (by omega), leap_mod (by omega)]
 have e : y + 1 - 1 = y := by omega
 rw [e]
 split
 · rename_i hl
   simp only [Bool.or_eq_true, Bool.and_eq_true, beq_iff_eq, bne_iff_ne] at hl
   omega
 · rename_i hl
   simp only [Bool.or_eq_true, Bool.and_eq_true, beq_iff_eq, bne_iff_ne] at hl
   omega
theorem beg_low {day : Int} (h0 : 0 ≤ day) (h1 : day ≤ 200000) : begP (1800 + day.tdiv 366) ≤ day := by
 unfold begP
 rw [Int.tdiv_eq_ediv_of_nonneg h0, leaps_div (by omega)]
 omega
theorem beg_high {day : Int} (h0 : 0 ≤ day) (h1 : day ≤ 200000) : day < begP (1800 + day.tdiv 366 + 10 + 1) := by
 unfold begP
 rw [Int.tdiv_eq_ediv_of_nonneg h0, leaps_div (by omega)]
 omega
theorem days_get (y : Int) {m : Nat} (h1 : 1 ≤ m) (h2 : m ≤ 12) : monthDaysP y m = if (m : Int) == 2 && leapP y then 29 else [31, 28, 31, 30, 31, 30, 31, 31, 30, 31, 30, 31].getD (m - 1) 0 := by
 unfold monthDaysP
 have : m = 1 ∨ m = 2 ∨ m = 3 ∨ m = 4 ∨ m = 5 ∨ m = 6 ∨ m = 7 ∨ m = 8 ∨ m = 9 ∨ m = 10 ∨ m = 11 ∨ m = 12 := by omega
 rcases this with rfl | rfl | rfl | rfl | rfl | rfl | rfl | rfl | rfl | rfl | rfl | rfl <;> rfl
theorem days_pos (y : Int) {m : Nat} (h1 : 1 ≤ m) (h2 : m ≤ 12) : 28 ≤ monthDaysP y m ∧ monthDaysP y m ≤ 31 := by
 rw [days_get y h1 h2]
 have : m = 1 ∨ m = 2 ∨ m = 3 ∨ m = 4 ∨ m = 5 ∨ m = 6 ∨ m = 7 ∨ m = 8 ∨ m = 9 ∨ m = 10 ∨ m = 11 ∨ m = 12 := by omega
 rcases this with rfl | rfl | rfl | rfl | rfl | rfl | rfl | rfl | rfl | rfl | rfl | rfl <;> simp <;> split <;> simp
theorem first_up (y : Int) {m : Nat} (h : 1 ≤ m) : firstP y (m + 1) = firstP y m + monthDaysP y m := by
 obtain ⟨k, rfl⟩ : ∃ k, m = k + 1 := ⟨m - 1, by omega⟩
 unfold firstP
 simp only [Nat.add_sub_cancel, monthsGo]
 have : ((k + 1 : Nat) : Int) = (k : Int) + 1 := by omega
 rw [this]
 omega
theorem first_year {y : Int} (h : 1800 ≤ y) : firstP (y + 1) 1 = firstP y 12 + monthDaysP y 12 := by
 rw [first_one, beg_up h, ← first_one, show (12 : Int) = ((12 : Nat) : Int) by rfl, ← first_up y (by omega)]
 unfold firstP
 have e : monthsGo y (12 + 1 - 1) = 365 + (if leapP y then 1 else 0) := by
  simp only [monthsGo, monthDaysP, lensP]
  cases leapP y <;> simp
 rw [e]
 simp [monthsGo]
 omega
structure DateIs (day y : Int) (m : Nat) : Prop where
 y0 : 1800 ≤ y
 y1 : y ≤ 2400
 m0 : 1 ≤ m
 m1 : m ≤ 12
 lo : firstP y m ≤ day
 hi : day < firstP y m + monthDaysP y m
theorem year_step {day : Int} {f : Nat} {y : Int} (h : firstP (y + 1) 1 ≤ day) : yearGo day (f + 1) y = yearGo day f (y + 1) := by
 rw [yearGo, if_pos (by simpa using h)]
theorem year_stop {day : Int} {y : Int} (h : ¬ firstP (y + 1) 1 ≤ day) : ∀ f, yearGo day f y = y
 | 0 => rfl
 | f + 1 => by rw [yearGo, if_neg (by simpa using h)]
theorem month_step {day y : Int} {f m : Nat} (hm : m < 12) (h : firstP y (m + 1) ≤ day) : monthGo day y (f + 1) m = monthGo day y f (m + 1) := by
 rw [monthGo, if_pos (by simp [hm, h])]
theorem month_stop {day y : Int} {m : Nat} (h : ¬ (m < 12 ∧ firstP y (m + 1) ≤ day)) : ∀ f, monthGo day y f m = m
 | 0 => rfl
 | f + 1 => by rw [monthGo, if_neg (by simpa using h)]
end Go.Proofs.YtkhkhnellekofaaGreatDoor
