/- A number as the cells of an element. -/
import Derived.Test.YtkhkhnellekofaaGreatDoorO0
import Derived.Test.YtkhkhnellekofaaGreatDoorJB
import Derived.Test.YtkhkhnellekofaaGreatDoorO4
import Derived.Test.YtkhkhnellekofaaGreatDoorM1
import Derived.StillTail
import Derived.Test.YtkhkhnellekofaaGreatDoorK0
import Derived.Shelf.SlSortCmp.WholeK
import Derived.Shelf.SlSortCmp.NoneTotal
import Derived.Test.YtkhkhnellekofaaGreatDoorJ1
import Derived.Test.YtkhkhnellekofaaGreatDoorNE
import Derived.Test.YtkhkhnellekofaaGreatDoorN9
import Derived.Test.YtkhkhnellekofaaGreatDoorRB
import Derived.Shelf.Spec.TrailingZeros
set_option linter.unusedSimpArgs false
set_option linter.unusedVariables false
namespace Go.Proofs.YtkhkhnellekofaaGreatDoor
open Go.RowKit

structure Found (s : St) (nm : ByteArray) (out xs : List ByteArray) : Prop where
 nd : out.Nodup
 desc : ∀ n ∈ out, Desc s nm n
 from' : ∀ x ∈ xs, x = nm ∨ x ∈ out
 seen : ∀ x, (x = nm ∨ x ∈ out) → x ∈ xs ∨ ∀ c ∈ childrenP s x, c ∈ out
structure Look (s : St) (nm x : ByteArray) (j : Nat) (out xs : List ByteArray) : Prop where
 nd : out.Nodup
 desc : ∀ n ∈ out, Desc s nm n
 from' : ∀ x ∈ xs, x = nm ∨ x ∈ out
 seen : ∀ y, (y = nm ∨ y ∈ out) → y ∈ xs ∨ y = x ∨ ∀ c ∈ childrenP s y, c ∈ out
 mine : x = nm ∨ x ∈ out
 done : ∀ c ∈ (childrenP s x).take j, c ∈ out
theorem found_start (s : St) (nm : ByteArray) : Found s nm [] [nm] := ⟨List.nodup_nil, by simp, by simp, fun x hx => .inl (by simpa using hx)⟩
theorem found_pop {s : St} {nm x : ByteArray} {out xs : List ByteArray} (h : Found s nm out (x :: xs)) : Look s nm x 0 out xs :=
 ⟨h.nd, h.desc, fun y hy => h.from' y (by simp [hy]), fun y hy => by
  rcases h.seen y hy with h1 | h1
  · rcases List.mem_cons.1 h1 with rfl | h1
    · exact .inr (.inl rfl)
    · exact .inl h1
  · exact .inr (.inr h1), h.from' x (by simp), by simp⟩
theorem look_end {s : St} {nm x : ByteArray} {out xs : List ByteArray} (h : Look s nm x (childrenP s x).length out xs) : Found s nm out xs :=
 ⟨h.nd, h.desc, h.from', fun y hy => by
  rcases h.seen y hy with h1 | rfl | h1
  · exact .inl h1
  · exact .inr fun c hc => h.done c (by simpa using hc)
  · exact .inr h1⟩
theorem look_old {s : St} {nm x : ByteArray} {j : Nat} {out xs : List ByteArray} (h : Look s nm x j out xs) (hj : j < (childrenP s x).length) (hc : (childrenP s x)[j] ∈ out) : Look s nm x (j + 1) out xs :=
 ⟨h.nd, h.desc, h.from', h.seen, h.mine, fun c hc' => by
  rw [List.take_succ_eq_append_getElem hj] at hc'
  rcases List.mem_append.1 hc' with h1 | h1
  · exact h.done c h1
  · rw [List.mem_singleton.1 h1]; exact hc⟩
theorem look_new {s : St} {nm x : ByteArray} {j : Nat} {out xs : List ByteArray} (h : Look s nm x j out xs) (hj : j < (childrenP s x).length) (hc : (childrenP s x)[j] ∉ out) : Look s nm x (j + 1) (out ++ [(childrenP s x)[j]]) (xs ++ [(childrenP s x)[j]]) := by
 have hmem : (childrenP s x)[j] ∈ childrenP s x := List.getElem_mem _
 refine ⟨?_, fun n hn => ?_, fun y hy => ?_, fun y hy => ?_, ?_, fun c hc' => ?_⟩
 · exact List.nodup_append.2 ⟨h.nd, by simp, fun a ha b hb e => by rw [List.mem_singleton.1 hb] at e; exact hc (e ▸ ha)⟩
 · rcases List.mem_append.1 hn with h1 | h1
   · exact h.desc n h1
   · rw [List.mem_singleton.1 h1]
     rcases h.mine with rfl | hm
     · exact desc_child hmem
     · exact desc_step (h.desc x hm) hmem
 · rcases List.mem_append.1 hy with h1 | h1
   · rcases h.from' y h1 with h2 | h2
     · exact .inl h2
     · exact .inr (by simp [h2])
   · exact .inr (by simp [List.mem_singleton.1 h1])
 · rcases hy with hy | hy
   · rcases h.seen y (.inl hy) with h1 | h1 | h1
     · exact .inl (by simp [h1])
     · exact .inr (.inl h1)
     · exact .inr (.inr fun c hc => by simp [h1 c hc])
   · rcases List.mem_append.1 hy with h1 | h1
     · rcases h.seen y (.inr h1) with h2 | h2 | h2
       · exact .inl (by simp [h2])
       · exact .inr (.inl h2)
       · exact .inr (.inr fun c hc => by simp [h2 c hc])
     · exact .inl (by simp [List.mem_singleton.1 h1])
 · rcases h.mine with h1 | h1
   · exact .inl h1
   · exact .inr (by simp [h1])
 · rw [List.take_succ_eq_append_getElem hj] at hc'
   rcases List.mem_append.1 hc' with h1 | h1
   · simp [h.done c h1]
   · simp [List.mem_singleton.1 h1]
theorem found_end {s : St} {nm : ByteArray} {out : List ByteArray} (h : Found s nm out []) : ∀ n, n ∈ out ↔ Desc s nm n := fun n => by
 refine ⟨h.desc n, fun hd => desc_closed (out := fun x => x ∈ out) ?_ ?_ hd⟩
 · intro c hc
   rcases h.seen nm (.inl rfl) with h1 | h1
   · simp at h1
   · exact h1 c hc
 · intro x hx c hc
   rcases h.seen x (.inr hx) with h1 | h1
   · simp at h1
   · exact h1 c hc
theorem nodup_le {α : Type} [DecidableEq α] : ∀ {a b : List α}, a.Nodup → (∀ x ∈ a, x ∈ b) → a.length ≤ b.length
 | [], _, _, _ => Nat.zero_le _
 | x :: a, b, h, hs => by
  have h' := List.nodup_cons.1 h
  have hx : x ∈ b := hs x (by simp)
  have h1 : a.length ≤ (b.erase x).length := nodup_le h'.2 fun y hy => by
   have hne : y ≠ x := fun e => h'.1 (e ▸ hy)
   exact (List.mem_erase_of_ne hne).2 (hs y (by simp [hy]))
  have h2 := List.length_erase_of_mem hx
  have h3 : 0 < b.length := List.length_pos_of_mem hx
  simp only [List.length_cons]
  omega
theorem out_few {s : St} {nm : ByteArray} {out : List ByteArray} (hn : out.Nodup) (hd : ∀ n ∈ out, Desc s nm n) : out.length ≤ s.children.length := by
 have hsub : ∀ n ∈ out, n ∈ s.children.map (·.2) := fun n hn' => by
  have : ∃ y, (y, n) ∈ s.children := by
   cases hd n hn' with
   | single h => exact ⟨nm, mem_children.1 h⟩
   | tail _ h => exact ⟨_, mem_children.1 h⟩
  obtain ⟨y, hy⟩ := this
  exact List.mem_map.2 ⟨(y, n), hy, rfl⟩
 haveI : DecidableEq ByteArray := fun a b => Classical.propDecidable _
 have := nodup_le hn hsub
 simpa using this
end Go.Proofs.YtkhkhnellekofaaGreatDoor
namespace Go.Proofs.YtkhkhnellekofaaGreatDoor
open Go.RowKit Go.Shelf
attribute [local go_sem] World.cell?_alloc_mark ext_size ext_cell ext_frozen lt_add_r lt_add_r2 lt_add_r3 lt_add_r4 lt_add_r5 lt_add_r6 lt_add_r7 lt_add_r8
attribute [local go_sem] ext_setCell alloc_setCell_lt

set_option maxRecDepth 100000 in
set_option maxHeartbeats 2000000 in
theorem addMonths_any (day mo : Int) (w : World) (hL : LensIn w) (h0 : 0 ≤ day) (h1 : day ≤ 200000) (hm0 : 0 ≤ mo) (hm1 : mo ≤ 12000) :
    Calls Tryz.prog 32 #[.int .i64 day, .int .i64 mo] w (fun e w' => ∃ n er : Int, (er = 0 → addMonthsP day mo = n ∧ 0 ≤ n) ∧ (er ≠ 0 → addMonthsP day mo = -1) ∧ Ret w (.tuple #[.int .i64 n, .int .i64 er]) e w') := by
 have hd1 : inR day 0 200000 = true := by simp [inR]; omega
 have hd2 : inR mo (-12000) 12000 = true := by simp [inR]; omega
 have HL := Lib.hid (rlater_any day mo w hL h0 h1 (by omega) hm1)
 go_enter Tryz.func32, Tryz.ntmps32
 go_wp2_with (first
  | (go_at_call 59; refine (risDay_any _ _).mono ?_; rintro e wq ⟨rfl, rfl⟩; unfold isDayP; rw [hd1])
  | (go_at_call 60; refine (rwithin_any _ _ _ _).mono ?_; rintro e wq ⟨rfl, rfl⟩; rw [hd2])
  | (go_at_call 61; refine (HL.out).mono ?_; rintro e wq ⟨n, ok, h1, h2, rfl, z, rfl⟩; have H1 := Lib.hid h1; have H2 := Lib.hid h2; clear h1 h2; cases ok))
 all_goals go_ret2
 all_goals first
  | exact ⟨0, 2, by simp, fun _ => H2.out trivial, Ret.of rfl Bw⟩
  | exact ⟨n, 0, fun _ => H1.out trivial, by simp, Ret.of rfl Bw⟩
set_option maxRecDepth 100000 in
set_option maxHeartbeats 2000000 in
theorem later5_any (day ys : Int) (w : World) (hL : LensIn w) (h0 : 0 ≤ day) (h1 : day ≤ 200000) (hm0 : 0 ≤ ys) (hm1 : ys ≤ 99) :
    Calls Tryz.prog 125 #[.int .i64 day, .int .i64 ys] w (Ret w (.int .i64 (afterP day ys))) := by
 have HL := Lib.hid (addMonths_any day (12 * ys) w hL h0 h1 (by omega) (by omega))
 go_enter Tryz.func125, Tryz.ntmps125
 go_wp2_with (go_at_call 32; refine (HL.out).mono ?_; rintro e wq ⟨n, er, k1, k2, rfl, z, rfl⟩; have H1 := Lib.hid k1; have H2 := Lib.hid k2; clear k1 k2; by_cases her : er = 0)
 all_goals go_ret
 all_goals first
  | exact Ret.of (int_eq (by unfold afterP; exact (H1.out (by first | trivial | exact her)).1.symm)) Bw
  | exact Ret.of (int_eq (by unfold afterP; exact (H2.out (by first | trivial | exact her)).symm)) Bw
end Go.Proofs.YtkhkhnellekofaaGreatDoor
namespace Go.Proofs.YtkhkhnellekofaaGreatDoor
open Go.RowKit

theorem share_set {l : Parts} (h : GoodParts l) {n : ByteArray} {q : Rat} (m : ByteArray) : shareP (setP l n q) m = if sameB m n then q else shareP l m := by
 have hw := without_good h (n := n)
 have h0 : shareP (withoutP l n) n = 0 := by rw [share_without, same_refl]; rfl
 rw [set_keeps h.asc]
 by_cases hq : q == 0
 · rw [if_pos hq, share_without]
   have : q = 0 := by simpa using hq
   rw [this]
 · rw [if_neg hq, share_given hw, h0, Rat.zero_add]
   cases hs : sameB m n
   · simp only [Bool.false_eq_true, if_false]
     rw [share_without, hs]
     rfl
   · rfl
theorem eqS_same (a b : ByteArray) : eqS a b = sameB a b := rfl
theorem mget_mput {V : Type} (k : ByteArray) (v : V) (n : ByteArray) : ∀ m : List (ByteArray × V), mget eqS n (mput eqS k v m) = if sameB n k then some v else mget eqS n m
 | [] => rfl
 | x :: m => by
  rw [mput]
  have hkx : eqS k x.1 = sameB k x.1 := rfl
  rw [hkx]
  cases hk : sameB k x.1
  · rw [if_neg (by simp), mget, mget, mget_mput k v n m]
    have hnx : eqS n x.1 = sameB n x.1 := rfl
    rw [hnx]
    cases hn : sameB n x.1
    · simp
    · have hnk : sameB n k = false := by
        rw [same_ne]
        intro e
        rw [same_iff] at hn
        rw [same_ne] at hk
        exact hk (e ▸ hn)
      simp [hnk]
  · have hkx : k = x.1 := same_iff.1 hk
    rw [if_pos rfl, mget, mget]
    show (if sameB n k = true then _ else _) = _
    cases hn : sameB n k
    · have : eqS n x.1 = false := by rw [eqS_same, ← hkx, hn]
      simp [this]
    · simp
theorem mput_keys {V : Type} (k : ByteArray) (v : V) : ∀ m : List (ByteArray × V), (m.map (·.1)).Nodup → ((mput eqS k v m).map (·.1)).Nodup ∧ ∀ x ∈ (mput eqS k v m).map (·.1), x = k ∨ x ∈ m.map (·.1)
 | [], _ => by simp [mput]
 | x :: m, h => by
  rw [mput]
  have hkx : eqS k x.1 = sameB k x.1 := rfl
  rw [hkx]
  rw [List.map_cons, List.nodup_cons] at h
  cases hk : sameB k x.1
  · obtain ⟨h1, h2⟩ := mput_keys k v m h.2
    rw [if_neg (by simp), List.map_cons]
    refine ⟨List.nodup_cons.2 ⟨fun hx => ?_, h1⟩, fun y hy => ?_⟩
    · rcases h2 _ hx with e | e
      · rw [e, same_refl] at hk; cases hk
      · exact h.1 e
    · rcases List.mem_cons.1 hy with rfl | hy
      · exact .inr (by simp)
      · rcases h2 y hy with e | e
        · exact .inl e
        · exact .inr (by simp [e])
  · have e : k = x.1 := same_iff.1 hk
    rw [if_pos rfl, List.map_cons]
    refine ⟨List.nodup_cons.2 ⟨by rw [e]; exact h.1, h.2⟩, fun y hy => ?_⟩
    rcases List.mem_cons.1 hy with rfl | hy
    · exact .inl rfl
    · exact .inr (by simp [hy])
theorem mget_mem {V : Type} {n : ByteArray} {v : V} : ∀ {m : List (ByteArray × V)}, mget eqS n m = some v → (n, v) ∈ m
 | [], h => by simp [mget] at h
 | x :: m, h => by
  rw [mget] at h
  have hnx : eqS n x.1 = sameB n x.1 := rfl
  rw [hnx] at h
  cases hn : sameB n x.1
  · rw [hn, if_neg (by simp)] at h
    exact List.mem_cons_of_mem _ (mget_mem h)
  · rw [hn, if_pos rfl] at h
    have e := same_iff.1 hn
    simp only [Option.some.injEq] at h
    rw [e, ← h]
    exact List.mem_cons_self
theorem mem_mget {V : Type} {n : ByteArray} {v : V} : ∀ {m : List (ByteArray × V)}, (m.map (·.1)).Nodup → (n, v) ∈ m → mget eqS n m = some v
 | [], _, h => by simp at h
 | x :: m, hd, h => by
  rw [List.map_cons, List.nodup_cons] at hd
  rw [mget]
  have hnx : eqS n x.1 = sameB n x.1 := rfl
  rw [hnx]
  rcases List.mem_cons.1 h with rfl | h
  · rw [same_refl, if_pos rfl]
  · have hne : sameB n x.1 = false := same_ne.2 fun e => hd.1 (by rw [← e]; exact List.mem_map.2 ⟨_, h, rfl⟩)
    rw [hne, if_neg (by simp)]
    exact mem_mget hd.2 h
end Go.Proofs.YtkhkhnellekofaaGreatDoor
namespace Go.Proofs.YtkhkhnellekofaaGreatDoor

section
variable {P : Program} {ops : Array Oper} {md : Region.Mode} {w₀ : World}
end
theorem stays (w : World) : ∃ z', w = w.ext z' := ⟨⟨#[], w.drawn⟩, by simp [World.ext]⟩
end Go.Proofs.YtkhkhnellekofaaGreatDoor
namespace Go.Proofs.YtkhkhnellekofaaGreatDoor
open Go.RowKit Go.Shelf

def sortPart_ren : Go.Shelf.Ren := ⟨fun | 6 => 145 | 15 => 154 | 14 => 153 | 28 => 166 | 29 => 167 | 20 => 158 | 21 => 159 | 22 => 160 | 23 => 161 | 24 => 162 | 25 => 163 | 26 => 164 | 27 => 165 | 46 => 170 | 47 => 171 | 48 => 172 | 49 => 173 | 50 => 174 | 57 => 175 | n => n, fun | 22 => 53 | 24 => 63 | 25 => 178 | 3 => 3 | 39 => 95 | 0 => 0 | 53 => 124 | 55 => 126 | 4 => 4 | 46 => 192 | 45 => 191 | 50 => 91 | 5 => 5 | 9 => 9 | 66 => 198 | 70 => 202 | 76 => 204 | 77 => 205 | n => n, fun | n => n⟩
theorem sortPart : Go.Proofs.SlLaysF0.n6 Tryz.prog sortPart_ren := {
 mixed := by kernel_rfl
 f6 := ⟨Tryz.f145.name, by decide, Tryz.func145.trans (congrArg some (by kernel_rfl))⟩
 f14 := ⟨Tryz.f153.name, by decide, Tryz.func153.trans (congrArg some (by kernel_rfl))⟩
 f15 := Tryz.func154.trans (congrArg some (by kernel_rfl))
 f20 := ⟨Tryz.f158.name, by decide, Tryz.func158.trans (congrArg some (by kernel_rfl))⟩
 f21 := ⟨Tryz.f159.name, by decide, Tryz.func159.trans (congrArg some (by kernel_rfl))⟩
 f22 := ⟨Tryz.f160.name, by decide, Tryz.func160.trans (congrArg some (by kernel_rfl))⟩
 f23 := ⟨Tryz.f161.name, by decide, Tryz.func161.trans (congrArg some (by kernel_rfl))⟩
 f24 := ⟨Tryz.f162.name, by decide, Tryz.func162.trans (congrArg some (by kernel_rfl))⟩
 f25 := ⟨Tryz.f163.name, by decide, Tryz.func163.trans (congrArg some (by kernel_rfl))⟩
 f26 := ⟨Tryz.f164.name, by decide, Tryz.func164.trans (congrArg some (by kernel_rfl))⟩
 f27 := ⟨Tryz.f165.name, by decide, Tryz.func165.trans (congrArg some (by kernel_rfl))⟩
 f28 := Tryz.func166.trans (congrArg some (by kernel_rfl))
 f29 := Tryz.func167.trans (congrArg some (by kernel_rfl))
 f46 := ⟨Tryz.f170.name, by decide, Tryz.func170.trans (congrArg some (by kernel_rfl))⟩
 f47 := Tryz.func171.trans (congrArg some (by kernel_rfl))
 f48 := Tryz.func172.trans (congrArg some (by kernel_rfl))
 f49 := ⟨Tryz.f173.name, by decide, Tryz.func173.trans (congrArg some (by kernel_rfl))⟩
 f50 := ⟨Tryz.f174.name, by decide, Tryz.func174.trans (congrArg some (by kernel_rfl))⟩
 f57 := ⟨Tryz.f175.name, by decide, Tryz.func175.trans (congrArg some (by kernel_rfl))⟩
 t0 := Tryz.underlying0
 a0 := Tryz.isAgg0
 z0 := Tryz.sizeOf0
 v0 := Tryz.zeroValue0
 t3 := Tryz.underlying3
 a3 := Tryz.isAgg3
 z3 := Tryz.sizeOf3
 v3 := Tryz.zeroValue3
 t4 := Tryz.underlying4
 a4 := Tryz.isAgg4
 z4 := Tryz.sizeOf4
 v4 := Tryz.zeroValue4
 t5 := Tryz.underlying5
 a5 := Tryz.isAgg5
 z5 := Tryz.sizeOf5
 v5 := Tryz.zeroValue5
 t9 := Tryz.underlying9
 a9 := Tryz.isAgg9
 z9 := Tryz.sizeOf9
 v9 := Tryz.zeroValue9
 t22 := Tryz.underlying53
 a22 := Tryz.isAgg53
 z22 := Tryz.sizeOf53
 v22 := Tryz.zeroValue53
 t25 := Tryz.underlying178
 a25 := Tryz.isAgg178
 z25 := Tryz.sizeOf178
 v25 := Tryz.zeroValue178
 t39 := Tryz.underlying95
 a39 := Tryz.isAgg95
 z39 := Tryz.sizeOf95
 v39 := Tryz.zeroValue95
 t45 := Tryz.underlying191
 a45 := Tryz.isAgg191
 z45 := Tryz.sizeOf191
 v45 := Tryz.zeroValue191
 t46 := Tryz.underlying192
 a46 := Tryz.isAgg192
 z46 := Tryz.sizeOf192
 v46 := Tryz.zeroValue192
 t50 := Tryz.underlying91
 a50 := Tryz.isAgg91
 z50 := Tryz.sizeOf91
 v50 := Tryz.zeroValue91
 t53 := Tryz.underlying124
 a53 := Tryz.isAgg124
 z53 := Tryz.sizeOf124
 v53 := Tryz.zeroValue124
 t55 := Tryz.underlying126
 a55 := Tryz.isAgg126
 z55 := Tryz.sizeOf126
 v55 := Tryz.zeroValue126
 t66 := Tryz.underlying198
 a66 := Tryz.isAgg198
 z66 := Tryz.sizeOf198
 v66 := Tryz.zeroValue198
 t70 := Tryz.underlying202
 a70 := Tryz.isAgg202
 z70 := Tryz.sizeOf202
 v70 := Tryz.zeroValue202
 t76 := Tryz.underlying204
 a76 := Tryz.isAgg204
 z76 := Tryz.sizeOf204
 v76 := Tryz.zeroValue204
 t77 := Tryz.underlying205
 a77 := Tryz.isAgg205
 z77 := Tryz.sizeOf205
 v77 := Tryz.zeroValue205 }
end Go.Proofs.YtkhkhnellekofaaGreatDoor
namespace Go.Proofs.YtkhkhnellekofaaGreatDoor
open Go.RowKit

theorem gives_bd {out : Parts} {t f : Rat} {n : ByteArray} {fl : Bool} (h : Bd out t) (hf : 0 ≤ f) : Bd (givesF n f (out, fl)).1 (t + f) := h.set n hf
theorem Bd.up6 {out : Parts} {t u : Rat} (h : Bd out t) (hu : t ≤ u) : Bd out u := ⟨h.good, h.small, Rat.le_trans h.le hu⟩
theorem seen_len {part : Rat} (hp : 0 ≤ part) (n : Nat) : seenQ (part * (1 / (n : Rat))) * (n : Rat) ≤ part := by
 have h1 := seen_le (div_nonneg5 hp n)
 by_cases hn : n = 0
 · subst hn
   have : ((0 : Nat) : Rat) = 0 := rfl
   rw [this, Rat.mul_zero]
   exact hp
 · have hn0 : (n : Rat) ≠ 0 := by
     have := ratI (n := (n : Int)) (by omega)
     rwa [Rat.intCast_natCast] at this
   have h2 : part * (1 / (n : Rat)) * (n : Rat) = part := by
    rw [div_one]
    exact Rat.div_mul_cancel hn0
   have h3 := Rat.mul_le_mul_of_nonneg_right h1 (Rat.natCast_nonneg (a := n))
   rw [h2] at h3
   exact h3
theorem cast_succ (n : Nat) : ((n + 1 : Nat) : Rat) = (n : Rat) + 1 := by
 rw [Rat.natCast_add]
 rfl
mutual
theorem lines_bd {part : Rat} (hp : 0 ≤ part) : ∀ {l : List Tree} {out : Parts} {fl : Bool} {t : Rat}, Bd out t → Bd (linesF part l (out, fl)).1 (t + part * (l.length : Rat))
 | [], out, fl, t, h => by
  rw [linesF]
  have e : ((([] : List Tree).length : Nat) : Rat) = 0 := rfl
  rw [e, Rat.mul_zero, Rat.add_zero]
  exact h
 | x :: l, out, fl, t, h => by
  rw [linesF]
  have h1 := lines_bd hp (l := l) (fl := (treeF part x (out, fl)).2) (tree_bd hp (t' := x) (fl := fl) h)
  rw [List.length_cons, cast_succ]
  exact h1.up6 (by grind)
theorem tree_bd {part : Rat} (hp : 0 ≤ part) : ∀ {t' : Tree} {out : Parts} {fl : Bool} {t : Rat}, Bd out t → Bd (treeF part t' (out, fl)).1 (t + part)
 | .leaf n, out, fl, t, h => by
  rw [treeF]
  exact gives_bd h hp
 | .node l, out, fl, t, h => by
  rw [treeF]
  have h1 := lines_bd (seen_nonneg (div_nonneg5 hp l.length)) (l := l) (fl := fl || bigQ (part * (1 / (l.length : Rat)))) h
  have h2 := seen_len hp l.length
  exact h1.up6 (by grind)
end
def WideN : Nat → List Tree → Prop
 | 0, l => l = []
 | f + 1, l => l.length ≤ 1000 ∧ ∀ l', Tree.node l' ∈ l → WideN f l'
theorem trees_wide {s : St} {stems : Bool} {frm : ByteArray} (hl : s.children.length ≤ 1000) : ∀ (f : Nat) (n : ByteArray), WideN f (treesP s stems frm f n)
 | 0, _ => rfl
 | f + 1, n => by
  refine ⟨?_, fun l' hm => ?_⟩
  · unfold treesP
    refine Nat.le_trans (List.length_filterMap_le _ _) ?_
    have : (childrenP s n).length ≤ s.children.length := by unfold childrenP; rw [List.length_map]; exact List.length_filter_le _ _
    omega
  · unfold treesP at hm
    obtain ⟨c, _, hc⟩ := List.mem_filterMap.1 hm
    split at hc
    · simp at hc
    · split at hc
      · simp only [Option.some.injEq, Tree.node.injEq] at hc
        rw [← hc]
        exact trees_wide hl f c
      · cases hc
theorem one_over {n : Nat} (h : 0 < n) : ((1 : Rat) / (n : Rat)).num = 1 ∧ (((1 : Rat) / (n : Rat)).den : Int) = n ∧ 0 ≤ (1 : Rat) / (n : Rat) ∧ (1 : Rat) / (n : Rat) ≤ 1 := by
 have hs : isShareP (n : Int) 1 (n : Int) = true := by
  unfold isShareP
  simp
  omega
 have := share_rat hs
 rw [Rat.divInt_eq_div, Rat.intCast_natCast] at this
 exact this
theorem one_small {n : Nat} (h : 0 < n) (h1 : n ≤ 1000) : small5 ((1 : Rat) / (n : Rat)) := by
 obtain ⟨h2, h3, h4, h5⟩ := one_over h
 exact small_q h4 h5 (by unfold bigQ; rw [h3]; simp; omega)
theorem part_ok {q : Rat} (h0 : 0 ≤ q) (h1 : q ≤ 1) {n : Nat} (hn : 0 < n) : 0 ≤ seenQ (q * (1 / (n : Rat))) ∧ seenQ (q * (1 / (n : Rat))) ≤ 1 ∧ small5 (seenQ (q * (1 / (n : Rat)))) ∧ seenQ (q * (1 / (n : Rat))) * (n : Rat) ≤ q := by
 have h2 := seen_nonneg (div_nonneg5 h0 n)
 have h3 := seen_len h0 n
 have h4 : seenQ (q * (1 / (n : Rat))) ≤ seenQ (q * (1 / (n : Rat))) * (n : Rat) := by
  have h5 : (1 : Rat) ≤ (n : Rat) := by
   have : ((1 : Nat) : Rat) ≤ (n : Rat) := Rat.natCast_le_natCast.2 hn
   exact this
  have := Rat.mul_le_mul_of_nonneg_left h5 h2
  rwa [Rat.mul_one] at this
 have h6 : seenQ (q * (1 / (n : Rat))) ≤ 1 := Rat.le_trans h4 (Rat.le_trans h3 h1)
 exact ⟨h2, h6, small_q h2 h6 (seen_big _), h3⟩
theorem take_le {part : Rat} (hp : 0 ≤ part) {k n : Nat} (h : k ≤ n) : part * (k : Rat) ≤ part * (n : Rat) :=
 Rat.mul_le_mul_of_nonneg_left (Rat.natCast_le_natCast.2 h) hp
theorem linesF_snoc (part : Rat) (l : List Tree) (x : Parts × Bool) {k : Nat} (h : k < l.length) : linesF part (l.take (k + 1)) x = treeF part l[k] (linesF part (l.take k) x) := by
 rw [List.take_succ_eq_append_getElem h, linesF_append, linesF, linesF]
end Go.Proofs.YtkhkhnellekofaaGreatDoor
namespace Go.Proofs.YtkhkhnellekofaaGreatDoor
open Go.RowKit

def colOf (out : Parts) (p : ByteArray × Value) : Option (ByteArray × Rat) := if 0 < shareP out p.1 then some (p.1, shareP out p.1) else none
def colP (out : Parts) (l : List (ByteArray × Value)) : Parts := l.filterMap (colOf out)
theorem colP_snoc (out : Parts) (l : List (ByteArray × Value)) (p : ByteArray × Value) : colP out (l ++ [p]) = colP out l ++ (colOf out p).toList := by
 unfold colP
 rw [List.filterMap_append]
 cases h : colOf out p <;> simp [List.filterMap, h]
theorem share_find {l : Parts} {n : ByteArray} (h : shareP l n ≠ 0) : (n, shareP l n) ∈ l := by
 unfold shareP at h ⊢
 cases hf : l.find? (fun p => sameB p.1 n) with
 | none => rw [hf] at h; exact absurd rfl h
 | some p =>
  have h1 := List.mem_of_find?_eq_some hf
  have h2 := List.find?_some hf
  have h3 : p.1 = n := same_iff.1 h2
  rw [← h3]
  exact h1
theorem good_nodup {l : Parts} (h : GoodParts l) : l.Nodup := by
 refine h.asc.imp fun {a b} hab e => ?_
 rw [e, lessN_irr] at hab
 cases hab
theorem col_perm {out : Parts} (hg : GoodParts out) {mm : List (ByteArray × Value)} (hnd : (mm.map (·.1)).Nodup) (hget : ∀ n, (mget eqS n mm = none ∧ shareP out n = 0) ∨ mget eqS n mm = some (fracV (shareP out n))) : (colP out mm).Perm out := by
 refine (List.perm_ext_iff_of_nodup ?_ (good_nodup hg)).2 fun a => ?_
 · unfold colP
   have h1 : ((mm.map (·.1)).filterMap fun n => if 0 < shareP out n then some (n, shareP out n) else none).Nodup := by
    refine List.Pairwise.filterMap _ ?_ hnd
    intro a b hab x hx y hy e
    split at hx
    · split at hy
      · simp only [Option.some.injEq] at hx hy
        rw [← hx, ← hy] at e
        exact hab (congrArg Prod.fst e)
      · cases hy
    · cases hx
   rw [List.filterMap_map] at h1
   exact h1
 · constructor
   · intro ha
     obtain ⟨p, hp, h1⟩ := List.mem_filterMap.1 ha
     unfold colOf at h1
     split at h1
     · rename_i h0
       simp only [Option.some.injEq] at h1
       rw [← h1]
       exact share_find (by intro e; rw [e] at h0; exact absurd h0 (by decide))
     · cases h1
   · intro ha
     have h1 := share_mem hg ha
     have h2 := hg.pos a ha
     have h3 : mget eqS a.1 mm = some (fracV (shareP out a.1)) := by
      rcases hget a.1 with ⟨_, h⟩ | h
      · rw [h1] at h
        rw [h] at h2
        exact absurd h2 (by decide)
      · exact h
     refine List.mem_filterMap.2 ⟨_, mget_mem h3, ?_⟩
     unfold colOf
     rw [h1, if_pos h2]
def UpP (L : Parts) : Prop := L.Pairwise fun a b => lessN b.1 a.1 = false
theorem parts_unique {ls L : Parts} (h : GoodParts ls) (hp : L.Perm ls) (hs : UpP L) : L = ls := by
 have hs' : L.Pairwise (fun x y : ByteArray × Rat => lessN y.1 x.1 = false) := hs
 refine List.Perm.eq_of_pairwise (le := fun x y : ByteArray × Rat => lessN y.1 x.1 = false) ?_ hs' ?_ hp
 · intro a b ha hb h1 h2
   have ha' : a ∈ ls := hp.mem_iff.1 ha
   obtain ⟨i, hi, rfl⟩ := List.getElem_of_mem ha'
   obtain ⟨j, hj, rfl⟩ := List.getElem_of_mem hb
   rcases Nat.lt_trichotomy i j with hij | hij | hij
   · have := List.pairwise_iff_getElem.1 h.asc i j hi hj hij
     rw [this] at h2; cases h2
   · subst hij; rfl
   · have := List.pairwise_iff_getElem.1 h.asc j i hj hi hij
     rw [this] at h1; cases h1
 · refine h.asc.imp fun {a b} hab => ?_
   exact lessN_asym hab
theorem erase_perm {α : Type} {x : α} : ∀ {l : List α} {i : Nat}, l[i]? = some x → (x :: l.eraseIdx i).Perm l
 | [], i, h => by simp at h
 | y :: l, 0, h => by
  simp only [List.getElem?_cons_zero, Option.some.injEq] at h
  rw [h]
  exact List.Perm.refl _
 | y :: l, i + 1, h => by
  simp only [List.getElem?_cons_succ] at h
  rw [List.eraseIdx_cons_succ]
  exact (List.Perm.swap y x _).trans (List.Perm.cons y (erase_perm h))
theorem done_perm {α : Type} {d l m : List α} {i : Nat} {x : α} (h : (d ++ l).Perm m) (hx : l[i]? = some x) : ((d ++ [x]) ++ l.eraseIdx i).Perm m := by
 rw [List.append_assoc]
 refine List.Perm.trans ?_ h
 exact List.Perm.append_left d (erase_perm hx)
theorem willF_append (s : St) (frm : ByteArray) : ∀ (a b : Parts) (x : Parts × Bool) (rest : Rat), willF s frm (a ++ b) x rest = willF s frm b (willF s frm a x rest).1 (willF s frm a x rest).2
 | [], _, _, _ => rfl
 | p :: a, b, x, rest => by
  rw [List.cons_append, willF, willF]
  split <;> exact willF_append s frm a b _ _
theorem will_snoc (s : St) (frm : ByteArray) (l : Parts) (x : Parts × Bool) (rest : Rat) {k : Nat} (h : k < l.length) : willF s frm (l.take (k + 1)) x rest =
    if ableP s l[k].1 frm then (givesF l[k].1 l[k].2 (willF s frm (l.take k) x rest).1, (willF s frm (l.take k) x rest).2 - l[k].2) else willF s frm (l.take k) x rest := by
 rw [List.take_succ_eq_append_getElem h, willF_append, willF, willF, willF]
end Go.Proofs.YtkhkhnellekofaaGreatDoor
namespace Go.Proofs.YtkhkhnellekofaaGreatDoor
open Go.RowKit

theorem asc_ext : ∀ {a b : List Nat}, a.Pairwise (· < ·) → b.Pairwise (· < ·) → (∀ i, i ∈ a ↔ i ∈ b) → a = b
 | [], [], _, _, _ => rfl
 | [], y :: b, _, _, h => absurd ((h y).2 (by simp)) (by simp)
 | x :: a, [], _, _, h => absurd ((h x).1 (by simp)) (by simp)
 | x :: a, y :: b, ha, hb, h => by
  have ha1 := List.pairwise_cons.1 ha
  have hb1 := List.pairwise_cons.1 hb
  have hxy : x = y := by
   rcases List.mem_cons.1 ((h x).1 (by simp)) with e | hx
   · exact e
   · rcases List.mem_cons.1 ((h y).2 (by simp)) with e | hy
     · exact e.symm
     · have := hb1.1 x hx
       have := ha1.1 y hy
       omega
  subst hxy
  congr 1
  refine asc_ext ha1.2 hb1.2 fun i => ?_
  constructor
  · intro hi
    rcases List.mem_cons.1 ((h i).1 (by simp [hi])) with e | k
    · have := ha1.1 i hi; omega
    · exact k
  · intro hi
    rcases List.mem_cons.1 ((h i).2 (by simp [hi])) with e | k
    · have := hb1.1 i hi; omega
    · exact k
def bitsP (n set : Nat) : List Nat := (List.range n).filter fun i => set.testBit i
theorem bits_set (n set : Nat) : SetOf n (bitsP n set) :=
 ⟨List.pairwise_lt_range.sublist List.filter_sublist, fun i hi => List.mem_range.1 (List.mem_filter.1 hi).1⟩
theorem bits_ex (f : Nat → Bool) : ∀ n, ∃ set, set < 2 ^ n ∧ ∀ i, i < n → set.testBit i = f i
 | 0 => ⟨0, by decide, fun _ h => absurd h (Nat.not_lt_zero _)⟩
 | n + 1 => by
  obtain ⟨set, h1, h2⟩ := bits_ex f n
  have hp : 2 ^ (n + 1) = 2 ^ n + 2 ^ n := by rw [Nat.pow_succ]; omega
  cases hf : f n with
  | false =>
   refine ⟨set, by omega, fun i hi => ?_⟩
   rcases Nat.lt_succ_iff_lt_or_eq.1 hi with hi | rfl
   · exact h2 i hi
   · rw [hf]; exact Nat.testBit_lt_two_pow h1
  | true =>
   refine ⟨2 ^ n + set, by omega, fun i hi => ?_⟩
   rcases Nat.lt_succ_iff_lt_or_eq.1 hi with hi | rfl
   · rw [Nat.testBit_two_pow_add_gt hi]; exact h2 i hi
   · rw [Nat.testBit_two_pow_add_eq, Nat.testBit_lt_two_pow h1, hf]; rfl
theorem bits_all {n : Nat} {t : List Nat} (h : SetOf n t) : ∃ set, set < 2 ^ n ∧ bitsP n set = t := by
 obtain ⟨set, h1, h2⟩ := bits_ex (fun i => decide (i ∈ t)) n
 refine ⟨set, h1, asc_ext (bits_set n _).1 h.1 fun i => ?_⟩
 unfold bitsP
 rw [List.mem_filter, List.mem_range]
 constructor
 · rintro ⟨hi, hb⟩
   rw [h2 i hi] at hb
   simpa using hb
 · intro hi
   have hn := h.2 i hi
   refine ⟨hn, ?_⟩
   rw [h2 i hn]
   simpa using hi
noncomputable def bestStep (l : List Rec) (best : Option (List Nat)) (x : List Nat) : Option (List Nat) := match best with
 | none => if contraP (ofP l x) then some x else none
 | some b => if decide (b.length < x.length) || (x.length == b.length && lexB b x) then some b else if contraP (ofP l x) then some x else some b
def Best (l : List Rec) (n k : Nat) : Option (List Nat) → Prop
 | none => ∀ set, set < k → contraP (ofP l (bitsP n set)) = false
 | some s => (∃ set, set < k ∧ bitsP n set = s) ∧ contraP (ofP l s) = true ∧ ∀ set, set < k → contraP (ofP l (bitsP n set)) = true → s.length < (bitsP n set).length ∨ (s.length = (bitsP n set).length ∧ lexB (bitsP n set) s = false)
theorem best_zero (l : List Rec) (n : Nat) : Best l n 0 none := fun _ h => absurd h (Nat.not_lt_zero _)
theorem best_next {l : List Rec} {n k : Nat} {b : Option (List Nat)} (h : Best l n k b) : Best l n (k + 1) (bestStep l b (bitsP n k)) := by
 cases b with
 | none =>
  unfold bestStep
  dsimp only
  split
  · rename_i hc
    refine ⟨⟨k, Nat.lt_succ_self k, rfl⟩, hc, fun set hs hcs => ?_⟩
    rcases Nat.lt_succ_iff_lt_or_eq.1 hs with hs | rfl
    · rw [h set hs] at hcs; cases hcs
    · exact .inr ⟨rfl, lex_irr _⟩
  · rename_i hc
    intro set hs
    rcases Nat.lt_succ_iff_lt_or_eq.1 hs with hs | rfl
    · exact h set hs
    · simpa using hc
 | some s =>
  obtain ⟨⟨c, hc1, hc2⟩, h2, h3⟩ := h
  unfold bestStep
  dsimp only
  split
  · rename_i hw
    refine ⟨⟨c, by omega, hc2⟩, h2, fun set hs hcs => ?_⟩
    rcases Nat.lt_succ_iff_lt_or_eq.1 hs with hs | rfl
    · exact h3 set hs hcs
    · simp only [Bool.or_eq_true, decide_eq_true_eq, Bool.and_eq_true, beq_iff_eq] at hw
      rcases hw with hw | ⟨hw, hl⟩
      · exact .inl hw
      · refine .inr ⟨hw.symm, ?_⟩
        rw [← Bool.not_eq_true]
        intro hk
        have := lex_trans hl hk
        rw [lex_irr] at this
        cases this
  · rename_i hw
    simp only [Bool.or_eq_true, decide_eq_true_eq, Bool.and_eq_true, beq_iff_eq, not_or, not_and, Nat.not_lt] at hw
    split
    · rename_i hcx
      refine ⟨⟨k, Nat.lt_succ_self k, rfl⟩, hcx, fun set hs hcs => ?_⟩
      rcases Nat.lt_succ_iff_lt_or_eq.1 hs with hs | rfl
      · rcases h3 set hs hcs with a | ⟨a, a2⟩
        · exact .inl (by omega)
        · by_cases he : (bitsP n k).length = s.length
          · refine .inr ⟨by omega, ?_⟩
            rw [← Bool.not_eq_true]
            intro hk
            -- x is not behind s, the set is before x: so it is before s
            have hns := hw.2 he
            rcases lex_tri he with e | e | e
            · have := lex_trans hk e
              rw [a2] at this; cases this
            · rw [e] at hk
              rw [a2] at hk; cases hk
            · exact hns e
          · exact .inl (by omega)
      · exact .inr ⟨rfl, lex_irr _⟩
    · rename_i hcx
      refine ⟨⟨c, by omega, hc2⟩, h2, fun set hs hcs => ?_⟩
      rcases Nat.lt_succ_iff_lt_or_eq.1 hs with hs | rfl
      · exact h3 set hs hcs
      · exact absurd hcs hcx
theorem best_least {l : List Rec} {b : Option (List Nat)} (h : Best l l.length (2 ^ l.length) b) : match b with
    | none => ∀ t, SetOf l.length t → contraP (ofP l t) = false
    | some s => IsLeast l s := by
 cases b with
 | none =>
  intro t ht
  obtain ⟨set, h1, rfl⟩ := bits_all ht
  exact h set h1
 | some s =>
  obtain ⟨⟨c, hc1, hc2⟩, h2, h3⟩ := h
  refine ⟨by rw [← hc2]; exact bits_set _ _, h2, fun t ht hct => ?_⟩
  obtain ⟨set, h1, rfl⟩ := bits_all ht
  exact h3 set h1 hct
end Go.Proofs.YtkhkhnellekofaaGreatDoor
namespace Go.Proofs.YtkhkhnellekofaaGreatDoor
open Go.RowKit

end Go.Proofs.YtkhkhnellekofaaGreatDoor
namespace Go.Proofs.YtkhkhnellekofaaGreatDoor
open Go.RowKit Go.Shelf
attribute [local go_sem] World.cell?_alloc_mark ext_size ext_cell ext_frozen lt_add_r lt_add_r2 lt_add_r3 lt_add_r4 lt_add_r5 lt_add_r6 lt_add_r7 lt_add_r8
attribute [local go_sem] ext_setCell alloc_setCell_lt

def recLens (l : List Rec) : Prop := ∀ x ∈ l, x.name.size ≤ 100000 ∧ x.other.size ≤ 100000 ∧ x.place.size ≤ 100000
set_option maxRecDepth 100000 in
set_option maxHeartbeats 2000000 in
theorem checkRecords_any (l : List Rec) (A : Option Addr) (n c : Nat) (w : World) (hn : n = l.length) (hc : n ≤ c) (hz : recLens l) (hS : Sl w 8 Rec.cells A l) : Calls Tryz.prog 18 #[.slice A n c] w (Ret w (.int .i64 (checkRecsP l))) := by
 subst hn
 have HS := Lib.hid hS
 obtain ⟨R, hR⟩ : ∃ R, R = checkRecsP l := ⟨_, rfl⟩
 rw [← hR]
 unfold checkRecsP at hR
 by_cases h40 : 40 < l.length
 · rw [if_pos (by simpa using h40)] at hR
   subst hR
   have h4 : (40 : Int) < (l.length : Int) := by omega
   clear hS
   go_enter Tryz.func18, Tryz.ntmps18
   go_wp2_with fail
   go_ret
   exact Ret.of rfl Bw
 · rw [if_neg (by simpa using h40)] at hR
   have h4 : ¬ (40 : Int) < (l.length : Int) := by omega
   have HR := Lib.hid hR
   clear hS hR
   go_enter Tryz.func18, Tryz.ntmps18
   go_wp2_with fail
   go_loopw [11] (fun i wr => ∃ k : Nat, k ≤ l.length ∧ i = .int .i64 k ∧ Hid (R = firstErr checkRecP (l.drop k)) ∧ Below w.heap.size w wr) (fun i _ => l.length - (intOf i).toNat)
   case atStart => exact ⟨0, Nat.zero_le _, rfl, by show _ = _; rw [HR.out, List.drop_zero], Below.refl _ _⟩
   case round =>
    obtain ⟨k, hk, rfl, HX, hB⟩ := hrel
    have HB := Lib.hid hB
    by_cases hlt : k < l.length
    · obtain ⟨b, off, rfl, hb, hcc⟩ := (HS.out.keep hB).at hlt
      have hx := HX.out
      rw [List.drop_eq_getElem_cons hlt, firstErr] at hx
      obtain ⟨z1, z2, z3⟩ := hz l[k] (List.getElem_mem hlt)
      have hck := fun W => checkRecord_any l[k] W z1 z2 z3
      generalize l[k] = x at *
      have HX2 := Lib.hid hx
      have HCK := Lib.hid hck
      have HLT := Lib.hid hlt
      unfold Rec.v at HCK
      generalize checkRecP x = er at *
      obtain ⟨kd, nm, ot, pl, dy, tl, nu, de⟩ := x
      have i0 : wr.cell? ⟨b, off + k * 8, none⟩ = some (.int .i64 kd) := hcc 0 _ rfl
      have i1 : wr.cell? ⟨b, off + k * 8 + 1, none⟩ = some (.string nm) := hcc 1 _ rfl
      have i2 : wr.cell? ⟨b, off + k * 8 + 2, none⟩ = some (.string ot) := hcc 2 _ rfl
      have i3 : wr.cell? ⟨b, off + k * 8 + 3, none⟩ = some (.string pl) := hcc 3 _ rfl
      have i4 : wr.cell? ⟨b, off + k * 8 + 4, none⟩ = some (.int .i64 dy) := hcc 4 _ rfl
      have i5 : wr.cell? ⟨b, off + k * 8 + 5, none⟩ = some (.int .i64 tl) := hcc 5 _ rfl
      have i6 : wr.cell? ⟨b, off + k * 8 + 6, none⟩ = some (.int .i64 nu) := hcc 6 _ rfl
      have i7 : wr.cell? ⟨b, off + k * 8 + 7, none⟩ = some (.int .i64 de) := hcc 7 _ rfl
      have hki : (k : Int) < (l.length : Int) := by omega
      have hk0 : (0 : Int) ≤ (k : Int) := by omega
      have hkc : (k : Int) ≤ (c : Int) := by omega
      have hbs := hB.size
      clear hcc hx hck HX hB
      by_cases h0 : er = 0
      · subst h0
        go_wp2_with (go_at_call 49; go_must (refine (HCK.out _).mono ?_); rintro e wq ⟨rfl, z, rfl⟩)
        go_round
        case rel => exact ⟨k + 1, HLT.out, by go_num, by show _ = _; rw [HX2.out]; rfl, HB.out.trans (Below.mono (B := wr.heap.size) Bw hbs)⟩
        case measure => have := HLT.out; simp only [intOf]; omega
      · have HRX : Hid (R = er) := by show _ = _; rw [HX2.out, if_pos (by simpa using h0)]
        go_wp2_with (go_at_call 49; go_must (refine (HCK.out _).mono ?_); rintro e wq ⟨rfl, z, rfl⟩)
        go_ret
        exact Ret.of (int_eq HRX.out.symm) (HB.out.trans (Below.mono (B := wr.heap.size) Bw hbs))
    · have hki : ¬ (k : Int) < (l.length : Int) := by omega
      have hx := HX.out
      rw [List.drop_eq_nil_of_le (by omega), firstErr] at hx
      have HRX : Hid (R = 0) := hx
      clear hx hB
      go_wp2_with fail
      go_ret
      exact Ret.of (int_eq HRX.out.symm) HB.out
end Go.Proofs.YtkhkhnellekofaaGreatDoor
namespace Go.Proofs.YtkhkhnellekofaaGreatDoor
open Go.RowKit

theorem bits_low64 : ∀ a b : Fin 64, a.val * 64 + b.val ≠ 0 → bitsP 12 (a.val * 64 + b.val) = Lib.ctz 64 (a.val * 64 + b.val) :: bitsP 12 ((a.val * 64 + b.val) &&& (a.val * 64 + b.val - 1)) := by decide +kernel
theorem bits_low12 (x : Nat) (hx : x < 4096) (h0 : x ≠ 0) : bitsP 12 x = Lib.ctz 64 x :: bitsP 12 (x &&& (x - 1)) := by
 have h := bits_low64 ⟨x / 64, by omega⟩ ⟨x % 64, by omega⟩
 have e : x / 64 * 64 + x % 64 = x := by omega
 simp only [e] at h
 exact h h0
theorem bits_up {n x : Nat} (hn : n ≤ 12) (hx : x < 2 ^ n) : bitsP n x = bitsP 12 x := by
 unfold bitsP
 have h : List.range 12 = List.range n ++ (List.range (12 - n)).map (n + ·) := by
  rw [← List.range_add]
  congr 1
  omega
 rw [h, List.filter_append]
 have h2 : ((List.range (12 - n)).map (n + ·)).filter (fun i => x.testBit i) = [] := by
  rw [List.filter_eq_nil_iff]
  intro i hi
  obtain ⟨j, _, rfl⟩ := List.mem_map.1 hi
  have : x.testBit (n + j) = false := Nat.testBit_lt_two_pow (Nat.lt_of_lt_of_le hx (Nat.pow_le_pow_right (by decide) (by omega)))
  rw [this]
  decide
 rw [h2, List.append_nil]
theorem and_pred_lt {n x : Nat} (hx : x < 2 ^ n) : x &&& (x - 1) < 2 ^ n := Nat.lt_of_le_of_lt Nat.and_le_left hx
theorem bits_step {n x : Nat} (hn : n ≤ 12) (hx : x < 2 ^ n) (h0 : x ≠ 0) : bitsP n x = Lib.ctz 64 x :: bitsP n (x &&& (x - 1)) := by
 have h12 : x < 4096 := Nat.lt_of_lt_of_le hx (Nat.pow_le_pow_right (n := 2) (by decide) hn)
 rw [bits_up hn hx, bits_up hn (and_pred_lt hx)]
 exact bits_low12 x h12 h0
theorem bits_none (n : Nat) : bitsP n 0 = [] := by
 unfold bitsP
 rw [List.filter_eq_nil_iff]
 intro i _
 simp
theorem and_pred_dec {x : Nat} (h0 : x ≠ 0) : x &&& (x - 1) < x := Nat.lt_of_le_of_lt Nat.and_le_right (by omega)
end Go.Proofs.YtkhkhnellekofaaGreatDoor
namespace Go.Proofs.YtkhkhnellekofaaGreatDoor
open Go.RowKit

end Go.Proofs.YtkhkhnellekofaaGreatDoor
