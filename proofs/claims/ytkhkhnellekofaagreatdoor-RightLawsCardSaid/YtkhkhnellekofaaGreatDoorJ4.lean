/- Walk of chapter 5's lawOn. -/
import Derived.Test.YtkhkhnellekofaaGreatDoorJ1
import Derived.Deep.Cut
import Derived.Deep.CutBlock
set_option linter.unusedSimpArgs false
set_option linter.unusedVariables false
namespace Go.Proofs.YtkhkhnellekofaaGreatDoor
open Go.RowKit
attribute [local go_sem] World.cell?_alloc_mark ext_size ext_cell ext_frozen lt_add_r lt_add_r2 lt_add_r3 lt_add_r4 lt_add_r5 lt_add_r6 lt_add_r7 lt_add_r8
attribute [local go_sem] ext_setCell alloc_setCell_lt

def SeenPost (w : World) (C : Nat) (r : Rat) (e : Ending) (w' : World) : Prop := (r.den ≤ 1000000000 ∧ Ret w (fracV r) e w') ∨ (1000000000 < r.den ∧ Ret (w.setCell ⟨C, 0, none⟩ (.bool true)) (fracV 0) e w')
set_option maxRecDepth 100000 in
set_option maxHeartbeats 2000000 in
theorem seen5_any (C : Nat) (r : Rat) (f : Bool) (w : World) (hc : w.cell? ⟨C, 0, none⟩ = some (.bool f)) (hC : C < w.heap.size) (hf : w.frozen? ⟨C, 0, none⟩ = false) : Calls Tryz.prog 140 #[.pointer (some ⟨C, 0, none⟩), fracV r] w (SeenPost w C r) := by
 by_cases hd : r.den ≤ 1000000000
 · have hd2 : decide ((r.den : Int) > 1000000000) = false := by simp; omega
   unfold fracV
   go_enter Tryz.func140, Tryz.ntmps140
   go_wp2_with fail
   refine bodyPost_ret (v := fracV r) ?_ rfl ?_
   · refine results_frac rfl _ _ _ _ _ rfl ?_ ?_
     · simp [go_sem]
     · simp [go_sem]
   · exact .inl ⟨hd, Ret.of rfl Bw⟩
 · have hd2 : decide ((r.den : Int) > 1000000000) = true := by simp; omega
   unfold fracV
   go_enter Tryz.func140, Tryz.ntmps140
   go_wp2_with fail
   refine bodyPost_ret (v := fracV 0) ?_ rfl ?_
   · refine results_frac rfl _ _ _ _ _ rfl ?_ ?_
     · simp [go_sem, hC]
     · simp [go_sem, hC]
   · refine .inr ⟨by omega, Ret.of rfl ?_⟩
     exact Bw

set_option maxRecDepth 100000 in
set_option maxHeartbeats 2000000 in
theorem cmulI (C : Nat) (f : Bool) (w : World) (hc : w.cell? ⟨C, 0, none⟩ = some (.bool f)) (hC : C < w.heap.size) (hf : w.frozen? ⟨C, 0, none⟩ = false) (a b c d : Int) (ha : a.natAbs ≤ 1000000000) (hb : b.natAbs ≤ 1000000000) (hc2 : c.natAbs ≤ 1000000000) (hd : d.natAbs ≤ 1000000000) (hb0 : 0 < b) (hd0 : 0 < d) : Calls Tryz.prog 130 #[.pointer (some ⟨C, 0, none⟩), .agg #[.int .i64 a, .int .i64 b], .agg #[.int .i64 c, .int .i64 d]] w (SeenPost w C (Rat.divInt (a * c) (b * d))) := by
 obtain ⟨m1, n1⟩ := mul_small ha hc2
 obtain ⟨m3, n3⟩ := mul_small hb hd
 have m4 : 0 < b * d := Int.mul_pos hb0 hd0
 have w1 : IntKind.i64.wrap (a * c) = a * c := IntWalk.i64_in _ (by omega)
 have w3 : IntKind.i64.wrap (b * d) = b * d := IntWalk.i64_in _ (by omega)
 have hs : (a * c).natAbs ≤ 4611686018427387904 := by omega
 have hl : b * d ≤ 4611686018427387904 := by omega
 have HS := Lib.hid hs
 have HL := Lib.hid hl
 have H4 := Lib.hid m4
 clear hs hl m4 ha hb hc2 hd
 go_enter Tryz.func130, Tryz.ntmps130
 go_wp2_with (first
  | (go_at_call 135; refine (lowest5_any _ _ _ HS.out H4.out HL.out).mono ?_; rintro e w1 ⟨rfl, z1, rfl⟩)
  | (go_at_call 140
     refine (seen5_any C _ f _ ?s1 ?s2 ?s3).mono ?_
     case s1 => simp [go_sem, hC, hc]
     case s2 => simp [ext_size]; omega
     case s3 => simp [go_sem, hC, hf]
     intro e wq hq
     rcases hq with ⟨hd, rfl, zq, rfl⟩ | ⟨hd, rfl, zq, rfl⟩ <;> simp only [fracV]))
 · refine bodyPost_ret (v := fracV (Rat.divInt (a * c) (b * d))) ?_ rfl ?_
   · refine results_frac rfl _ _ _ _ _ rfl ?_ ?_
     · simp [go_sem, hC]
     · simp [go_sem, hC]
   · refine .inl ⟨hd, Ret.of rfl ?_⟩
     exact Bw
 · refine bodyPost_ret (v := fracV 0) ?_ rfl ?_
   · refine results_frac rfl _ _ _ _ _ rfl ?_ ?_
     · simp [go_sem, hC]
     · simp [go_sem, hC]
   · refine .inr ⟨hd, Ret.of rfl ?_⟩
     exact Bw
theorem cmul5_any (C : Nat) (f : Bool) (w : World) (hc : w.cell? ⟨C, 0, none⟩ = some (.bool f)) (hC : C < w.heap.size) (hf : w.frozen? ⟨C, 0, none⟩ = false) (p q : Rat) (hp : small5 p) (hq : small5 q) : Calls Tryz.prog 130 #[.pointer (some ⟨C, 0, none⟩), fracV p, fracV q] w (SeenPost w C (p * q)) := by
 rw [mul_divInt]
 exact cmulI C f w hc hC hf _ _ _ _ hp.1 (by have := hp.2; omega) hq.1 (by have := hq.2; omega) (den_pos' p) (den_pos' q)
set_option maxRecDepth 100000 in
set_option maxHeartbeats 2000000 in
theorem cquoI (C : Nat) (f : Bool) (w : World) (hc : w.cell? ⟨C, 0, none⟩ = some (.bool f)) (hC : C < w.heap.size) (hf : w.frozen? ⟨C, 0, none⟩ = false) (a b c d : Int) (ha : a.natAbs ≤ 1000000000) (hb : b.natAbs ≤ 1000000000) (hc2 : c.natAbs ≤ 1000000000) (hd : d.natAbs ≤ 1000000000) (hb0 : 0 < b) (hd0 : 0 < c) : Calls Tryz.prog 132 #[.pointer (some ⟨C, 0, none⟩), .agg #[.int .i64 a, .int .i64 b], .agg #[.int .i64 c, .int .i64 d]] w (SeenPost w C (Rat.divInt (a * d) (b * c))) := by
 obtain ⟨m1, n1⟩ := mul_small ha hd
 obtain ⟨m3, n3⟩ := mul_small hb hc2
 have m4 : 0 < b * c := Int.mul_pos hb0 hd0
 have w1 : IntKind.i64.wrap (a * d) = a * d := IntWalk.i64_in _ (by omega)
 have w3 : IntKind.i64.wrap (b * c) = b * c := IntWalk.i64_in _ (by omega)
 have hs : (a * d).natAbs ≤ 4611686018427387904 := by omega
 have hl : b * c ≤ 4611686018427387904 := by omega
 have HS := Lib.hid hs
 have HL := Lib.hid hl
 have H4 := Lib.hid m4
 clear hs hl m4 ha hb hc2 hd
 go_enter Tryz.func132, Tryz.ntmps132
 go_wp2_with (first
  | (go_at_call 135; refine (lowest5_any _ _ _ HS.out H4.out HL.out).mono ?_; rintro e w1 ⟨rfl, z1, rfl⟩)
  | (go_at_call 140
     refine (seen5_any C _ f _ ?s1 ?s2 ?s3).mono ?_
     case s1 => simp [go_sem, hC, hc]
     case s2 => simp [ext_size]; omega
     case s3 => simp [go_sem, hC, hf]
     intro e wq hq
     rcases hq with ⟨hd, rfl, zq, rfl⟩ | ⟨hd, rfl, zq, rfl⟩ <;> simp only [fracV]))
 · refine bodyPost_ret (v := fracV (Rat.divInt (a * d) (b * c))) ?_ rfl ?_
   · refine results_frac rfl _ _ _ _ _ rfl ?_ ?_
     · simp [go_sem, hC]
     · simp [go_sem, hC]
   · refine .inl ⟨hd, Ret.of rfl ?_⟩
     exact Bw
 · refine bodyPost_ret (v := fracV 0) ?_ rfl ?_
   · refine results_frac rfl _ _ _ _ _ rfl ?_ ?_
     · simp [go_sem, hC]
     · simp [go_sem, hC]
   · refine .inr ⟨hd, Ret.of rfl ?_⟩
     exact Bw
theorem cquo5_any (C : Nat) (f : Bool) (w : World) (hc : w.cell? ⟨C, 0, none⟩ = some (.bool f)) (hC : C < w.heap.size) (hf : w.frozen? ⟨C, 0, none⟩ = false) (p q : Rat) (hp : small5 p) (hq : small5 q) (h0 : 0 < q) : Calls Tryz.prog 132 #[.pointer (some ⟨C, 0, none⟩), fracV p, fracV q] w (SeenPost w C (p / q)) := by
 have hqn : 0 < q.num := by have := (Rat.lt_iff 0 q).1 h0; simpa using this
 rw [div_divInt p q h0]
 exact cquoI C f w hc hC hf _ _ _ _ hp.1 (by have := hp.2; omega) hq.1 (by have := hq.2; omega) (den_pos' p) hqn
set_option maxRecDepth 100000 in
set_option maxHeartbeats 2000000 in
theorem cadd5_any (C : Nat) (f : Bool) (w : World) (hc : w.cell? ⟨C, 0, none⟩ = some (.bool f)) (hC : C < w.heap.size) (hf : w.frozen? ⟨C, 0, none⟩ = false) (p q : Rat) (hp : small5 p) (hq : small5 q) : Calls Tryz.prog 131 #[.pointer (some ⟨C, 0, none⟩), fracV p, fracV q] w (SeenPost w C (p + q)) := by
 have HA := fun W => add5_any p q W hp hq
 clear hp hq
 unfold fracV at *
 go_enter Tryz.func131, Tryz.ntmps131
 go_wp2_with (first
  | (go_at_call 123; refine (HA _).mono ?_; rintro e w1 ⟨rfl, z1, rfl⟩)
  | (go_at_call 140
     refine (seen5_any C _ f _ ?s1 ?s2 ?s3).mono ?_
     case s1 => simp [go_sem, hC, hc]
     case s2 => simp [ext_size]; omega
     case s3 => simp [go_sem, hC, hf]
     intro e wq hq
     rcases hq with ⟨hd, rfl, zq, rfl⟩ | ⟨hd, rfl, zq, rfl⟩ <;> simp only [fracV]))
 · refine bodyPost_ret (v := fracV (p + q)) ?_ rfl ?_
   · refine results_frac rfl _ _ _ _ _ rfl ?_ ?_
     · simp [go_sem, hC]
     · simp [go_sem, hC]
   · refine .inl ⟨hd, Ret.of rfl ?_⟩
     exact Bw
 · refine bodyPost_ret (v := fracV 0) ?_ rfl ?_
   · refine results_frac rfl _ _ _ _ _ rfl ?_ ?_
     · simp [go_sem, hC]
     · simp [go_sem, hC]
   · refine .inr ⟨hd, Ret.of rfl ?_⟩
     exact Bw
end Go.Proofs.YtkhkhnellekofaaGreatDoor
namespace Go.Proofs.YtkhkhnellekofaaGreatDoor
open Go.RowKit
attribute [local go_sem] World.cell?_alloc_mark ext_size ext_cell ext_frozen lt_add_r lt_add_r2 lt_add_r3 lt_add_r4 lt_add_r5 lt_add_r6 lt_add_r7 lt_add_r8
attribute [local go_sem] ext_setCell alloc_setCell_lt

def befP (ls : List Law) (k : Nat) : Option Int := if k = 0 then none else (ls[k - 1]?).map (·.frm)
theorem bef_succ (ls : List Law) {k : Nat} (h : k < ls.length) : befP ls (k + 1) = some ls[k].frm := by
 rw [befP, if_neg (by omega)]
 simp [h]

set_option maxRecDepth 100000 in
set_option maxHeartbeats 2000000 in
theorem checkLaws5_any (ls : List Law) (A : Option Addr) (n c : Nat) (w : World) (hn : n = ls.length) (hS : Sl w 4 Law.cells A ls) : Calls Tryz.prog 22 #[.slice A n c] w (Ret w (.int .i64 (checkLawsP ls))) := by
 subst hn
 go_enter Tryz.func22, Tryz.ntmps22
 by_cases h10 : 10 < ls.length
 · have hx : decide ((10 : Int) < (ls.length : Int)) = true := by simp; omega
   go_wp2_with fail
   go_ret
   exact Ret.of (int_eq (by rw [checkLawsP, if_pos (by simp; omega)])) Bw
 have hx : decide ((10 : Int) < (ls.length : Int)) = false := by simp; omega
 go_wp2_with fail
 have hT : checkLawsP ls = lawsGo (ls.drop 0) (befP ls 0) := by rw [checkLawsP, if_neg (by simp; omega)]; rfl
 go_loopw [2, 10] (fun u i wr => u = .int .i64 0 ∧ ∃ k : Nat, k ≤ ls.length ∧ i = .int .i64 k ∧ checkLawsP ls = lawsGo (ls.drop k) (befP ls k) ∧ ∃ z, wr = w.ext z) (fun _ i _ => ls.length - (intOf i).toNat)
 case atStart => exact ⟨rfl, 0, Nat.zero_le _, rfl, hT, ext_below (Below.refl _ _)⟩
 case round =>
  obtain ⟨rfl, k, hk, rfl, hf, z, rfl⟩ := hrel
  clear hT hx
  by_cases hlt : k < ls.length
  · rw [List.drop_eq_getElem_cons hlt, lawsGo] at hf
    obtain ⟨b, off, rfl, hb, hc⟩ := hS.at hlt
    have h0 : w.cell? ⟨b, off + k * 4, none⟩ = some (.int .i64 ls[k].frm) := hc 0 _ rfl
    have h1 : w.cell? ⟨b, off + k * 4 + 1, none⟩ = some (.bool ls[k].stems) := hc 1 _ rfl
    have h2 : w.cell? ⟨b, off + k * 4 + 2, none⟩ = some (.int .i64 ls[k].num) := hc 2 _ rfl
    have h3 : w.cell? ⟨b, off + k * 4 + 3, none⟩ = some (.int .i64 ls[k].den) := hc 3 _ rfl
    have HF := Lib.hid hf
    have hkn : (k : Int) < (ls.length : Int) := by omega
    have hprev : 0 < k → w.cell? ⟨b, off + (k - 1) * 4, none⟩ = some (.int .i64 (ls[k - 1]'(by omega)).frm) := fun hk0 => by
     obtain ⟨b', off', he, _, hc'⟩ := hS.at (k := k - 1) (by omega)
     cases he
     exact hc' 0 _ rfl
    have HP := Lib.hid hprev
    have HB : befP ls (k + 1) = some ls[k].frm := bef_succ ls hlt
    have HB := Lib.hid HB
    clear hc hf hS hprev
    go_upto_region 10 with (first
     | (go_at_call 50; refine (isDay5_any _ _).mono ?_; intro e wq hq; rcases Ret0.bools hq with ⟨rfl, ⟨hb, rfl⟩ | ⟨hb, rfl⟩⟩ <;> clear hq)
     | (go_at_call 53; refine (isFraction5_any _ _ _).mono ?_; intro e wq hq; rcases Ret.bools hq with ⟨zq, rfl, ⟨hb, rfl⟩ | ⟨hb, rfl⟩⟩ <;> clear hq))
    all_goals first
     | (go_ret
        exact Ret.of (int_eq (by rw [HF.out]; simp [lawErr, *])) Bw)
     | skip
    rcases Nat.eq_zero_or_pos k with hk0 | hk0
    · have hd : decide ((k : Int) > 0) = false := by simp; omega
      have hbn : befP ls k = none := by rw [befP, if_pos hk0]
      go_quiet (fail)
      go_wp2_with fail
      go_round
      case rel => subst hk0; exact ⟨rfl, 1, by omega, rfl, by rw [HF.out, HB.out]; simp [lawErr, *], ext_below Bw⟩
      case measure => simp [intOf]; omega
    · have hd : decide ((k : Int) > 0) = true := by simp; omega
      have hwr : IntKind.i64.wrap ((k : Int) - 1) = (k : Int) - 1 := IntWalk.i64_in _ (by omega)
      have hnn : 0 ≤ (k : Int) - 1 := by omega
      have htn : ((k : Int) - 1).toNat = k - 1 := by omega
      have hlt2 : (k : Int) - 1 < (ls.length : Int) := by omega
      have hp := HP.out hk0
      have hbs : befP ls k = some (ls[k - 1]'(by omega)).frm := by have := bef_succ ls (k := k - 1) (by omega); rwa [Nat.sub_add_cancel hk0] at this
      go_quiet (fail)
      go_wp2_with fail
      all_goals first
       | (go_ret
          exact Ret.of (int_eq (by rw [HF.out]; simp [lawErr, *])) Bw)
       | (go_round
          case rel => exact ⟨rfl, k + 1, by omega, by go_num, by rw [HF.out, HB.out]; simp [lawErr, *], ext_below Bw⟩
          case measure => simp [intOf]; omega)
  · rw [List.drop_eq_nil_of_le (by omega), lawsGo] at hf
    have HF := Lib.hid hf
    clear hf hS
    have hkn : ¬ (k : Int) < (ls.length : Int) := by omega
    go_wp2_with fail
    go_ret
    exact Ret.of (int_eq (by rw [HF.out])) Bw
end Go.Proofs.YtkhkhnellekofaaGreatDoor
namespace Go.Proofs.YtkhkhnellekofaaGreatDoor
open Go.RowKit
attribute [local go_sem] World.cell?_alloc_mark ext_size ext_cell ext_frozen lt_add_r lt_add_r2 lt_add_r3 lt_add_r4 lt_add_r5 lt_add_r6 lt_add_r7 lt_add_r8
attribute [local go_sem] ext_setCell alloc_setCell_lt

def Law.v (x : Law) : Value := .agg #[.int .i64 x.frm, .bool x.stems, .int .i64 x.num, .int .i64 x.den]
theorem results_law {fn : Func} {p : Tmp} (h : fn.results = #[.cell p 41]) (tmps : Array Value) (w : World) (B : Nat) (x : Law) (hp : tmps.getD p undef = .pointer (some ⟨B, 0, none⟩))
    (h0 : w.cell? ⟨B, 0, none⟩ = some (.int .i64 x.frm)) (h1 : w.cell? ⟨B, 1, none⟩ = some (.bool x.stems)) (h2 : w.cell? ⟨B, 2, none⟩ = some (.int .i64 x.num)) (h3 : w.cell? ⟨B, 3, none⟩ = some (.int .i64 x.den)) : (results fn tmps).run Tryz.prog w = .ok x.v w := by
 rw [results_c1 h, hp]
 unfold Law.v
 go_simp
theorem lawOn_snoc (ls : List Law) (day : Int) {k : Nat} (h : k < ls.length) : lawOnP (ls.take (k + 1)) day = if decide (ls[k].frm ≤ day) then ls[k] else lawOnP (ls.take k) day := by
 rw [List.take_succ_eq_append_getElem h]
 unfold lawOnP
 rw [List.filter_append]
 by_cases hc : ls[k].frm ≤ day <;> simp [hc]

theorem J_new (w : World) (o : Obj) (k : Nat) (h : k = w.heap.size) : (w.alloc o).heap[k]? = some o := by rw [h]; exact heap_alloc_new w o
theorem J_alloc {w : World} {o x : Obj} {k : Nat} (h : w.heap[k]? = some x) : (w.alloc o).heap[k]? = some x := (Below.heap_alloc w o k (blk_lt h)).trans h
theorem J_set4 {w : World} {g : Nat} {z0 z1 z2 z3 a b c d : Value} {t : TypeId} {fr : Nat × Nat} (h : w.heap[g]? = some (.cells #[z0, z1, z2, z3] t fr)) :
    ((((w.setCell ⟨g, 0, none⟩ a).setCell ⟨g, 1, none⟩ b).setCell ⟨g, 2, none⟩ c).setCell ⟨g, 3, none⟩ d).heap[g]? = some (.cells #[a, b, c, d] t fr) := by
 have := Joins.block_setCell (i := 3) (Joins.block_setCell (i := 2) (Joins.block_setCell (i := 1) (Joins.block_setCell (i := 0) h a) b) c) d
 simpa using this

set_option maxRecDepth 100000 in
set_option maxHeartbeats 2000000 in
theorem lawOn5_any (ls : List Law) (A : Option Addr) (c : Nat) (day : Int) (w : World) (hl : ls.length ≤ 10) (hS : Sl w 4 Law.cells A ls) : Calls Tryz.prog 51 #[.slice A ls.length c, .int .i64 day] w (Ret w (lawOnP ls day).v) := by
 go_enter Tryz.func51, Tryz.ntmps51
 go_wp2_with fail
 go_loopw [12] (fun i wr => ∃ k : Nat, k ≤ ls.length ∧ i = .int .i64 k ∧ ∃ x : Law, x = lawOnP (ls.take k) day ∧ Below w.heap.size w wr ∧ w.heap.size + 2 ≤ wr.heap.size ∧ wr.heap[w.heap.size]? = some (.cells #[.int .i64 0, .bool false, .int .i64 0, .int .i64 0] 41) ∧ wr.heap[w.heap.size + 1]? = some (.cells #[.int .i64 x.frm, .bool x.stems, .int .i64 x.num, .int .i64 x.den] 41)) (fun i _ => ls.length - (intOf i).toNat)
 case atStart =>
  refine ⟨0, Nat.zero_le _, rfl, zeroLaw, rfl, ?_, ?_, ?_, ?_⟩
  · exact Bw
  · simp
  · exact J_alloc (J_new _ _ _ rfl)
  · exact J_new _ _ _ (by simp)
 case round =>
  obtain ⟨k, hk, rfl, x, hx, hB, hsz, g0, g1⟩ := hrel
  have c0 : wr.cell? ⟨w.heap.size + 1, 0, none⟩ = some (.int .i64 x.frm) := by simp [World.cell?, g1]
  have c1 : wr.cell? ⟨w.heap.size + 1, 1, none⟩ = some (.bool x.stems) := by simp [World.cell?, g1]
  have c2 : wr.cell? ⟨w.heap.size + 1, 2, none⟩ = some (.int .i64 x.num) := by simp [World.cell?, g1]
  have c3 : wr.cell? ⟨w.heap.size + 1, 3, none⟩ = some (.int .i64 x.den) := by simp [World.cell?, g1]
  have d0 : wr.cell? ⟨w.heap.size, 0, none⟩ = some (.int .i64 0) := by simp [World.cell?, g0]
  have d1 : wr.cell? ⟨w.heap.size, 1, none⟩ = some (.bool false) := by simp [World.cell?, g0]
  have d2 : wr.cell? ⟨w.heap.size, 2, none⟩ = some (.int .i64 0) := by simp [World.cell?, g0]
  have d3 : wr.cell? ⟨w.heap.size, 3, none⟩ = some (.int .i64 0) := by simp [World.cell?, g0]
  have f0 : wr.frozen? ⟨w.heap.size, 0, none⟩ = false := by simp [World.frozen?, g0]
  have f1 : wr.frozen? ⟨w.heap.size + 1, 0, none⟩ = false := by simp [World.frozen?, g1]
  have e1 : wr.frozen? ⟨w.heap.size + 1, 1, none⟩ = false := by simp [World.frozen?, g1]
  have e2 : wr.frozen? ⟨w.heap.size + 1, 2, none⟩ = false := by simp [World.frozen?, g1]
  have e3 : wr.frozen? ⟨w.heap.size + 1, 3, none⟩ = false := by simp [World.frozen?, g1]
  have m1 : wr.frozen? ⟨w.heap.size, 1, none⟩ = false := by simp [World.frozen?, g0]
  have m2 : wr.frozen? ⟨w.heap.size, 2, none⟩ = false := by simp [World.frozen?, g0]
  have m3 : wr.frozen? ⟨w.heap.size, 3, none⟩ = false := by simp [World.frozen?, g0]
  have hs1 : w.heap.size + 1 < wr.heap.size := by omega
  have hs0 : w.heap.size < wr.heap.size := by omega
  have hs2 : w.heap.size + 1 ≠ wr.heap.size := by omega
  by_cases hlt : k < ls.length
  · obtain ⟨b, off, rfl, hb, hc⟩ := (hS.keep hB).at hlt
    have h0 : wr.cell? ⟨b, off + k * 4, none⟩ = some (.int .i64 ls[k].frm) := hc 0 _ rfl
    have h1 : wr.cell? ⟨b, off + k * 4 + 1, none⟩ = some (.bool ls[k].stems) := hc 1 _ rfl
    have h2 : wr.cell? ⟨b, off + k * 4 + 2, none⟩ = some (.int .i64 ls[k].num) := hc 2 _ rfl
    have h3 : wr.cell? ⟨b, off + k * 4 + 3, none⟩ = some (.int .i64 ls[k].den) := hc 3 _ rfl
    clear hc hS
    go_wp2_with fail
    · refine ⟨⟨k + 1, by omega, by go_num, ls[k], by rw [lawOn_snoc ls day hlt, if_pos (by simp; assumption)], ?_, ?_, ?_, ?_⟩, by simp [intOf]; omega⟩
      · exact B_alloc (B_set (B_set (B_set (B_set hB (by simp) _) (by simp) _) (by simp) _) (by simp) _) _
      · simp; omega
      · exact J_alloc (((B_set (B_set (B_set (B_set (Below.refl (w.heap.size + 1) wr) (by simp) _) (by simp) _) (by simp) _) (by simp) _).block w.heap.size (by omega)).trans g0)
      · exact J_alloc (J_set4 g1)
    · refine ⟨⟨k + 1, by omega, by go_num, lawOnP (ls.take k) day, by rw [lawOn_snoc ls day hlt, if_neg (by simp; assumption)], ?_, ?_, ?_, ?_⟩, by simp [intOf]; omega⟩
      · exact B_alloc hB _
      · simp; omega
      · exact J_alloc g0
      · exact J_alloc (by simpa [hx] using g1)
  · go_wp2_with fail
    have hk2 : ls.take k = ls := List.take_of_length_le (by omega)
    have g4 := J_set4 (a := .int .i64 (lawOnP ls day).frm) (b := .bool (lawOnP ls day).stems) (c := .int .i64 (lawOnP ls day).num) (d := .int .i64 (lawOnP ls day).den) g0
    rw [hk2]
    refine bodyPost_ret (v := (lawOnP ls day).v) ?_ rfl ?_
    · refine results_law rfl _ _ w.heap.size _ rfl ?_ ?_ ?_ ?_ <;> simp [World.cell?, g4]
    · exact Ret.of rfl (B_set (B_set (B_set (B_set hB (by simp) _) (by simp) _) (by simp) _) (by simp) _)
end Go.Proofs.YtkhkhnellekofaaGreatDoor
