/- Walks of chapter 5's fractions: lowest, add, sub, isFraction. -/
import Derived.Test.YtkhkhnellekofaaGreatDoorR8
import Derived.Test.YtkhkhnellekofaaGreatDoorN3
import Derived.Deep.RegionLaw
set_option linter.unusedSimpArgs false
set_option linter.unusedVariables false
namespace Go.Proofs.YtkhkhnellekofaaGreatDoor
open Go.RowKit

def SlW {α : Type} (W : World) (size : Nat) (R : World → α → List Value → Prop) (A : Option Addr) (xs : List α) : Prop :=
 0 < xs.length → ∃ b off, A = some ⟨b, off, none⟩ ∧ b < W.heap.size ∧ ∀ k (x : α), xs[k]? = some x → ∃ cs, R W x cs ∧ ∀ j u, cs[j]? = some u → W.cell? ⟨b, off + k * size + j, none⟩ = some u
def Keeps {α : Type} (R : World → α → List Value → Prop) : Prop := ∀ W W' x cs n, R W x cs → Below n W W' → W.heap.size ≤ n → R W' x cs
section
variable {α : Type} {w W : World} {size : Nat} {R : World → α → List Value → Prop} {A : Option Addr} {xs : List α}
theorem SlW.keep (hk : Keeps R) (h : SlW w size R A xs) {n : Nat} (hb : Below n w W) (hn : w.heap.size ≤ n := by first | exact Nat.le_refl _ | omega) : SlW W size R A xs := fun hl => by
 obtain ⟨b, off, hA, hlt, hc⟩ := h hl
 refine ⟨b, off, hA, Nat.lt_of_lt_of_le hlt hb.size, fun k x hx => ?_⟩
 obtain ⟨cs, h1, h2⟩ := hc k x hx
 exact ⟨cs, hk _ _ _ _ _ h1 hb hn, fun j u hu => (hb.cell (p := ⟨b, _, none⟩) (Nat.lt_of_lt_of_le hlt hn)).trans (h2 j u hu)⟩
theorem SlW.at {k : Nat} (h : SlW w size R A xs) (hk : k < xs.length) : ∃ b off cs, A = some ⟨b, off, none⟩ ∧ b < w.heap.size ∧ R w xs[k] cs ∧ ∀ j u, cs[j]? = some u → w.cell? ⟨b, off + k * size + j, none⟩ = some u := by
 obtain ⟨b, off, hA, hlt, hc⟩ := h (by omega)
 obtain ⟨cs, h1, h2⟩ := hc k _ (List.getElem?_eq_getElem hk)
 exact ⟨b, off, cs, hA, hlt, h1, h2⟩
end
def deedR (W : World) (d : Deed) (cs : List Value) : Prop := ∃ B c, d.to.length ≤ c ∧ cs = [.int .i64 d.kind, .int .i64 d.day, .string d.place, .string d.frm, .slice B d.to.length c, .int .i64 d.cls, .int .i64 d.years] ∧ Sl W 3 RPart.cells B d.to
theorem deed_keeps : Keeps deedR := by
 rintro W W' d cs n ⟨B, c, h0, h1, h2⟩ hB hn
 exact ⟨B, c, h0, h1, h2.keep hB hn⟩
def pairCells (p : ByteArray × ByteArray) : List Value := [.string p.1, .string p.2]
structure RightsIn (w : World) (ls : List Law) (ds : List Deed) (A : Option Addr) (n nc : Nat) (B : Option Addr) (m mc : Nat) : Prop where
 ln : n = ls.length
 dn : m = ds.length
 lc : n ≤ nc
 dc : m ≤ mc
 laws : Sl w 4 Law.cells A ls
 deeds : SlW w 7 deedR B ds
theorem RightsIn.keep {w W : World} {ls : List Law} {ds : List Deed} {A B : Option Addr} {n nc m mc k : Nat} (h : RightsIn w ls ds A n nc B m mc) (hB : Below k w W) (hk : w.heap.size ≤ k := by first | exact Nat.le_refl _ | omega) : RightsIn W ls ds A n nc B m mc :=
 ⟨h.ln, h.dn, h.lc, h.dc, h.laws.keep hB hk, h.deeds.keep deed_keeps hB hk⟩
end Go.Proofs.YtkhkhnellekofaaGreatDoor
namespace Go.Proofs.YtkhkhnellekofaaGreatDoor
open Go.RowKit
attribute [local go_sem] World.cell?_alloc_mark ext_size ext_cell ext_frozen lt_add_r lt_add_r2 lt_add_r3 lt_add_r4 lt_add_r5 lt_add_r6 lt_add_r7 lt_add_r8

set_option maxRecDepth 100000 in
set_option maxHeartbeats 2000000 in
theorem within5_any (n lo hi : Int) (w : World) : Calls Tryz.prog 55 #[.int .i64 n, .int .i64 lo, .int .i64 hi] w (Ret0 w (.bool (inR n lo hi))) := by
 go_enter Tryz.func55, Tryz.ntmps55
 go_wp2_with fail
 all_goals go_ret
 all_goals exact ⟨by first | (simp_all [inR]; done) | (simp_all [inR]; omega), rfl⟩
set_option maxRecDepth 100000 in
set_option maxHeartbeats 2000000 in
theorem isDay5_any (n : Int) (w : World) : Calls Tryz.prog 50 #[.int .i64 n] w (Ret0 w (.bool (isDayP n))) := by
 go_enter Tryz.func50, Tryz.ntmps50
 go_wp2_with (go_at_call 55; refine (within5_any _ _ _ _).mono ?_; rintro e wq ⟨rfl, rfl⟩)
 go_ret
 exact ⟨rfl, rfl⟩
set_option maxRecDepth 100000 in
set_option maxHeartbeats 2000000 in
theorem isName5_any (s : ByteArray) (w : World) (hs : s.size ≤ 100000) : Calls Tryz.prog 83 #[.string s] w (Ret0 w (.bool (isNameP s))) := by
 go_enter Tryz.func83, Tryz.ntmps83
 go_wp2_with fail
 go_loop [7] (fun i => ∃ k : Nat, k ≤ s.size ∧ i = .int .i64 k ∧ nmGo (bytesI s) 0 = nmGo ((bytesI s).drop k) k) (fun i => s.size - (intOf i).toNat)
 case atStart => exact ⟨0, Nat.zero_le _, rfl, rfl⟩
 case round =>
  obtain ⟨k, hk, rfl, hf⟩ := hrel
  by_cases hlt : k < s.size
  · rw [bytesI_drop s k hlt, show s.data[k] = s[k] from rfl] at hf
    have HF := Lib.hid hf
    clear hf
    have HL := Lib.hid hlt
    rcases Nat.eq_zero_or_pos k with rfl | hk0
    · go_wp2_with fail
      all_goals first
       | (go_round
          case rel => exact ⟨1, by have := HL.out; omega, rfl, by rw [HF.out, nmGo, if_neg (by go_tidy; simp [letterI] at *; omega)]⟩
          case measure => have := HL.out; simp [intOf]; omega)
       | (go_ret
          refine ⟨congrArg Ending.returned (bool_eq ?_), rfl⟩
          rw [isNameP, HF.out, nmGo, if_pos (by go_tidy; simp [letterI] at *; omega)]
          rfl)
    · have hz : ((k : Int) == 0) = false := by simp; omega
      have hz2 : ¬ ((k : Int) = 0) := by omega
      go_wp2_with fail
      all_goals first
       | (go_round
          case rel => exact ⟨k + 1, by have := HL.out; omega, by go_num, by rw [HF.out, nmGo, if_neg (by go_tidy; simp [letterI] at *; omega)]⟩
          case measure => have := HL.out; simp [intOf]; omega)
       | (go_ret
          refine ⟨congrArg Ending.returned (bool_eq ?_), rfl⟩
          rw [isNameP, HF.out, nmGo, if_pos (by go_tidy; simp [letterI] at *; omega)]
          rfl)
  · rw [List.drop_eq_nil_of_le (by rw [bytesI_len]; omega)] at hf
    go_wp2_with fail
    all_goals go_ret
    all_goals refine ⟨congrArg Ending.returned (bool_eq ?_), rfl⟩
    all_goals simp [isNameP, hf, nmGo, *]

theorem gcd_tmod (x y : Int) : Int.gcd y (x.tmod y) = Int.gcd x y := by
 rw [Int.gcd, Int.gcd, Int.natAbs_tmod, Nat.gcd_comm, ← Nat.gcd_rec, Nat.gcd_comm]
theorem tmod_lt (x y : Int) (h : y ≠ 0) : (x.tmod y).natAbs < y.natAbs := by
 rw [Int.natAbs_tmod]
 exact Nat.mod_lt _ (by omega)
set_option maxRecDepth 100000 in
set_option maxHeartbeats 2000000 in
theorem gcd5_any (a b : Int) (w : World) (ha : a.natAbs ≤ 4611686018427387904) (hb : b.natAbs ≤ 4611686018427387904) : Calls Tryz.prog 84 #[.int .i64 a, .int .i64 b] w (Ret w (.int .i64 (Int.gcd a b))) := by
 go_enter Tryz.func84, Tryz.ntmps84
 go_wp2_with fail
 go_loopw [0, 1] (fun x y wr => ∃ p q : Int, x = .int .i64 p ∧ y = .int .i64 q ∧ p.natAbs ≤ 4611686018427387904 ∧ q.natAbs ≤ 4611686018427387904 ∧ Int.gcd a b = Int.gcd p q ∧ ∃ z, wr = w.ext z) (fun _ y _ => (intOf y).natAbs)
 case atStart => exact ⟨a, b, rfl, rfl, ha, hb, rfl, ext_below (Below.refl _ _)⟩
 case round =>
  obtain ⟨p, q, rfl, rfl, hp, hq, hg, z, rfl⟩ := hrel
  by_cases hz : q = 0
  · subst hz
    go_wp2_with fail
    all_goals go_ret
    all_goals exact Ret.of (int_eq (by omega)) Bw
  · have hq2 : (q == 0) = false := by simp [hz]
    have hm := tmod_lt p q hz
    have hG := Lib.hid (gcd_tmod p q)
    have HG := Lib.hid hg
    clear hg
    have hwr : IntKind.i64.wrap (p.tmod q) = p.tmod q := IntWalk.i64_in _ (by omega)
    go_wp2_with fail
    go_quiet (fail)
    go_wp2_with fail
    all_goals (first
     | (go_round
        case rel => exact ⟨q, p.tmod q, rfl, rfl, hq, by omega, by rw [HG.out, hG.out], ext_below Bw⟩
        case measure => simp only [intOf]; omega))
end Go.Proofs.YtkhkhnellekofaaGreatDoor
namespace Go.Proofs.YtkhkhnellekofaaGreatDoor
open Go.RowKit
attribute [local go_sem] World.cell?_alloc_mark ext_size ext_cell ext_frozen lt_add_r lt_add_r2 lt_add_r3 lt_add_r4 lt_add_r5 lt_add_r6 lt_add_r7 lt_add_r8
attribute [local go_sem] ext_setCell alloc_setCell_lt

theorem results_c1 {fn : Func} {p : Tmp} {ty : TypeId} (h : fn.results = #[.cell p ty]) (tmps : Array Value) (P : Program) (w : World) :
    (results fn tmps).run P w = ((asAddr (tmps.getD p undef)).run P w).andThen fun a w₁ => (loadVar ty a).run P w₁ := by
 simp only [results, h]
 simp [Sem.run_bind]
theorem results_frac {fn : Func} {p : Tmp} (h : fn.results = #[.cell p 39]) (tmps : Array Value) (w : World) (B : Nat) (x y : Int) (hp : tmps.getD p undef = .pointer (some ⟨B, 0, none⟩))
    (h0 : w.cell? ⟨B, 0, none⟩ = some (.int .i64 x)) (h1 : w.cell? ⟨B, 1, none⟩ = some (.int .i64 y)) : (results fn tmps).run Tryz.prog w = .ok (.agg #[.int .i64 x, .int .i64 y]) w := by
 rw [results_c1 h, hp]
 go_simp

def fracV (r : Rat) : Value := .agg #[.int .i64 r.num, .int .i64 r.den]

theorem gcd_pos5 {a b : Int} (h : 0 < b) : 0 < Int.gcd a b := Nat.pos_of_ne_zero (fun e => by have := (Int.gcd_eq_zero_iff.1 e).2; omega)
set_option maxRecDepth 100000 in
set_option maxHeartbeats 2000000 in
theorem lowest5_any (a b : Int) (w : World) (ha : a.natAbs ≤ 4611686018427387904) (hb0 : 0 < b) (hb : b ≤ 4611686018427387904) : Calls Tryz.prog 135 #[.int .i64 a, .int .i64 b] w (Ret w (fracV (Rat.divInt a b))) := by
 have hg := gcd_pos5 (a := a) hb0
 obtain ⟨g, HG⟩ : ∃ g : Int, g = (Int.gcd a b : Int) := ⟨_, rfl⟩
 have hg0 : 0 < g := by omega
 have hgz : (g == 0) = false := by simp; omega
 have e1 : a.tdiv g = (Rat.divInt a b).num := by rw [divInt_num hb0, HG, tdiv_exact (Int.gcd_dvd_left ..)]
 have e2 : b.tdiv g = ((Rat.divInt a b).den : Int) := by rw [divInt_den hb0, HG, tdiv_exact (Int.gcd_dvd_right ..)]
 have n1 : (a.tdiv g).natAbs ≤ 4611686018427387904 := Nat.le_trans (Int.natAbs_tdiv_le_natAbs _ _) ha
 have n2 : (b.tdiv g).natAbs ≤ 4611686018427387904 := Nat.le_trans (Int.natAbs_tdiv_le_natAbs _ _) (by omega)
 have w1 : wrap64 (a.tdiv g) = a.tdiv g := by unfold wrap64; omega
 have w2 : wrap64 (b.tdiv g) = b.tdiv g := by unfold wrap64; omega
 have HA := Lib.hid ha
 have hbn : b.natAbs ≤ 4611686018427387904 := by omega
 have HB := Lib.hid hbn
 have E1 := Lib.hid e1
 have E2 := Lib.hid e2
 clear ha hb hb0 hg e1 e2 n1 n2 hbn
 go_enter Tryz.func135, Tryz.ntmps135
 go_wp2_with (go_at_call 84; refine (gcd5_any _ _ _ HA.out HB.out).mono ?_; rintro e w1 ⟨rfl, z1, rfl⟩; rw [← HG])
 go_region
 go_wp2_with fail
 refine bodyPost_ret (v := fracV (Rat.divInt a b)) ?_ rfl ?_
 · refine results_frac rfl _ _ w.heap.size _ _ rfl ?_ ?_
   · rw [← E1.out]; simp [go_sem]; rw [← HG]; exact w1
   · rw [← E2.out]; simp [go_sem]; rw [← HG]; exact w2
 · exact Ret.of rfl Bw

def small5 (r : Rat) : Prop := r.num.natAbs ≤ 1000000000 ∧ r.den ≤ 1000000000
theorem mul_small {a b : Int} (ha : a.natAbs ≤ 1000000000) (hb : b.natAbs ≤ 1000000000) : -1000000000000000000 ≤ a * b ∧ a * b ≤ 1000000000000000000 := by
 have h : (a * b).natAbs ≤ 1000000000 * 1000000000 := by rw [Int.natAbs_mul]; exact Nat.mul_le_mul ha hb
 omega
set_option maxRecDepth 100000 in
set_option maxHeartbeats 2000000 in
theorem add5I (a b c d : Int) (w : World) (ha : a.natAbs ≤ 1000000000) (hb : b.natAbs ≤ 1000000000) (hc : c.natAbs ≤ 1000000000) (hd : d.natAbs ≤ 1000000000) (hb0 : 0 < b) (hd0 : 0 < d) : Calls Tryz.prog 123 #[.agg #[.int .i64 a, .int .i64 b], .agg #[.int .i64 c, .int .i64 d]] w (Ret w (fracV (Rat.divInt (a * d + c * b) (b * d)))) := by
 have m1 := mul_small ha hd
 have m2 := mul_small hc hb
 have m3 := mul_small hb hd
 have m4 : 0 < b * d := Int.mul_pos hb0 hd0
 obtain ⟨m1, n1⟩ := m1
 obtain ⟨m2, n2⟩ := m2
 obtain ⟨m3, n3⟩ := m3
 have w1 : IntKind.i64.wrap (a * d) = a * d := IntWalk.i64_in _ (by omega)
 have w2 : IntKind.i64.wrap (c * b) = c * b := IntWalk.i64_in _ (by omega)
 have w3 : IntKind.i64.wrap (b * d) = b * d := IntWalk.i64_in _ (by omega)
 have hs : (a * d + c * b).natAbs ≤ 4611686018427387904 := by omega
 have hl : b * d ≤ 4611686018427387904 := by omega
 have HS := Lib.hid hs
 have HL := Lib.hid hl
 have H4 := Lib.hid m4
 clear hs hl m4 ha hb hc hd
 go_enter Tryz.func123, Tryz.ntmps123
 go_wp2_with (go_at_call 135; refine (lowest5_any _ _ _ HS.out H4.out HL.out).mono ?_; rintro e w1 ⟨rfl, z1, rfl⟩; simp only [fracV])
 refine bodyPost_ret (v := fracV (Rat.divInt (a * d + c * b) (b * d))) ?_ rfl ?_
 · refine results_frac rfl _ _ _ _ _ rfl ?_ ?_
   · simp [go_sem]
   · simp [go_sem]
 · exact Ret.of rfl Bw
theorem add5_any (p q : Rat) (w : World) (hsp : small5 p) (hsq : small5 q) : Calls Tryz.prog 123 #[fracV p, fracV q] w (Ret w (fracV (p + q))) := by
 rw [add_divInt]
 exact add5I _ _ _ _ _ hsp.1 (by have := hsp.2; omega) hsq.1 (by have := hsq.2; omega) (den_pos' p) (den_pos' q)
set_option maxRecDepth 100000 in
set_option maxHeartbeats 2000000 in
theorem sub5I (a b c d : Int) (w : World) (ha : a.natAbs ≤ 1000000000) (hb : b.natAbs ≤ 1000000000) (hc : c.natAbs ≤ 1000000000) (hd : d.natAbs ≤ 1000000000) (hb0 : 0 < b) (hd0 : 0 < d) : Calls Tryz.prog 128 #[.agg #[.int .i64 a, .int .i64 b], .agg #[.int .i64 c, .int .i64 d]] w (Ret w (fracV (Rat.divInt (a * d - c * b) (b * d)))) := by
 have m1 := mul_small ha hd
 have m2 := mul_small hc hb
 have m3 := mul_small hb hd
 have m4 : 0 < b * d := Int.mul_pos hb0 hd0
 obtain ⟨m1, n1⟩ := m1
 obtain ⟨m2, n2⟩ := m2
 obtain ⟨m3, n3⟩ := m3
 have w1 : IntKind.i64.wrap (a * d) = a * d := IntWalk.i64_in _ (by omega)
 have w2 : IntKind.i64.wrap (c * b) = c * b := IntWalk.i64_in _ (by omega)
 have w3 : IntKind.i64.wrap (b * d) = b * d := IntWalk.i64_in _ (by omega)
 have hs : (a * d - c * b).natAbs ≤ 4611686018427387904 := by omega
 have hl : b * d ≤ 4611686018427387904 := by omega
 have HS := Lib.hid hs
 have HL := Lib.hid hl
 have H4 := Lib.hid m4
 clear hs hl m4 ha hb hc hd
 go_enter Tryz.func128, Tryz.ntmps128
 go_wp2_with (go_at_call 135; refine (lowest5_any _ _ _ HS.out H4.out HL.out).mono ?_; rintro e w1 ⟨rfl, z1, rfl⟩; simp only [fracV])
 refine bodyPost_ret (v := fracV (Rat.divInt (a * d - c * b) (b * d))) ?_ rfl ?_
 · refine results_frac rfl _ _ _ _ _ rfl ?_ ?_
   · simp [go_sem]
   · simp [go_sem]
 · exact Ret.of rfl Bw
theorem sub5_any (p q : Rat) (w : World) (hsp : small5 p) (hsq : small5 q) : Calls Tryz.prog 128 #[fracV p, fracV q] w (Ret w (fracV (p - q))) := by
 rw [sub_divInt]
 exact sub5I _ _ _ _ _ hsp.1 (by have := hsp.2; omega) hsq.1 (by have := hsq.2; omega) (den_pos' p) (den_pos' q)
set_option maxRecDepth 100000 in
set_option maxHeartbeats 2000000 in
theorem isFraction5_any (a b : Int) (w : World) : Calls Tryz.prog 53 #[.agg #[.int .i64 a, .int .i64 b]] w (Ret w (.bool (isShareP 16 a b))) := by
 go_enter Tryz.func53, Tryz.ntmps53
 by_cases h1 : inR b 1 16 = true
 · by_cases h2 : inR a 0 b = true
   · have x1 : 1 ≤ b ∧ b ≤ 16 := by simpa [inR] using h1
     have x2 : 0 ≤ a ∧ a ≤ b := by simpa [inR] using h2
     have g1 : a.natAbs ≤ 4611686018427387904 := by omega
     have g2 : b.natAbs ≤ 4611686018427387904 := by omega
     have G1 := Lib.hid g1
     have G2 := Lib.hid g2
     have hv : isShareP 16 a b = ((Int.gcd a b : Int) == 1) := by
      unfold isShareP
      simp only [x1.1, x1.2, x2.1, x2.2, decide_true, Bool.true_and]
      rw [Bool.eq_iff_iff, beq_iff_eq, beq_iff_eq]
      omega
     have HV := Lib.hid hv
     clear g1 g2 hv x1 x2
     go_wp2_with (first
      | (go_at_call 55; refine (within5_any _ _ _ _).mono ?_; rintro e wq ⟨rfl, rfl⟩)
      | (go_at_call 84; refine (gcd5_any _ _ _ G1.out G2.out).mono ?_; rintro e w1 ⟨rfl, z1, rfl⟩))
     all_goals go_ret
     all_goals exact Ret.of (bool_eq (by rw [HV.out])) Bw
   · have hv : isShareP 16 a b = false := by
       unfold isShareP
       simp [inR] at h1 h2 ⊢
       omega
     go_wp2_with (go_at_call 55; refine (within5_any _ _ _ _).mono ?_; rintro e wq ⟨rfl, rfl⟩)
     all_goals go_ret
     all_goals exact Ret.of (bool_eq (by rw [hv])) Bw
 · have hv : isShareP 16 a b = false := by
     unfold isShareP
     simp [inR] at h1 ⊢
     omega
   go_wp2_with (go_at_call 55; refine (within5_any _ _ _ _).mono ?_; rintro e wq ⟨rfl, rfl⟩)
   all_goals go_ret
   all_goals exact Ret.of (bool_eq (by rw [hv])) Bw
end Go.Proofs.YtkhkhnellekofaaGreatDoor
