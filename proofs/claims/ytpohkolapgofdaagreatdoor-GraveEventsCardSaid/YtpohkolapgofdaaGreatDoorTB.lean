/- Walks of the reference: a number in decimal; numbers, each behind a blank. -/
/- Walks of the reference: a number that is read; a text cut at its blanks. -/
import Derived.Test.YtpohkolapgofdaaGreatDoorT1
import Derived.Test.YtpohkolapgofdaaGreatDoorK3
import Derived.Test.YtpohkolapgofdaaGreatDoorA3
namespace Go.Proofs.YtpohkolapgofdaaGreatDoor
open Go.RowKit
attribute [local go_sem] World.cell?_alloc_mark ext_size ext_cell ext_frozen lt_add_r lt_add_r2 lt_add_r3 lt_add_r4 lt_add_r5 lt_add_r6 lt_add_r7 lt_add_r8

theorem dec_step (u : Nat) : Lib.decDigits u = (if u / 10 = 0 then [] else Lib.decDigits (u / 10)) ++ [UInt8.ofNat (48 + u % 10)] := by
  rw [Lib.decDigits]
  by_cases h : u < 10
  · rw [dif_pos h, if_pos (by omega), Nat.mod_eq_of_lt h, List.nil_append]
  · rw [dif_neg h, if_neg (by omega)]
def tenth (m : Int) : Int := if m < 0 then -((m.natAbs / 10 : Nat) : Int) else ((m.natAbs / 10 : Nat) : Int)
set_option maxRecDepth 100000 in
set_option maxHeartbeats 2000000 in
theorem babs_any (n : Int) (w : World) (h0 : -1000000000 ≤ n) (h1 : n ≤ 1000000000) : Calls Tryz.prog 94 #[.int .i64 n] w (Ret0 w (.int .i64 (n.natAbs : Int))) := by
  go_enter Tryz.func94, Tryz.ntmps94
  by_cases h : n < 0
  · go_wp2_with fail
    go_ret
    exact ⟨by rw [show ((n.natAbs : Nat) : Int) = -n by omega]; rfl, rfl⟩
  · by_cases h2 : n = 0
    · subst h2
      go_wp2_with fail
      go_ret
      exact ⟨rfl, rfl⟩
    · go_wp2_with fail
      go_ret
      exact ⟨by rw [show ((n.natAbs : Nat) : Int) = n by omega]; rfl, rfl⟩
def fresh1 (v : Value) : Nat := match v with | .string s => if s.size = 0 then 1 else 0 | _ => 0
theorem bs_app (a b : ByteArray) : bs (a ++ b) = bs a ++ bs b := by unfold bs; simp
theorem itoa_abs (n : Int) : Lib.itoa n = (if n < 0 then [45] else []) ++ Lib.decDigits n.natAbs := by
  unfold Lib.itoa
  split
  · rfl
  · rw [List.nil_append]
    congr 1
    omega
theorem of_bs {s : ByteArray} {l : Bs} (h : bs s = l) : s = ⟨l.toArray⟩ := by rw [← h]; exact (bs_back s).symm
set_option maxRecDepth 100000 in
set_option maxHeartbeats 2000000 in
theorem decimal_any (n : Int) (w : World) (h0 : -1000000000 ≤ n) (h1 : n ≤ 1000000000) :
    Calls Tryz.prog 70 #[.int .i64 n] w (Ret w (.string ⟨(Lib.itoa n).toArray⟩)) := by
  go_enter Tryz.func70, Tryz.ntmps70
  go_wp2_with fail
  go_loopw [3, 4] (fun sv mv wr => ∃ (S : ByteArray) (m : Int), sv = .string S ∧ mv = .int .i64 m ∧ -1000000000 ≤ m ∧ m ≤ 1000000000 ∧
      Hid ((S = ⟨#[]⟩ ∧ m = n) ∨ (bs S ≠ [] ∧ (if m.natAbs = 0 then [] else Lib.decDigits m.natAbs) ++ bs S = Lib.decDigits n.natAbs ∧ (0 ≤ n → 0 ≤ m) ∧ (n ≤ 0 → m ≤ 0))) ∧ ∃ z, wr = w.ext z)
    (fun sv mv _ => (intOf mv).natAbs + fresh1 sv)
  case atStart => exact ⟨⟨#[]⟩, n, rfl, rfl, h0, h1, .inl ⟨rfl, rfl⟩, ext_below (Below.refl _ _)⟩
  case round =>
    obtain ⟨S, m, rfl, rfl, hm0, hm1, hI, z, rfl⟩ := hrel
    rcases hI.out with ⟨rfl, hmn⟩ | ⟨hS, hD, hs1, hs2⟩
    · have HMN := Lib.hid hmn
      clear hmn hI
      have htm : (m.tmod 10).natAbs = m.natAbs % 10 := by rw [Int.natAbs_tmod]; rfl
      have htd : (m.tdiv 10).natAbs = m.natAbs / 10 ∧ (0 ≤ m → 0 ≤ m.tdiv 10) ∧ (m ≤ 0 → m.tdiv 10 ≤ 0) := by
        refine ⟨by rw [Int.natAbs_tdiv]; rfl, fun h => Int.tdiv_nonneg h (by omega), fun h => ?_⟩
        have := Int.tdiv_nonneg (a := -m) (b := 10) (by omega) (by omega)
        rw [Int.neg_tdiv] at this
        omega
      obtain ⟨B, hB⟩ : ∃ B, B = UInt8.ofNat (48 + m.natAbs % 10) := ⟨_, rfl⟩
      have hBn : B.toNat = 48 + m.natAbs % 10 := by rw [hB]; exact (digit_ne (i := m.natAbs % 10) (by omega)).2.2.2.2
      have hcv : (convert 96 9 (.slice (some ⟨w.heap.size + z.os.size, 0, none⟩) 1 1)).run Tryz.prog ((w.ext z).alloc (.cells #[.int .u8 (48 + (m.natAbs : Int) % 10)] 5)) = .ok (.string ⟨#[B]⟩) ((w.ext z).alloc (.cells #[.int .u8 (48 + (m.natAbs : Int) % 10)] 5)) := by
        refine run_convert_bytes_back (P := Tryz.prog) _ 96 9 5 ⟨w.heap.size + z.os.size, 0, none⟩ 1 [B] (by kernel_rfl) (by kernel_rfl) (by kernel_rfl) fun j hj => ?_
        have hj0 : j = 0 := by simpa using hj
        subst hj0
        have hsz : w.heap.size + z.os.size = (w.ext z).heap.size := (ext_size w z).symm
        show World.cell? _ ⟨w.heap.size + z.os.size, 0, none⟩ = _
        rw [hsz, World.cell?_alloc_mark]
        simp [hBn]
      have hst := dec_step m.natAbs
      rw [← hB] at hst
      have HST := Lib.hid hst
      clear hst hB hBn
      go_wp2_with (go_at_call 94; refine (babs_any _ _ (by omega) (by omega)).mono ?_; rintro e wq ⟨rfl, rfl⟩; rw [htm])
      go_roundw
      case rel =>
        refine ⟨_, m.tdiv 10, rfl, rfl, by omega, by omega, .inr ⟨by rw [bs_app]; simp [bs], ?_, fun h => htd.2.1 (by have := HMN.out; omega), fun h => htd.2.2 (by have := HMN.out; omega)⟩, ext_below (by repeat (first | exact B_refl | exact Below.refl _ _ | assumption | with_reducible refine B_alloc ?_ _ | with_reducible refine B_ext ?_ _ | with_reducible refine B_drew ?_ | with_reducible refine B_drewN ?_ _ | with_reducible refine B_set ?_ (by simp; omega) _))⟩
        rw [bs_app, htd.1, ← HMN.out, HST.out]
        simp [bs]
      case measure =>
        have : fresh1 (Value.string ⟨#[]⟩) = 1 := rfl
        rw [this]
        have h2 : fresh1 (Value.string (⟨#[B]⟩ ++ ⟨#[]⟩)) = 0 := rfl
        rw [h2]
        simp only [intOf]
        omega
    · have hS2 : ¬ S.toList = [] := by rw [ByteArray.toList_eq]; exact hS
      have hS1 : S.toList.isEmpty = false := by rw [List.isEmpty_eq_false_iff]; exact hS2
      have hS3 : S.size ≤ 20 := by
        have h3 := congrArg List.length hD
        rw [List.length_append, Lib.decDigits_length] at h3
        have h4 := Lib.nDigits_le20 n.natAbs (by omega)
        have h5 : (bs S).length = S.size := by unfold bs; exact Array.length_toList
        omega
      by_cases hm : m = 0
      · subst hm
        clear hI
        have hD2 : bs S = Lib.decDigits n.natAbs := by simpa using hD
        have HD := Lib.hid hD2
        have HIT := Lib.hid (itoa_abs n)
        clear hD hD2 hs1 hs2 hS
        by_cases hneg : n < 0
        · go_wp2_with fail
          go_ret
          refine Ret.of ?_ (by repeat (first | exact B_refl | exact Below.refl _ _ | assumption | with_reducible refine B_alloc ?_ _ | with_reducible refine B_ext ?_ _ | with_reducible refine B_drew ?_ | with_reducible refine B_drewN ?_ _ | with_reducible refine B_set ?_ (by simp; omega) _))
          show Value.string _ = _
          rw [show (⟨#[45]⟩ ++ S : ByteArray) = ⟨(Lib.itoa n).toArray⟩ from of_bs (by rw [bs_app, HIT.out, if_pos hneg, HD.out]; rfl)]
        · go_wp2_with fail
          go_ret
          refine Ret.of ?_ (by repeat (first | exact B_refl | exact Below.refl _ _ | assumption | with_reducible refine B_alloc ?_ _ | with_reducible refine B_ext ?_ _ | with_reducible refine B_drew ?_ | with_reducible refine B_drewN ?_ _ | with_reducible refine B_set ?_ (by simp; omega) _))
          show Value.string _ = _
          rw [show S = ⟨(Lib.itoa n).toArray⟩ from of_bs (by rw [HIT.out, if_neg (by omega), HD.out]; rfl)]
      · clear hI
        have hD1 : Lib.decDigits m.natAbs ++ bs S = Lib.decDigits n.natAbs := by
          rw [if_neg (by omega)] at hD
          exact hD
        have htm : (m.tmod 10).natAbs = m.natAbs % 10 := by rw [Int.natAbs_tmod]; rfl
        have htd : (m.tdiv 10).natAbs = m.natAbs / 10 ∧ (0 ≤ m → 0 ≤ m.tdiv 10) ∧ (m ≤ 0 → m.tdiv 10 ≤ 0) := by
          refine ⟨by rw [Int.natAbs_tdiv]; rfl, fun h => Int.tdiv_nonneg h (by omega), fun h => ?_⟩
          have := Int.tdiv_nonneg (a := -m) (b := 10) (by omega) (by omega)
          rw [Int.neg_tdiv] at this
          omega
        obtain ⟨B, hB⟩ : ∃ B, B = UInt8.ofNat (48 + m.natAbs % 10) := ⟨_, rfl⟩
        have hBn : B.toNat = 48 + m.natAbs % 10 := by rw [hB]; exact (digit_ne (i := m.natAbs % 10) (by omega)).2.2.2.2
        have hcv : (convert 96 9 (.slice (some ⟨w.heap.size + z.os.size, 0, none⟩) 1 1)).run Tryz.prog ((w.ext z).alloc (.cells #[.int .u8 (48 + (m.natAbs : Int) % 10)] 5)) = .ok (.string ⟨#[B]⟩) ((w.ext z).alloc (.cells #[.int .u8 (48 + (m.natAbs : Int) % 10)] 5)) := by
          refine run_convert_bytes_back (P := Tryz.prog) _ 96 9 5 ⟨w.heap.size + z.os.size, 0, none⟩ 1 [B] (by kernel_rfl) (by kernel_rfl) (by kernel_rfl) fun j hj => ?_
          have hj0 : j = 0 := by simpa using hj
          subst hj0
          have hsz : w.heap.size + z.os.size = (w.ext z).heap.size := (ext_size w z).symm
          show World.cell? _ ⟨w.heap.size + z.os.size, 0, none⟩ = _
          rw [hsz, World.cell?_alloc_mark]
          simp [hBn]
        have hst := dec_step m.natAbs
        rw [← hB] at hst
        have HST := Lib.hid hst
        have HD := Lib.hid hD1
        have HS1 := Lib.hid hs1
        have HS2 := Lib.hid hs2
        clear hst hB hBn hD hD1 hs1 hs2
        go_wp2_with (go_at_call 94; refine (babs_any _ _ (by omega) (by omega)).mono ?_; rintro e wq ⟨rfl, rfl⟩; rw [htm])
        go_roundw
        case rel =>
          refine ⟨_, m.tdiv 10, rfl, rfl, by omega, by omega, .inr ⟨by rw [bs_app]; simp [bs], ?_, fun h => htd.2.1 (HS1.out h), fun h => htd.2.2 (HS2.out h)⟩, ext_below (by repeat (first | exact B_refl | exact Below.refl _ _ | assumption | with_reducible refine B_alloc ?_ _ | with_reducible refine B_ext ?_ _ | with_reducible refine B_drew ?_ | with_reducible refine B_drewN ?_ _ | with_reducible refine B_set ?_ (by simp; omega) _))⟩
          rw [bs_app, htd.1, ← HD.out, HST.out]
          simp [bs]
        case measure =>
          have h2 : fresh1 (Value.string (⟨#[B]⟩ ++ S)) = 0 := by unfold fresh1; dsimp only; rw [if_neg (by rw [ByteArray.size_append]; show ¬ 1 + S.size = 0; omega)]
          rw [h2]
          simp only [intOf]
          omega

theorem itoa_small {n : Int} (h0 : -1000000000 ≤ n) (h1 : n ≤ 1000000000) : (Lib.itoa n).length ≤ 21 := Lib.itoa_length_le n (by omega) (by omega)
/-- Numbers, each behind a blank. -/
def numsB : List Int → Bs
  | [] => []
  | n :: l => 32 :: Lib.itoa n ++ numsB l
theorem numsB_take {l : List Int} {j : Nat} (h : j < l.length) : numsB (l.take (j + 1)) = numsB (l.take j) ++ ([32] ++ Lib.itoa l[j]) := by
  induction l generalizing j with
  | nil => simp at h
  | cons n l ih =>
    cases j with
    | zero => simp [numsB]
    | succ j =>
      rw [List.take_succ_cons, numsB, ih (by simpa using h), List.take_succ_cons, numsB]
      simp
theorem numsB_len (l : List Int) (h : ∀ n ∈ l, -1000000000 ≤ n ∧ n ≤ 1000000000) : (numsB l).length ≤ 22 * l.length := by
  induction l with
  | nil => simp [numsB]
  | cons n l ih =>
    have h1 := h n (by simp)
    have h2 := itoa_small h1.1 h1.2
    have h3 := ih fun x hx => h x (by simp [hx])
    rw [numsB]
    simp only [List.length_append, List.length_cons] at h3 ⊢
    omega
set_option maxRecDepth 100000 in
set_option maxHeartbeats 2000000 in
theorem numbers_any (l : List Int) (g cap : Nat) (w : World) (hg : g < w.heap.size) (hc : ∀ (j : Nat) n, l[j]? = some n → w.cell? ⟨g, j, none⟩ = some (.int .i64 n)) (hl : l.length ≤ 10) (hb : ∀ n ∈ l, -1000000000 ≤ n ∧ n ≤ 1000000000) :
    Calls Tryz.prog 44 #[.slice (some ⟨g, 0, none⟩) l.length cap] w (Ret w (.string ⟨(numsB l).toArray⟩)) := by
  have HC := Lib.hid hc
  clear hc
  have HL := Lib.hid (fun j => numsB_len (l.take j) fun n hn => hb n (List.mem_of_mem_take hn))
  go_enter Tryz.func44, Tryz.ntmps44
  go_wp2_with fail
  go_loopw [3, 4] (fun sv i wr => ∃ j : Nat, j ≤ l.length ∧ i = .int .i64 j ∧ sv = .string ⟨(numsB (l.take j)).toArray⟩ ∧ ∃ z, wr = w.ext z) (fun _ i _ => l.length - (intOf i).toNat)
  case atStart => exact ⟨0, Nat.zero_le _, rfl, rfl, ext_below (Below.refl _ _)⟩
  case round =>
    obtain ⟨j, hj, rfl, rfl, z, rfl⟩ := hrel
    by_cases hjl : j < l.length
    · have x0 := HC.out j _ (List.getElem?_eq_getElem hjl)
      have HT := Lib.hid (numsB_take hjl)
      obtain ⟨b0, b1⟩ := hb _ (List.getElem_mem hjl)
      have hln := HL.out j
      rw [List.length_take] at hln
      have hlt2 : (j : Int) < (l.length : Int) := by omega
      generalize l[j] = n at *
      have hS : (numsB (l.take j)).length ≤ 300 := by omega
      have hS2 := itoa_small b0 b1
      generalize numsB (l.take j) = S at *
      clear hln
      go_wp2_with (go_at_call 70; refine (decimal_any n _ b0 b1).mono ?_; rintro e wq ⟨rfl, z1, rfl⟩)
      go_roundw
      case rel =>
        refine ⟨j + 1, by omega, by go_num, ?_, ext_below (by repeat (first | exact B_refl | exact Below.refl _ _ | assumption | with_reducible refine B_alloc ?_ _ | with_reducible refine B_ext ?_ _ | with_reducible refine B_drew ?_ | with_reducible refine B_drewN ?_ _ | with_reducible refine B_set ?_ (by simp; omega) _))⟩
        rw [HT.out]
        exact congrArg Value.string (of_bs (by rw [bs_app, bs_app]; simp [bs]))
      case measure => simp [intOf]; omega
    · have hje : j = l.length := by omega
      subst hje
      rw [List.take_length]
      go_wp2_with fail
      go_ret
      exact Ret.of rfl (by repeat (first | exact B_refl | exact Below.refl _ _ | assumption | with_reducible refine B_alloc ?_ _ | with_reducible refine B_ext ?_ _ | with_reducible refine B_drew ?_ | with_reducible refine B_drewN ?_ _ | with_reducible refine B_set ?_ (by simp; omega) _))
end Go.Proofs.YtpohkolapgofdaaGreatDoor
namespace Go.Proofs.YtpohkolapgofdaaGreatDoor
open Go.RowKit
attribute [local go_sem] World.cell?_alloc_mark ext_size ext_cell ext_frozen lt_add_r lt_add_r2 lt_add_r3 lt_add_r4 lt_add_r5 lt_add_r6 lt_add_r7 lt_add_r8

def numOkR (s : Bs) : Bool := !(decide ((restB s).length < 1) || decide (7 < (restB s).length)) && (match Lib.decFrom 0 (restB s) with | none => false | some _ => Lib.itoa (numR s) == s)
theorem bs_toList (s : ByteArray) : bs s = s.toList := (ByteArray.toList_eq s).symm
theorem bs_len (s : ByteArray) : (bs s).length = s.size := by unfold bs; exact Array.length_toList
theorem bs_at {s : ByteArray} {k : Nat} (h : k < s.size) : (bs s).drop k = s[k] :: (bs s).drop (k + 1) := by
  rw [List.drop_eq_getElem_cons (by rw [bs_len]; exact h)]
  rfl
theorem digitVal_of {b : UInt8} : Lib.digitVal b = if digitI (b.toNat : Int) then some (b.toNat - 48) else none := by
  unfold Lib.digitVal digitI
  by_cases h : 48 ≤ b.toNat ∧ b.toNat ≤ 57
  · rw [if_pos h, if_pos (by simp; omega)]
  · rw [if_neg h, if_neg (by simp; omega)]
theorem bs_rest (s : ByteArray) (h : 1 ≤ s.size) : bs (s.extract 1 s.size) = (bs s).drop 1 := by
  unfold bs
  simp [ByteArray.data_extract]
  exact List.take_of_length_le (by rw [List.length_tail, Array.length_toList]; exact Nat.le_refl _)
theorem num_early {s : Bs} (h : (restB s).length < 1 ∨ 7 < (restB s).length) : numR s = 0 ∧ numOkR s = false := by
  unfold numR numOkR
  have h1 : (decide ((restB s).length < 1) || decide (7 < (restB s).length)) = true := by simpa using h
  rw [h1]
  exact ⟨rfl, rfl⟩
theorem num_late {s : Bs} (h1 : 1 ≤ (restB s).length) (h7 : (restB s).length ≤ 7) (sg : Nat → Int) (hsg : ∀ n, sg n = if s.head? == some 45 then -(n : Int) else (n : Int)) :
    (Lib.decFrom 0 (restB s) = none → numR s = 0 ∧ numOkR s = false) ∧ (∀ n, Lib.decFrom 0 (restB s) = some n → numR s = sg n ∧ numOkR s = (Lib.itoa (sg n) == s)) := by
  have hc : (decide ((restB s).length < 1) || decide (7 < (restB s).length)) = false := by rw [Bool.or_eq_false_iff, decide_eq_false_iff_not, decide_eq_false_iff_not]; omega
  refine ⟨fun h => ?_, fun n h => ?_⟩
  · unfold numOkR numR
    rw [hc, h]
    exact ⟨rfl, rfl⟩
  · have hn : numR s = sg n := by
      unfold numR
      rw [hc, h, hsg]
      rfl
    refine ⟨hn, ?_⟩
    unfold numOkR
    rw [hc, h, hn]
    rfl
theorem head_at {s : ByteArray} (h : 0 < s.size) : (bs s).head? = some s[0] := by
  rw [List.head?_eq_getElem?, List.getElem?_eq_getElem (by rw [bs_len]; exact h)]
  rfl
set_option maxRecDepth 100000 in
set_option maxHeartbeats 2000000 in
theorem number_any (s : ByteArray) (w : World) (hs : s.size ≤ 100000) :
    Calls Tryz.prog 64 #[.string s, .int .i64 7] w (Ret w (.tuple #[.int .i64 (numR (bs s)), .bool (numOkR (bs s))])) := by
  by_cases h0 : s.size = 0
  · have hX : numR (bs s) = 0 ∧ numOkR (bs s) = false := by
      have : bs s = [] := List.eq_nil_of_length_eq_zero (by rw [bs_len]; exact h0)
      rw [this]
      exact ⟨rfl, rfl⟩
    rw [hX.1, hX.2]
    clear hX
    go_enter Tryz.func64, Tryz.ntmps64
    go_wp2_with fail
    go_ret2
    exact Ret.of rfl (by repeat (first | exact B_refl | exact Below.refl _ _ | assumption | with_reducible refine B_alloc ?_ _ | with_reducible refine B_ext ?_ _ | with_reducible refine B_drew ?_ | with_reducible refine B_drewN ?_ _ | with_reducible refine B_set ?_ (by simp; omega) _))
  have h1 : 0 < s.size := by omega
  have hh := head_at h1
  by_cases hm : s[0].toNat = 45
  · have h45 : s[0] = 45 := UInt8.toNat_inj.1 hm
    have hr : restB (bs s) = (bs s).drop 1 := by unfold restB; rw [hh, h45]; rfl
    have hrl : (restB (bs s)).length = s.size - 1 := by rw [hr, List.length_drop, bs_len]
    by_cases he : s.size < 2 ∨ 8 < s.size
    · obtain ⟨g1, g2⟩ := num_early (s := bs s) (by omega)
      rw [g1, g2]
      clear g1 g2 hr hrl hh
      go_enter Tryz.func64, Tryz.ntmps64
      rcases he with he | he
      · go_wp2_with fail
        go_ret2
        exact Ret.of rfl (by repeat (first | exact B_refl | exact Below.refl _ _ | assumption | with_reducible refine B_alloc ?_ _ | with_reducible refine B_ext ?_ _ | with_reducible refine B_drew ?_ | with_reducible refine B_drewN ?_ _ | with_reducible refine B_set ?_ (by simp; omega) _))
      · go_wp2_with fail
        go_ret2
        exact Ret.of rfl (by repeat (first | exact B_refl | exact Below.refl _ _ | assumption | with_reducible refine B_alloc ?_ _ | with_reducible refine B_ext ?_ _ | with_reducible refine B_drew ?_ | with_reducible refine B_drewN ?_ _ | with_reducible refine B_set ?_ (by simp; omega) _))
    · have hR := bs_rest s (by omega)
      rw [← hr] at hR
      obtain ⟨n1, n2⟩ := num_late (s := bs s) (by omega) (by omega) (fun n => -(n : Int)) (fun n => by rw [hh, h45]; rfl)
      rw [← hR] at n1 n2
      have HNONE := Lib.hid n1
      have HSOME := Lib.hid n2
      have hRs : (s.extract 1 s.size).size = s.size - 1 := by simp
      have hne : ¬ (s.size < 2) := by omega
      have hne8 : ¬ (8 < s.size) := by omega
      clear n1 n2 hr hrl hh hR he h0 h45
      generalize numR (bs s) = V at *
      generalize numOkR (bs s) = O at *
      go_enter Tryz.func64, Tryz.ntmps64
      go_wp2_with fail
      generalize s.extract 1 s.size = R at *
      go_loopw [8, 9] (fun nv i wr => ∃ (k acc : Nat), k ≤ R.size ∧ i = .int .i64 k ∧ nv = .int .i64 acc ∧ acc < 10 ^ k ∧ Hid (Lib.decFrom 0 (bs R) = Lib.decFrom acc ((bs R).drop k)) ∧ ∃ z, wr = w.ext z) (fun _ i _ => R.size - (intOf i).toNat)
      case atStart => exact ⟨0, 0, Nat.zero_le _, rfl, rfl, by decide, (show _ = _ from rfl), ext_below (Below.refl _ _)⟩
      case round =>
        obtain ⟨k, acc, hk, rfl, rfl, hac, hf, z, rfl⟩ := hrel
        have hpow : 10 ^ k ≤ 10 ^ 7 := Nat.pow_le_pow_right (by decide) (by omega)
        have hac2 : acc < 10000000 := by omega
        by_cases hlt : k < R.size
        · have hf2 := hf.out
          rw [bs_at hlt, Lib.decFrom, digitVal_of] at hf2
          have hpow2 : Hid ((10 : Nat) ^ (k + 1) = 10 ^ k * 10) := Nat.pow_succ 10 k
          have hb : (R[k].toNat : Int) < 256 := by have := R[k].toNat_lt; omega
          have hb0 : (0 : Int) ≤ (R[k].toNat : Int) := by omega
          have HAC := Lib.hid hac
          clear hpow hac
          cases hdg : digitI (R[k].toNat : Int)
          · rw [hdg] at hf2
            have HF := Lib.hid hf2
            clear hf hf2
            go_wp2_with (go_at_call 69; refine (digit_any _ _).mono ?_; rintro e wq ⟨rfl, rfl⟩; rw [hdg])
            go_ret2
            obtain ⟨g1, g2⟩ := HNONE.out HF.out
            rw [g1, g2]
            exact Ret.of rfl (by repeat (first | exact B_refl | exact Below.refl _ _ | assumption | with_reducible refine B_alloc ?_ _ | with_reducible refine B_ext ?_ _ | with_reducible refine B_drew ?_ | with_reducible refine B_drewN ?_ _ | with_reducible refine B_set ?_ (by simp; omega) _))
          · rw [hdg] at hf2
            simp only [if_true] at hf2
            have HF := Lib.hid hf2
            have hd48 : 48 ≤ R[k].toNat ∧ R[k].toNat ≤ 57 := by unfold digitI at hdg; simp only [Bool.and_eq_true, decide_eq_true_eq] at hdg; omega
            obtain ⟨d, hd⟩ : ∃ d : Nat, R[k].toNat = 48 + d := ⟨R[k].toNat - 48, by omega⟩
            have hd9 : d ≤ 9 := by omega
            rw [hd, show 48 + d - 48 = d by omega] at HF
            have hlt' : (k : Int) < (R.size : Int) := by omega
            have hdi : ((R[k].toNat : Nat) : Int) = 48 + (d : Int) := by omega
            clear hf hf2 hd hd48 hb hb0
            go_wp2_with (go_at_call 69; refine (digit_any _ _).mono ?_; rintro e wq ⟨rfl, rfl⟩; first | rw [hdg] | (rw [hdi] at hdg; rw [hdg]))
            go_roundw
            case rel => exact ⟨k + 1, acc * 10 + d, by omega, by go_num, by go_num, by have := hpow2.out; have := HAC.out; omega, HF, ext_below (by repeat (first | exact B_refl | exact Below.refl _ _ | assumption | with_reducible refine B_alloc ?_ _ | with_reducible refine B_ext ?_ _ | with_reducible refine B_drew ?_ | with_reducible refine B_drewN ?_ _ | with_reducible refine B_set ?_ (by simp; omega) _))⟩
            case measure => simp [intOf]; omega
        · have hke : k = R.size := by omega
          subst hke
          have hf2 := hf.out
          rw [List.drop_eq_nil_of_le (by rw [bs_len]; omega), Lib.decFrom] at hf2
          have HS := Lib.hid (HSOME.out acc hf2)
          clear hf hf2 hpow hac
          go_wp2_with (go_at_call 70; refine (decimal_any _ _ (by omega) (by omega)).mono ?_; rintro e wq ⟨rfl, z1, rfl⟩)
          go_ret2
          obtain ⟨g1, g2⟩ := HS.out
          rw [g1, g2]
          refine Ret.of ?_ (by repeat (first | exact B_refl | exact Below.refl _ _ | assumption | with_reducible refine B_alloc ?_ _ | with_reducible refine B_ext ?_ _ | with_reducible refine B_drew ?_ | with_reducible refine B_drewN ?_ _ | with_reducible refine B_set ?_ (by simp; omega) _))
          rw [bs_toList]
          rfl
  · have hr : restB (bs s) = bs s := by
      unfold restB
      rw [hh, if_neg]
      intro e
      simp only [beq_iff_eq, Option.some.injEq] at e
      exact hm (by rw [e]; rfl)
    have hrl : (restB (bs s)).length = s.size := by rw [hr, bs_len]
    by_cases he : 7 < s.size
    · obtain ⟨g1, g2⟩ := num_early (s := bs s) (by omega)
      rw [g1, g2]
      clear g1 g2 hr hrl hh
      go_enter Tryz.func64, Tryz.ntmps64
      go_wp2_with fail
      go_ret2
      exact Ret.of rfl (by repeat (first | exact B_refl | exact Below.refl _ _ | assumption | with_reducible refine B_alloc ?_ _ | with_reducible refine B_ext ?_ _ | with_reducible refine B_drew ?_ | with_reducible refine B_drewN ?_ _ | with_reducible refine B_set ?_ (by simp; omega) _))
    · obtain ⟨n1, n2⟩ := num_late (s := bs s) (by omega) (by omega) (fun n => (n : Int)) (fun n => by
        rw [hh, if_neg]
        intro e
        simp only [beq_iff_eq, Option.some.injEq] at e
        exact hm (by rw [e]; rfl))
      rw [hr] at n1 n2
      have HNONE := Lib.hid n1
      have HSOME := Lib.hid n2
      clear n1 n2 hr hrl hh
      generalize numR (bs s) = V at *
      generalize numOkR (bs s) = O at *
      obtain ⟨R, hRe⟩ : ∃ R, R = s := ⟨_, rfl⟩
      subst hRe
      go_enter Tryz.func64, Tryz.ntmps64
      go_wp2_with fail
      go_loopw [8, 9] (fun nv i wr => ∃ (k acc : Nat), k ≤ R.size ∧ i = .int .i64 k ∧ nv = .int .i64 acc ∧ acc < 10 ^ k ∧ Hid (Lib.decFrom 0 (bs R) = Lib.decFrom acc ((bs R).drop k)) ∧ ∃ z, wr = w.ext z) (fun _ i _ => R.size - (intOf i).toNat)
      case atStart => exact ⟨0, 0, Nat.zero_le _, rfl, rfl, by decide, (show _ = _ from rfl), ext_below (Below.refl _ _)⟩
      case round =>
        obtain ⟨k, acc, hk, rfl, rfl, hac, hf, z, rfl⟩ := hrel
        have hpow : 10 ^ k ≤ 10 ^ 7 := Nat.pow_le_pow_right (by decide) (by omega)
        have hac2 : acc < 10000000 := by omega
        by_cases hlt : k < R.size
        · have hf2 := hf.out
          rw [bs_at hlt, Lib.decFrom, digitVal_of] at hf2
          have hpow2 : Hid ((10 : Nat) ^ (k + 1) = 10 ^ k * 10) := Nat.pow_succ 10 k
          have hb : (R[k].toNat : Int) < 256 := by have := R[k].toNat_lt; omega
          have hb0 : (0 : Int) ≤ (R[k].toNat : Int) := by omega
          have HAC := Lib.hid hac
          clear hpow hac
          cases hdg : digitI (R[k].toNat : Int)
          · rw [hdg] at hf2
            have HF := Lib.hid hf2
            clear hf hf2
            go_wp2_with (go_at_call 69; refine (digit_any _ _).mono ?_; rintro e wq ⟨rfl, rfl⟩; rw [hdg])
            go_ret2
            obtain ⟨g1, g2⟩ := HNONE.out HF.out
            rw [g1, g2]
            exact Ret.of rfl (by repeat (first | exact B_refl | exact Below.refl _ _ | assumption | with_reducible refine B_alloc ?_ _ | with_reducible refine B_ext ?_ _ | with_reducible refine B_drew ?_ | with_reducible refine B_drewN ?_ _ | with_reducible refine B_set ?_ (by simp; omega) _))
          · rw [hdg] at hf2
            simp only [if_true] at hf2
            have HF := Lib.hid hf2
            have hd48 : 48 ≤ R[k].toNat ∧ R[k].toNat ≤ 57 := by unfold digitI at hdg; simp only [Bool.and_eq_true, decide_eq_true_eq] at hdg; omega
            obtain ⟨d, hd⟩ : ∃ d : Nat, R[k].toNat = 48 + d := ⟨R[k].toNat - 48, by omega⟩
            have hd9 : d ≤ 9 := by omega
            rw [hd, show 48 + d - 48 = d by omega] at HF
            have hlt' : (k : Int) < (R.size : Int) := by omega
            have hdi : ((R[k].toNat : Nat) : Int) = 48 + (d : Int) := by omega
            clear hf hf2 hd hd48 hb hb0
            go_wp2_with (go_at_call 69; refine (digit_any _ _).mono ?_; rintro e wq ⟨rfl, rfl⟩; first | rw [hdg] | (rw [hdi] at hdg; rw [hdg]))
            go_roundw
            case rel => exact ⟨k + 1, acc * 10 + d, by omega, by go_num, by go_num, by have := hpow2.out; have := HAC.out; omega, HF, ext_below (by repeat (first | exact B_refl | exact Below.refl _ _ | assumption | with_reducible refine B_alloc ?_ _ | with_reducible refine B_ext ?_ _ | with_reducible refine B_drew ?_ | with_reducible refine B_drewN ?_ _ | with_reducible refine B_set ?_ (by simp; omega) _))⟩
            case measure => simp [intOf]; omega
        · have hke : k = R.size := by omega
          subst hke
          have hf2 := hf.out
          rw [List.drop_eq_nil_of_le (by rw [bs_len]; omega), Lib.decFrom] at hf2
          have HS := Lib.hid (HSOME.out acc hf2)
          clear hf hf2 hpow hac
          go_wp2_with (go_at_call 70; refine (decimal_any _ _ (by omega) (by omega)).mono ?_; rintro e wq ⟨rfl, z1, rfl⟩)
          go_ret2
          obtain ⟨g1, g2⟩ := HS.out
          rw [g1, g2]
          refine Ret.of ?_ (by repeat (first | exact B_refl | exact Below.refl _ _ | assumption | with_reducible refine B_alloc ?_ _ | with_reducible refine B_ext ?_ _ | with_reducible refine B_drew ?_ | with_reducible refine B_drewN ?_ _ | with_reducible refine B_set ?_ (by simp; omega) _))
          rw [bs_toList]
          rfl
end Go.Proofs.YtpohkolapgofdaaGreatDoor
