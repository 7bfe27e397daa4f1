/- Walks of the reference's records: IsDay, IsShare, few, right, CheckRecords. -/
import Derived.Test.YtkhkhnellekofaaGreatDoorRN
import Derived.Test.YtkhkhnellekofaaGreatDoorRL
import Derived.Test.YtkhkhnellekofaaGreatDoorR9
import Derived.Test.YtkhkhnellekofaaGreatDoorJT
import Derived.Test.YtkhkhnellekofaaGreatDoorJL
import Derived.Test.YtkhkhnellekofaaGreatDoorE3
import Derived.Test.YtkhkhnellekofaaGreatDoorNE
import Derived.Test.YtkhkhnellekofaaGreatDoorJ4
import Derived.Test.YtkhkhnellekofaaGreatDoorProg
import Derived.Test.YtkhkhnellekofaaGreatDoorK0
import Derived.Test.YtkhkhnellekofaaGreatDoorS0
import Derived.Laws.Strings
import Derived.Test.YtkhkhnellekofaaGreatDoorOB
set_option linter.unusedSimpArgs false
set_option linter.unusedVariables false
namespace Go.Proofs.YtkhkhnellekofaaGreatDoor
open Go.RowKit Go.Shelf
attribute [local go_sem] World.cell?_alloc_mark ext_size ext_cell ext_frozen lt_add_r lt_add_r2 lt_add_r3 lt_add_r4 lt_add_r5 lt_add_r6 lt_add_r7 lt_add_r8
attribute [local go_sem] ext_setCell alloc_setCell_lt

theorem rec_kind {x : Rec} (h : checkRecP x = 0) : 0 ≤ x.kind ∧ x.kind ≤ 4 := by
 unfold checkRecP at h
 split at h
 · simp at h
 · rename_i hc
   unfold inR at hc
   simp at hc
   omega
theorem contradicts_any (l : List Rec) (A : Option Addr) (c : Nat) (w : World) (hc : l.length ≤ c) (hl : l.length ≤ 1000) (hok : ∀ x ∈ l, checkRecP x = 0) (hS : Sl w 8 Rec.cells A l) :
    Calls Tryz.prog 38 #[.slice A l.length c] w (Ret w (.bool (contraP l))) :=
 contradicts_of l A c _ _ w hc hl (fun x hx => rec_kind (hok x hx)) hS (fun W hB => circle_any l A c W hc hl (hS.keep hB)) (fun W hB => tooMuch_any l A c W hc hl hok (hS.keep hB))
end Go.Proofs.YtkhkhnellekofaaGreatDoor
namespace Go.Proofs.YtkhkhnellekofaaGreatDoor
open Go.RowKit Go.Shelf
attribute [local go_sem] World.cell?_alloc_mark ext_size ext_cell ext_frozen lt_add_r lt_add_r2 lt_add_r3 lt_add_r4 lt_add_r5 lt_add_r6 lt_add_r7 lt_add_r8
attribute [local go_sem] ext_setCell alloc_setCell_lt

theorem elInt : ElTy Tryz.prog 25 3 1 8 := elTy_of (z := .int .i64 0) (by kernel_rfl) (by kernel_rfl) rfl (by decide)
def TzTab (w : World) : Prop := TabAt 2 Lib.deBruijn64tab w ∧ 2 < w.heap.size
theorem TzTab.keep {w W : World} {n : Nat} (h : TzTab w) (hB : Below n w W) (hn : w.heap.size ≤ n := by first | exact Nat.le_refl _ | omega) : TzTab W :=
 ⟨fun j hj => (B_cell hB (Nat.lt_of_lt_of_le h.2 hn)).trans (h.1 j hj), Nat.lt_of_lt_of_le h.2 hB.size⟩
theorem tz_any (x : Nat) (hx : x < 4096) (w : World) (hT : TzTab w) : Calls Tryz.prog 65 #[.int .u64 x] w (Ret0 w (.int .i64 (Lib.ctz 64 x))) :=
 (Any7.bits_TrailingZeros tzBits x (by omega) w (fun _ => hT.1)).mono fun _ _ h => ⟨h.1, h.2.symm⟩
theorem sl_int {w : World} {b n : Nat} {t : TypeId} {fr : Nat × Nat} (h : w.heap[b]? = some (.cells #[.int .i64 (n : Int)] t fr)) : Sl w 1 intC (some ⟨b, 0, none⟩) [n] := fun _ => ⟨b, 0, rfl, blk_lt h, fun k y hy j u hu => by
 have hk : k = 0 := by have := (List.getElem?_eq_some_iff.1 hy).1; simp at this; omega
 subst hk
 simp only [List.getElem?_cons_zero, Option.some.injEq] at hy
 subst hy
 match j, hu with
 | 0, hu => simp [intC] at hu; simp [World.cell?, h, ← hu]
 | j + 1, hu => simp [intC] at hu⟩
theorem bits_and_i64 (a b : Nat) (ha : a < 4611686018427387904) (hb : b < 4611686018427387904) : bits .and .i64 (a : Int) (b : Int) = ((a &&& b : Nat) : Int) := by
 have hx : a &&& b ≤ a := Nat.and_le_left
 have h1 : (BitVec.ofInt 64 (a : Int)).toNat = a := by
  rw [BitVec.ofInt_natCast, BitVec.toNat_ofNat]; exact Nat.mod_eq_of_lt (by omega)
 have h2 : (BitVec.ofInt 64 (b : Int)).toNat = b := by
  rw [BitVec.ofInt_natCast, BitVec.toNat_ofNat]; exact Nat.mod_eq_of_lt (by omega)
 show IntKind.i64.wrap ((BitVec.ofInt 64 (a : Int) &&& BitVec.ofInt 64 (b : Int)).toNat : Int) = _
 rw [BitVec.toNat_and, h1, h2, IntKind.wrap_i64]
 omega
theorem and_pred (x : Nat) (hx : x < 4096) (h0 : x ≠ 0) : bits .and .i64 (x : Int) ((x : Int) - 1) = ((x &&& (x - 1) : Nat) : Int) := by
 rw [show ((x : Int) - 1) = ((x - 1 : Nat) : Int) by omega]
 exact bits_and_i64 x (x - 1) (by omega) (by omega)
set_option maxRecDepth 100000 in
set_option maxHeartbeats 2000000 in
theorem elements_any (n set : Nat) (w : World) (hn : n ≤ 12) (hx : set < 2 ^ n) (hT : TzTab w) :
    Calls Tryz.prog 36 #[.int .i64 set] w (fun e w' => ∃ v, e = .returned v ∧ OwnS w' w.heap.size 3 1 intC v (bitsP n set) ∧ Below w.heap.size w w') := by
 have HT := Lib.hid hT
 clear hT
 go_enter Tryz.func36, Tryz.ntmps36
 go_wp2_with fail
 go_loopw [0, 3] (fun v0 v wr => ∃ (x : Nat) (acc : List Nat), v0 = .int .i64 x ∧ x < 2 ^ n ∧ Hid (bitsP n set = acc ++ bitsP n x) ∧ OwnS wr w.heap.size 3 1 intC v acc ∧ Below w.heap.size w wr) (fun v0 _ _ => (intOf v0).toNat)
 case atStart => exact ⟨set, [], rfl, hx, rfl, OwnS.nil, Below.refl _ _⟩
 case round =>
  obtain ⟨x, acc, rfl, hx2, HX, hown, hB⟩ := hrel
  obtain ⟨VA, vc, rfl, _, hvc⟩ := hown.sl intC_len
  have HO := Lib.hid hown
  have HB := Lib.hid hB
  have h12 : x < 4096 := Nat.lt_of_lt_of_le hx2 (Nat.pow_le_pow_right (n := 2) (by decide) hn)
  by_cases h0 : x = 0
  · subst h0
    have hx9 := HX.out
    rw [bits_none, List.append_nil] at hx9
    have HX9 := Lib.hid hx9
    clear hx9 hown
    go_wp2_with fail
    go_ret
    exact ⟨_, rfl, by rw [HX9.out]; exact HO.out, HB.out⟩
  · have hne : ¬ (x : Int) = 0 := by omega
    have hcv : IntKind.u64.wrap (x : Int) = (x : Int) := by rw [IntKind.wrap_u64]; omega
    have HTZ := Lib.hid (fun W (hW : Below wr.heap.size wr W) => tz_any x h12 W ((HT.out.keep HB.out).keep hW))
    have hal : acc.length ≤ 12 := by
     have h1 := congrArg List.length HX.out
     have h2 : (bitsP n set).length ≤ n := by unfold bitsP; exact Nat.le_trans (List.length_filter_le _ _) (by simp)
     rw [List.length_append] at h1
     omega
    have hbs := hB.size
    clear hown hB
    go_upto_region 3 with
     (first
      | (go_at_call 65
         go_must (refine (HTZ.out _ Bw).mono ?_)
         rintro e wq ⟨rfl, rfl⟩)
      | (at_builtin
         go_loud (refine wpList_append_S (v := .slice VA acc.length vc) (n := acc.length) (m := 1) rfl _ _ rfl elInt intC_len intC_one rfl (xs := acc) (ys := [Lib.ctz 64 x]) (HO.out.keep (n := wr.heap.size) Bw) rfl rfl rfl (sl_int (J_new _ _ _ rfl)) (by simp [maxLen]; omega) (by omega) (by simp; omega) ?_)
         intro v3 w3 h1 h2 h3
         have hb3 := Below.grown (B := w.heap.size) (a := w) (HB.out.trans (Below.mono (B := wr.heap.size) (B_alloc (Below.refl _ _) _) hbs)) h2 (by simp; omega) (fun j hj => (HO.out.ge j hj).1)
         have H1 := Lib.hid h1
         have HB3 := Lib.hid hb3
         clear h1 h2 h3 hb3))
    go_wp2_with fail
    go_round
    case rel =>
     rw [and_pred x h12 h0]
     refine ⟨x &&& (x - 1), acc ++ [Lib.ctz 64 x], rfl, and_pred_lt hx2, ?_, H1.out, HB3.out⟩
     show _ = _
     rw [HX.out, bits_step hn hx2 h0]
     simp
    case measure =>
     rw [and_pred x h12 h0]
     have := and_pred_dec h0
     simp only [intOf]
     omega
end Go.Proofs.YtkhkhnellekofaaGreatDoor
namespace Go.Proofs.YtkhkhnellekofaaGreatDoor
open Go.RowKit Go.Shelf
attribute [local go_sem] World.cell?_alloc_mark ext_size ext_cell ext_frozen lt_add_r lt_add_r2 lt_add_r3 lt_add_r4 lt_add_r5 lt_add_r6 lt_add_r7 lt_add_r8
attribute [local go_sem] ext_setCell alloc_setCell_lt

noncomputable def bestsGo (l : List Rec) : Nat → Option (List Nat)
 | 0 => none
 | k + 1 => bestStep l (bestsGo l k) (bitsP l.length k)
def BestAt (W : World) (base : Nat) (v : Value) : Option (List Nat) → Prop
 | none => v = .slice none 0 0
 | some s => s ≠ [] ∧ OwnS W base 3 1 intC v s
end Go.Proofs.YtkhkhnellekofaaGreatDoor
namespace Go.Proofs.YtkhkhnellekofaaGreatDoor
open Go.RowKit

def nAnn : ByteArray := ⟨#[97, 110, 110]⟩
def nBob : ByteArray := ⟨#[98, 111, 98]⟩
def nCat : ByteArray := ⟨#[99, 97, 116]⟩
def nDan : ByteArray := ⟨#[100, 97, 110]⟩
def nA1 : ByteArray := ⟨#[97, 49]⟩
def n0 : ByteArray := ⟨#[]⟩
def famLaws : List Law := [⟨0, false, 1, 4⟩, ⟨50000, true, 1, 2⟩]
def famD (k : Nat) : Deed := match k with
 | 0 => ⟨6, 0, n0, nAnn, [⟨nBob, 0, 0⟩], 0, 0⟩
 | 1 => ⟨6, 0, n0, nAnn, [⟨nCat, 0, 0⟩], 0, 0⟩
 | 2 => ⟨7, 0, n0, nAnn, [⟨nDan, 0, 0⟩], 0, 0⟩
 | 3 => ⟨0, 100, nA1, n0, [⟨nAnn, 1, 1⟩], 1, 0⟩
 | _ => ⟨8, 200, n0, nAnn, [], 0, 0⟩
def famDeeds : List Deed := [famD 0, famD 1, famD 2, famD 3, famD 4]
def fam1 : St := ⟨[(nAnn, nBob)], [], [], [], [], []⟩
def fam2 : St := ⟨[(nAnn, nBob), (nAnn, nCat)], [], [], [], [], []⟩
def fam3 : St := ⟨[(nAnn, nBob), (nAnn, nCat)], [(nAnn, nDan)], [], [], [], []⟩
def fam4 : St := ⟨[(nAnn, nBob), (nAnn, nCat)], [(nAnn, nDan)], [], [], [], [⟨nA1, 1, -1, [(nAnn, 1)], []⟩]⟩
def famParts : Parts := [(nBob, Rat.divInt 3 8), (nCat, Rat.divInt 3 8), (nDan, Rat.divInt 1 4)]
def fam5 : St := ⟨[(nAnn, nBob), (nAnn, nCat)], [(nAnn, nDan)], [nAnn], [], [], [⟨nA1, 1, -1, famParts, [nAnn]⟩]⟩
theorem fam_laws : checkLawsP famLaws = 0 := by kernel_rfl
open Classical in
theorem fam_0 : nextD famLaws zeroSt 0 0 (famD 0) = (fam1, 0) := by
 have h1 : checkDeedP (famD 0) = 0 := by kernel_rfl
 have h2 : ¬ Desc zeroSt (toName (famD 0)) (famD 0).frm := desc_none rfl
 unfold nextD
 rw [h1]
 show (if (0 != 0) = true then _ else if decide (60 ≤ 0) = true then _ else if decide ((0 : Int) < 0) = true then _ else childP zeroSt (famD 0)) = _
 unfold childP
 rw [decide_eq_false h2]
 rfl
open Classical in
theorem fam_1 : nextD famLaws fam1 1 0 (famD 1) = (fam2, 0) := by
 have h1 : checkDeedP (famD 1) = 0 := by kernel_rfl
 have h2 : ¬ Desc fam1 (toName (famD 1)) (famD 1).frm := desc_none (by kernel_rfl)
 unfold nextD
 rw [h1]
 show (if (0 != 0) = true then _ else if decide (60 ≤ 1) = true then _ else if decide ((0 : Int) < 0) = true then _ else childP fam1 (famD 1)) = _
 unfold childP
 rw [decide_eq_false h2]
 have e1 : (childrenP fam1 (famD 1).frm).any (sameB (toName (famD 1))) = false := by kernel_rfl
 have e2 : decide (2 ≤ (parentsP fam1 (toName (famD 1))).length) = false := by kernel_rfl
 rw [e1, e2]
 rfl
theorem fam_2 : nextD famLaws fam2 2 0 (famD 2) = (fam3, 0) := by kernel_rfl
theorem fam_3 : nextD famLaws fam3 3 0 (famD 3) = (fam4, 0) := by kernel_rfl
theorem fam_4 : nextD famLaws fam4 4 100 (famD 4) = (fam5, 0) := by kernel_rfl
theorem fam_replay (upto : Int) (h : 200 ≤ upto) : replayD famLaws famDeeds upto = (fam5, 5, 0) := by
 have q0 : decide ((famD 0).day ≤ upto) = true := by show decide ((0 : Int) ≤ upto) = true; simp; omega
 have q1 : decide ((famD 1).day ≤ upto) = true := by show decide ((0 : Int) ≤ upto) = true; simp; omega
 have q2 : decide ((famD 2).day ≤ upto) = true := by show decide ((0 : Int) ≤ upto) = true; simp; omega
 have q3 : decide ((famD 3).day ≤ upto) = true := by show decide ((100 : Int) ≤ upto) = true; simp; omega
 have q4 : decide ((famD 4).day ≤ upto) = true := by show decide ((200 : Int) ≤ upto) = true; simp; omega
 have z : ¬ ((0 : Int) != 0) = true := by decide
 unfold replayD famDeeds
 rw [fam_laws, if_neg z]
 rw [replayGo, fam_0, if_neg z, q0, if_pos rfl]
 show replayGo famLaws upto _ fam1 fam1 1 0 = _
 rw [replayGo, fam_1, if_neg z, q1, if_pos rfl]
 show replayGo famLaws upto _ fam2 fam2 2 0 = _
 rw [replayGo, fam_2, if_neg z, q2, if_pos rfl]
 show replayGo famLaws upto _ fam3 fam3 3 0 = _
 rw [replayGo, fam_3, if_neg z, q3, if_pos rfl]
 show replayGo famLaws upto _ fam4 fam4 4 100 = _
 rw [replayGo, fam_4, if_neg z, q4, if_pos rfl]
 rfl
def recs5 : List Rec := [⟨1, nAnn, n0, n0, 5, 0, 0, 0⟩, ⟨0, nBob, n0, n0, 9, 0, 0, 0⟩, ⟨0, nAnn, n0, n0, 7, 0, 0, 0⟩, ⟨3, nAnn, n0, nA1, 4, 0, 1, 2⟩, ⟨3, nBob, n0, nA1, 4, 0, 2, 3⟩]
theorem recs5_ok : checkRecsP recs5 = 0 := by kernel_rfl
open Classical in
theorem contra_of {l : List Rec} (h1 : pairP l = false) (h2 : ∀ x ∈ l, x.kind ≠ 2) (h3 : ¬ TooMuch l) : contraP l = false := by
 unfold contraP
 have h4 : ¬ Circle l := fun hc => by
  obtain ⟨x, hx, hk, _⟩ := circle_records.1 hc
  exact h2 x hx hk
 rw [h1, decide_eq_false h4, decide_eq_false h3]
 rfl
theorem few_one (x : Rec) (h : Rat.divInt x.num x.den ≤ 1) : ¬ TooMuch [x] := fun ⟨p, d, hc⟩ => by
 rw [sumGo, sumGo] at hc
 split at hc
 · grind
 · rw [sumGo] at hc; grind
theorem one_ok {i : Nat} (hi : i < 5) : contraP (ofP recs5 [i]) = false := by
 have : i = 0 ∨ i = 1 ∨ i = 2 ∨ i = 3 ∨ i = 4 := by omega
 rcases this with rfl | rfl | rfl | rfl | rfl
 · exact contra_of (l := [⟨1, nAnn, n0, n0, 5, 0, 0, 0⟩]) rfl (by simp) (few_one _ (by decide))
 · exact contra_of (l := [⟨0, nBob, n0, n0, 9, 0, 0, 0⟩]) rfl (by simp) (few_one _ (by decide))
 · exact contra_of (l := [⟨0, nAnn, n0, n0, 7, 0, 0, 0⟩]) rfl (by simp) (few_one _ (by decide))
 · exact contra_of (l := [⟨3, nAnn, n0, nA1, 4, 0, 1, 2⟩]) rfl (by simp) (few_one _ (by decide))
 · exact contra_of (l := [⟨3, nBob, n0, nA1, 4, 0, 2, 3⟩]) rfl (by simp) (few_one _ (by decide))
theorem two_ok : contraP (ofP recs5 [0, 1]) = false := by
 refine contra_of (l := [⟨1, nAnn, n0, n0, 5, 0, 0, 0⟩, ⟨0, nBob, n0, n0, 9, 0, 0, 0⟩]) (by kernel_rfl) (by simp) ?_
 rintro ⟨p, d, hc⟩
 rw [sumGo, if_neg (by simp), sumGo, if_neg (by simp), sumGo] at hc
 exact absurd hc (by decide)
theorem two_bad : contraP (ofP recs5 [0, 2]) = true := by
 unfold contraP
 have h : pairP (ofP recs5 [0, 2]) = true := by kernel_rfl
 rw [h]
 rfl
theorem recs5_least : IsLeast recs5 [0, 2] := by
 refine ⟨⟨by simp, by simp [recs5]⟩, two_bad, fun t ht hc => ?_⟩
 match t, ht, hc with
 | [], _, hc =>
  rw [show contraP (ofP recs5 []) = false from contra_nil] at hc
  cases hc
 | [i], ht, hc =>
  rw [one_ok (ht.2 i (by simp))] at hc
  cases hc
 | [i, j], ht, hc =>
  refine .inr ⟨rfl, ?_⟩
  have h1 := (List.pairwise_cons.1 ht.1).1 j (by simp)
  rw [← Bool.not_eq_true]
  intro hl
  simp only [lexB, Bool.or_eq_true, decide_eq_true_eq, Bool.and_eq_true, beq_iff_eq] at hl
  have e : i = 0 ∧ j = 1 := by
   rcases hl with h | ⟨h, h | h⟩
   · omega
   · omega
   · exact absurd h.2 (by simp)
  rw [e.1, e.2, two_ok] at hc
  cases hc
 | i :: j :: k :: r, _, _ => exact .inl (by simp)
end Go.Proofs.YtkhkhnellekofaaGreatDoor
namespace Go.Proofs.YtkhkhnellekofaaGreatDoor
open Go.RowKit
attribute [local go_sem] World.cell?_alloc_mark ext_size ext_cell ext_frozen lt_add_r lt_add_r2 lt_add_r3 lt_add_r4 lt_add_r5 lt_add_r6 lt_add_r7 lt_add_r8
attribute [local go_sem] ext_setCell alloc_setCell_lt

set_option maxRecDepth 100000 in
set_option maxHeartbeats 2000000 in
theorem rAbs_any (n : Int) (w : World) (h : n.natAbs ≤ 4611686018427387904) : Calls Tryz.prog 105 #[.int .i64 n] w (Ret0 w (.int .i64 (n.natAbs : Int))) := by
 have h0 : -4611686018427387904 ≤ n := by omega
 have h1 : n ≤ 4611686018427387904 := by omega
 have hw : IntKind.i64.wrap (-n) = -n := by rw [IntKind.wrap_i64]; omega
 clear h
 go_enter Tryz.func105, Tryz.ntmps105
 by_cases h : n < 0
 · go_wp2_with fail
   go_ret
   exact ⟨by rw [show ((n.natAbs : Nat) : Int) = -n by omega]; first | rfl | (show Ending.returned (Value.int .i64 (max n (-n))) = _; rw [show max n (-n) = -n by omega]), rfl⟩
 · by_cases h2 : n = 0
   · subst h2
     go_wp2_with fail
     go_ret
     exact ⟨rfl, rfl⟩
   · go_wp2_with fail
     go_ret
     exact ⟨by rw [show ((n.natAbs : Nat) : Int) = n by omega]; first | rfl | (show Ending.returned (Value.int .i64 (max n (-n))) = _; rw [show max n (-n) = n by omega]), rfl⟩
set_option maxRecDepth 100000 in
set_option maxHeartbeats 2000000 in
theorem rGcd_any (a b : Int) (w : World) (ha : a.natAbs ≤ 4611686018427387904) (hb : b.natAbs ≤ 4611686018427387904) : Calls Tryz.prog 85 #[.int .i64 a, .int .i64 b] w (Ret w (.int .i64 (Int.gcd a b))) := by
 go_enter Tryz.func85, Tryz.ntmps85
 go_wp2_with fail
 go_loopw [0, 1] (fun x y wr => ∃ p q : Int, x = .int .i64 p ∧ y = .int .i64 q ∧ p.natAbs ≤ 4611686018427387904 ∧ q.natAbs ≤ 4611686018427387904 ∧ Hid (Int.gcd a b = Int.gcd p q) ∧ ∃ z, wr = w.ext z) (fun _ y _ => (intOf y).natAbs)
 case atStart => exact ⟨a, b, rfl, rfl, ha, hb, rfl, ext_below (Below.refl _ _)⟩
 case round =>
  obtain ⟨p, q, rfl, rfl, hp, hq, HG, z, rfl⟩ := hrel
  by_cases hz : q = 0
  · subst hz
    have HP := Lib.hid hp
    clear hp hq
    go_wp2_with (go_at_call 105; go_must (refine (rAbs_any _ _ HP.out).mono ?_); rintro e wq ⟨rfl, rfl⟩)
    go_ret
    exact Ret.of (int_eq (by rw [HG.out]; simp [Int.gcd])) Bw
  · have hq2 : (q == 0) = false := by simp [hz]
    have hm := tmod_lt p q hz
    have hG := Lib.hid (gcd_tmod p q)
    have hwr : IntKind.i64.wrap (p.tmod q) = p.tmod q := IntWalk.i64_in _ (by omega)
    go_wp2_with fail
    go_quiet (fail)
    go_wp2_with fail
    all_goals (first
     | (go_round
        case rel => exact ⟨q, p.tmod q, rfl, rfl, hq, by omega, by show _ = _; rw [HG.out, hG.out], ext_below Bw⟩
        case measure => simp only [intOf]; omega))
set_option maxRecDepth 100000 in
set_option maxHeartbeats 2000000 in
theorem rZero_any (w : World) : Calls Tryz.prog 54 #[] w (Ret w (.agg #[.int .i64 0, .int .i64 1])) := by
 go_enter Tryz.func54, Tryz.ntmps54
 go_wp2_with fail
 refine bodyPost_ret (v := .agg #[.int .i64 0, .int .i64 1]) ?_ rfl ?_
 · refine results_frac rfl _ _ w.heap.size _ _ rfl ?_ ?_
   · simp [go_sem]
   · simp [go_sem]
 · exact Ret.of rfl Bw
end Go.Proofs.YtkhkhnellekofaaGreatDoor
namespace Go.Proofs.YtkhkhnellekofaaGreatDoor
open Go.RowKit
attribute [local go_sem] World.cell?_alloc_mark ext_size ext_cell ext_frozen lt_add_r lt_add_r2 lt_add_r3 lt_add_r4 lt_add_r5 lt_add_r6 lt_add_r7 lt_add_r8

theorem bwithin_any (n lo hi : Int) (w : World) :
    Calls Tryz.prog 33 #[.int .i64 n, .int .i64 lo, .int .i64 hi] w (Ret0 w (.bool (inR n lo hi))) := by
 go_enter Tryz.func33, Tryz.ntmps33
 go_wp2
 all_goals go_ret
 all_goals (refine ⟨?_, rfl⟩; simp [inR, *])
 omega
end Go.Proofs.YtkhkhnellekofaaGreatDoor
namespace Go.Proofs.YtkhkhnellekofaaGreatDoor
open Go.RowKit
attribute [local go_sem] World.cell?_alloc_mark ext_size ext_cell ext_frozen lt_add_r lt_add_r2 lt_add_r3 lt_add_r4 lt_add_r5 lt_add_r6 lt_add_r7 lt_add_r8

end Go.Proofs.YtkhkhnellekofaaGreatDoor
namespace Go.Proofs.YtkhkhnellekofaaGreatDoor
open Go.RowKit
attribute [local go_sem] World.cell?_alloc_mark ext_size ext_cell ext_frozen lt_add_r lt_add_r2 lt_add_r3 lt_add_r4 lt_add_r5 lt_add_r6 lt_add_r7 lt_add_r8

end Go.Proofs.YtkhkhnellekofaaGreatDoor
namespace Go.Proofs.YtkhkhnellekofaaGreatDoor
open Go.RowKit

end Go.Proofs.YtkhkhnellekofaaGreatDoor
namespace Go.Proofs.YtkhkhnellekofaaGreatDoor
open Go.RowKit

end Go.Proofs.YtkhkhnellekofaaGreatDoor
namespace Go.Proofs.YtkhkhnellekofaaGreatDoor
open Go.RowKit Go.Shelf
attribute [local go_sem] World.cell?_alloc_mark ext_size ext_cell ext_frozen lt_add_r lt_add_r2 lt_add_r3 lt_add_r4 lt_add_r5 lt_add_r6 lt_add_r7 lt_add_r8
attribute [local go_sem] ext_setCell alloc_setCell_lt

set_option maxRecDepth 100000 in
set_option maxHeartbeats 2000000 in
theorem r5IsDay_any (n : Int) (w : World) : Calls Tryz.prog 23 #[.int .i64 n] w (Ret0 w (.bool (isDayP n))) := by
 go_enter Tryz.func23, Tryz.ntmps23
 go_wp2_with (go_at_call 33; go_must (refine (bwithin_any _ _ _ _).mono ?_); rintro e wq ⟨rfl, rfl⟩)
 go_ret
 exact ⟨rfl, rfl⟩
set_option maxRecDepth 100000 in
set_option maxHeartbeats 2000000 in
theorem rIsShare_any (a b : Int) (w : World) : Calls Tryz.prog 52 #[.agg #[.int .i64 a, .int .i64 b]] w (Ret w (.bool (isShareP 16 a b))) := by
 go_enter Tryz.func52, Tryz.ntmps52
 by_cases h1 : inR b 1 16 = true
 · by_cases h2 : inR a 0 b = true
   · have x1 : 1 ≤ b ∧ b ≤ 16 := by simpa [inR] using h1
     have x2 : 0 ≤ a ∧ a ≤ b := by simpa [inR] using h2
     have g1 : a.natAbs ≤ 4611686018427387904 := by omega
     have g2 : b.natAbs ≤ 4611686018427387904 := by omega
     have G1 := Lib.hid g1
     have G2 := Lib.hid g2
     have hv : isShareP 16 a b = ((Int.gcd a b : Int) == 1) := by
      unfold isShareP
      simp only [x1.1, x1.2, x2.1, x2.2, decide_true, Bool.true_and]
      rw [Bool.eq_iff_iff, beq_iff_eq, beq_iff_eq]
      omega
     have HV := Lib.hid hv
     clear g1 g2 hv x1 x2
     go_wp2_with (first
      | (go_at_call 33; refine (bwithin_any _ _ _ _).mono ?_; rintro e wq ⟨rfl, rfl⟩)
      | (go_at_call 85; refine (rGcd_any _ _ _ G1.out G2.out).mono ?_; rintro e w1 ⟨rfl, z1, rfl⟩))
     all_goals go_ret
     all_goals exact Ret.of (bool_eq (by rw [HV.out])) Bw
   · have hv : isShareP 16 a b = false := by
       unfold isShareP
       simp [inR] at h1 h2 ⊢
       omega
     go_wp2_with (go_at_call 33; refine (bwithin_any _ _ _ _).mono ?_; rintro e wq ⟨rfl, rfl⟩)
     all_goals go_ret
     all_goals exact Ret.of (bool_eq (by rw [hv])) Bw
 · have hv : isShareP 16 a b = false := by
     unfold isShareP
     simp [inR] at h1 ⊢
     omega
   go_wp2_with (go_at_call 33; refine (bwithin_any _ _ _ _).mono ?_; rintro e wq ⟨rfl, rfl⟩)
   all_goals go_ret
   all_goals exact Ret.of (bool_eq (by rw [hv])) Bw
end Go.Proofs.YtkhkhnellekofaaGreatDoor
