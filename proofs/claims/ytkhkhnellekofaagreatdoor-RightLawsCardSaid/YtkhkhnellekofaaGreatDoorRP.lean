/- Walks of the reference's CheckLaws, LawOn; the program's LawOn. -/
import Derived.Test.YtkhkhnellekofaaGreatDoorOD
import Derived.Test.YtkhkhnellekofaaGreatDoorJ4
set_option linter.unusedSimpArgs false
set_option linter.unusedVariables false
namespace Go.Proofs.YtkhkhnellekofaaGreatDoor
open Go.RowKit Go.Shelf
attribute [local go_sem] World.cell?_alloc_mark ext_size ext_cell ext_frozen lt_add_r lt_add_r2 lt_add_r3 lt_add_r4 lt_add_r5 lt_add_r6 lt_add_r7 lt_add_r8
attribute [local go_sem] ext_setCell alloc_setCell_lt

noncomputable def leastR (l : List Rec) : List Nat × Int :=
 if checkRecsP l != 0 then ([], checkRecsP l) else if decide (12 < l.length) then ([], 8) else match bestsGo l (2 ^ l.length) with
  | none => ([], 12)
  | some s => (s, 0)
def IntsPost (w : World) (r : List Nat × Int) (e : Ending) (w' : World) : Prop :=
 ∃ A c, e = .returned (.tuple #[.slice A r.1.length c, .int .i64 r.2]) ∧ r.1.length ≤ c ∧ Sl w' 1 intC A r.1 ∧ Below w.heap.size w w'
theorem first_ok {α : Type} {f : α → Int} : ∀ {l : List α}, firstErr f l = 0 → ∀ x ∈ l, f x = 0
 | [], _, _, h => by cases h
 | y :: l, h, x, hx => by
  unfold firstErr at h
  split at h
  · rename_i h0
    rw [h] at h0
    exact absurd h0 (by decide)
  · rename_i h0
    rcases List.mem_cons.1 hx with rfl | hx
    · simpa using h0
    · exact first_ok h x hx
theorem recs_ok {l : List Rec} (h : checkRecsP l = 0) : l.length ≤ 40 ∧ ∀ x ∈ l, checkRecP x = 0 := by
 unfold checkRecsP at h
 split at h
 · simp at h
 · rename_i hc
   exact ⟨by simpa using hc, first_ok h⟩
theorem of_ok {l : List Rec} {set : List Nat} (h : ∀ x ∈ l, checkRecP x = 0) : ∀ x ∈ ofP l set, checkRecP x = 0 := fun x hx => h x (of_mem x hx)
theorem best_ne {l : List Rec} : ∀ {k : Nat} {s : List Nat}, bestsGo l k = some s → s ≠ []
 | 0, s, h => by rw [bestsGo] at h; cases h
 | k + 1, s, h => by
  rw [bestsGo] at h
  have hx : ∀ x, contraP (ofP l x) = true → x ≠ [] := fun x hc e => by
   rw [e] at hc
   have : contraP (ofP l []) = false := contra_nil
   rw [this] at hc
   cases hc
  cases hb : bestsGo l k with
  | none =>
   rw [hb] at h
   unfold bestStep at h
   dsimp only at h
   split at h
   · rename_i hc
     simp only [Option.some.injEq] at h
     rw [← h]; exact hx _ hc
   · cases h
  | some b =>
   rw [hb] at h
   unfold bestStep at h
   dsimp only at h
   have hbn := best_ne hb
   split at h
   · simp only [Option.some.injEq] at h
     rw [← h]; exact hbn
   · split at h
     · rename_i hc
       simp only [Option.some.injEq] at h
       rw [← h]; exact hx _ hc
     · simp only [Option.some.injEq] at h
       rw [← h]; exact hbn
theorem bits_len (n k : Nat) : (bitsP n k).length ≤ n := by
 unfold bitsP
 exact Nat.le_trans (List.length_filter_le _ _) (by simp)
theorem best_keep {W W' : World} {base n : Nat} {v : Value} {o : Option (List Nat)} (h : BestAt W base v o) (hB : Below n W W') (hn : W.heap.size ≤ n := by first | exact Nat.le_refl _ | omega) : BestAt W' base v o := by
 cases o with
 | none => exact h
 | some s => exact ⟨h.1, h.2.keep hB hn⟩
theorem shl_any (n : Nat) (h : n ≤ 12) : wrap64 ((2 : Int) ^ n) = ((2 ^ n : Nat) : Int) := by
 have h2 : 2 ^ n ≤ 4096 := Nat.pow_le_pow_right (n := 2) (by decide) h
 have e : ((2 : Int) ^ n) = ((2 ^ n : Nat) : Int) := by rw [Int.natCast_pow]; rfl
 rw [e]
 generalize 2 ^ n = m at *
 unfold wrap64
 omega
theorem neq_nil (W : World) : (binOp .neq 25 (.slice none 0 0) (.slice none 0 0)).run Tryz.prog W = .ok (.bool false) W := by kernel_rfl
theorem neq_some (a : Addr) (n c : Nat) (W : World) : (binOp .neq 25 (.slice (some a) n c) (.slice none 0 0)).run Tryz.prog W = .ok (.bool true) W := by kernel_rfl
theorem eql_nil (W : World) : (binOp .eql 25 (.slice none 0 0) (.slice none 0 0)).run Tryz.prog W = .ok (.bool true) W := by kernel_rfl
theorem eql_some (a : Addr) (n c : Nat) (W : World) : (binOp .eql 25 (.slice (some a) n c) (.slice none 0 0)).run Tryz.prog W = .ok (.bool false) W := by kernel_rfl
set_option maxRecDepth 100000 in
set_option maxHeartbeats 2000000 in
theorem least_any (l : List Rec) (A : Option Addr) (c : Nat) (w : World) (hc : l.length ≤ c) (hz : recLens l) (hT : TzTab w) (hS : Sl w 8 Rec.cells A l) :
    Calls Tryz.prog 10 #[.slice A l.length c] w (IntsPost w (leastR l)) := by
 have HS := Lib.hid hS
 have HCK := Lib.hid (fun W (hB : Below w.heap.size w W) => checkRecords_any l A l.length c W rfl hc hz (hS.keep hB))
 obtain ⟨R, hR⟩ : ∃ R, R = leastR l := ⟨_, rfl⟩
 rw [← hR]
 unfold leastR at hR
 have HT := Lib.hid hT
 clear hS hT hz
 by_cases h0 : checkRecsP l = 0
 · have hok := recs_ok h0
   rw [if_neg (by simp [h0])] at hR
   rw [h0] at HCK
   by_cases h12 : 12 < l.length
   · rw [if_pos (by simpa using h12)] at hR
     subst hR
     have h12i : (12 : Int) < (l.length : Int) := by omega
     clear hok h0
     go_enter Tryz.func10, Tryz.ntmps10
     go_wp2_with (go_at_call 18; go_must (refine (HCK.out _ Bw).mono ?_); rintro e wq ⟨rfl, z, rfl⟩)
     go_ret2
     exact ⟨none, 0, rfl, Nat.le_refl _, Sl.nil, Bw⟩
   · rw [if_neg (by simpa using h12)] at hR
     have h12i : ¬ (12 : Int) < (l.length : Int) := by omega
     have HOK := Lib.hid hok.2
     have HR := Lib.hid hR
     have h40 := hok.1
     clear hok h0 hR
     go_enter Tryz.func10, Tryz.ntmps10
     go_upto_region 7 with (go_at_call 18; go_must (refine (HCK.out _ Bw).mono ?_); rintro e wq ⟨rfl, z, rfl⟩)
     have hsh := shl_any l.length (by omega)
     have hp1 : 1 ≤ 2 ^ l.length := Nat.one_le_two_pow
     have hp2 : 2 ^ l.length ≤ 4096 := Nat.pow_le_pow_right (n := 2) (by decide) (show l.length ≤ 12 by omega)
     obtain ⟨N, hN⟩ : ∃ N, N = 2 ^ l.length := ⟨_, rfl⟩
     rw [← hN] at hsh hp1 hp2
     have HN := Lib.hid hN
     clear hN
     go_upto_region 8 with fail
     rw [hsh]
     clear hsh
     go_loopw [5, 19] (fun v i wr => ∃ k : Nat, k ≤ N ∧ i = .int .i64 k ∧ BestAt wr w.heap.size v (bestsGo l k) ∧ Below w.heap.size w wr) (fun _ i _ => N - (intOf i).toNat)
     case atStart => exact ⟨0, Nat.zero_le _, rfl, rfl, Bw⟩
     case round =>
      obtain ⟨k, hk, rfl, hbest, hB⟩ := hrel
      have HB := Lib.hid hB
      have hbs := hB.size
      by_cases hlt : k < N
      · have HEL := Lib.hid (elements_any l.length k wr (by omega) (by rw [← HN.out]; exact hlt) (HT.out.keep hB))
        have hxl := bits_len l.length k
        have HIN := Lib.hid (bits_set l.length k).2
        have HLT := Lib.hid hlt
        have hki : (k : Int) < (N : Int) := by omega
        obtain ⟨ob, hob⟩ : ∃ ob, bestsGo l k = ob := ⟨_, rfl⟩
        rw [hob] at hbest
        have hbn : ∀ s, ob = some s → s ≠ [] := fun s e => best_ne (hob.trans e)
        have HBN := Lib.hid hbn
        have HBK := Lib.hid hob
        have HBE := Lib.hid hbest
        obtain ⟨xs, hxs⟩ : ∃ xs, bitsP l.length k = xs := ⟨_, rfl⟩
        rw [hxs] at HEL HIN hxl
        have HXE := Lib.hid hxs
        have HOX := Lib.hid (of_ok (set := xs) HOK.out)
        clear hob hB hlt hbest hbn hxs
        go_upto_region 11 with (go_at_call 36; go_must (refine HEL.out.mono ?_); rintro e wq ⟨vx, rfl, hxo, hxb⟩)
        obtain ⟨XA, xc, rfl, hXS, hxc⟩ := hxo.sl intC_len
        have HXO := Lib.hid (hxo.base_le hbs)
        have HBX := Lib.hid (HB.out.trans (hxb.mono hbs))
        have HBE2 := Lib.hid (best_keep HBE.out hxb)
        have HSOME := Lib.hid (fun W (hW : Below wq.heap.size wq W) => some_any l xs A c XA xc W hc hxc (by omega) HIN.out (HS.out.keep (HBX.out.trans (hW.mono HBX.out.size))) (hXS.keep hW))
        have HXS := Lib.hid hXS
        have HXN : Hid (contraP (ofP l xs) = true → xs ≠ []) := fun hc e => by
         rw [e] at hc
         rw [show contraP (ofP l []) = false from contra_nil] at hc
         cases hc
        clear hxo hXS hxb HEL
        generalize hnx : xs.length = nx at *
        have HNX := Lib.hid hnx
        clear hnx
        cases ob with
        | none =>
         have hv : u5 = .slice none 0 0 := HBE2.out
         subst hv
         have hnn := neq_nil
         cases hcx : contraP (ofP l xs)
         · have HCX := Lib.hid hcx
           clear hcx
           go_wp2_with (first
            | (go_at_call 37; go_must (refine (HCMP.out _ Bw).mono ?_); rintro e wq5 ⟨rfl, rfl⟩)
            | (go_at_call 39; go_must (refine (HSOME.out _ Bw).mono ?_); rintro e w7 ⟨v7, rfl, ho7, hb7⟩; obtain ⟨A7, c7, rfl, hs7, hc7⟩ := ho7.sl recC_len; have HB7 := Lib.hid hb7; have HS7 := Lib.hid hs7; clear ho7 hb7 hs7)
            | (go_at_call 38; go_must (refine (contradicts_any (ofP l xs) A7 c7 _ hc7 (by have := of_len l xs; have := HNX.out; omega) HOX.out HS7.out).mono ?_); rw [HCX.out]; rintro e wq8 ⟨rfl, z8, rfl⟩))
           go_round
           case rel =>
            refine ⟨k + 1, HLT.out, by go_num, ?_, HBX.out.trans ((HB7.out.trans ((below_ext w7 z8).mono HB7.out.size)).mono (HBX.out.size))⟩
            rw [bestsGo, HXE.out, HBK.out]
            have hst : bestStep l (none) xs = none := by
             unfold bestStep
             dsimp only
             simp [HCX.out]
            rw [hst]
            exact rfl
           case measure => have := HLT.out; simp only [intOf]; omega
         · have HXN2 := Lib.hid (HXN.out hcx)
           have HCX := Lib.hid hcx
           clear hcx
           go_wp2_with (first
            | (go_at_call 37; go_must (refine (HCMP.out _ Bw).mono ?_); rintro e wq5 ⟨rfl, rfl⟩)
            | (go_at_call 39; go_must (refine (HSOME.out _ Bw).mono ?_); rintro e w7 ⟨v7, rfl, ho7, hb7⟩; obtain ⟨A7, c7, rfl, hs7, hc7⟩ := ho7.sl recC_len; have HB7 := Lib.hid hb7; have HS7 := Lib.hid hs7; clear ho7 hb7 hs7)
            | (go_at_call 38; go_must (refine (contradicts_any (ofP l xs) A7 c7 _ hc7 (by have := of_len l xs; have := HNX.out; omega) HOX.out HS7.out).mono ?_); rw [HCX.out]; rintro e wq8 ⟨rfl, z8, rfl⟩))
           go_round
           case rel =>
            refine ⟨k + 1, HLT.out, by go_num, ?_, HBX.out.trans ((HB7.out.trans ((below_ext w7 z8).mono HB7.out.size)).mono (HBX.out.size))⟩
            rw [bestsGo, HXE.out, HBK.out]
            have hst : bestStep l (none) xs = some xs := by
             unfold bestStep
             dsimp only
             simp [HCX.out]
            rw [hst]
            exact best_keep (best_keep (o := some xs) ⟨HXN2.out, HXO.out⟩ HB7.out) (below_ext w7 z8)
           case measure => have := HLT.out; simp only [intOf]; omega
        | some bs =>
         have hv : ∃ sa sc, u5 = .slice (some sa) bs.length sc ∧ bs.length ≤ sc ∧ Sl wq 1 intC (some sa) bs := by
          obtain ⟨h1, h2⟩ := HBE2.out
          obtain ⟨SA, sc, e, h3, h4⟩ := h2.sl intC_len
          cases SA with
          | none =>
           exfalso
           obtain ⟨b, off, h, _⟩ := h3 (List.length_pos_iff.2 h1)
           cases h
          | some sa => exact ⟨sa, sc, e, h4, h3⟩
         obtain ⟨sa, sc, rfl, hsc, hSS⟩ := hv
         have HCMP := Lib.hid (fun W (hW : Below wq.heap.size wq W) => compare_any xs bs XA (some sa) xc sc W (by rw [HNX.out]; exact hxc) hsc (by have := HNX.out; omega) (HXS.out.keep hW) (hSS.keep hW))
         rw [HNX.out] at HCMP
         have hnn := neq_some sa bs.length sc
         obtain ⟨C, hC⟩ : ∃ C, lexC xs bs = C := ⟨_, rfl⟩
         rw [hC] at HCMP
         have hlb : xs.length = bs.length → decide (0 < C) = lexB bs xs := fun h => by rw [← hC]; exact lexC_lex h
         generalize hnb : bs.length = nb at *
         have HNB := Lib.hid hnb
         have HLB := Lib.hid hlb
         clear hSS hC hnb hlb
         rcases Nat.lt_trichotomy nb nx with hgt | hgt | hgt
         · have hg1 : (nb : Int) < (nx : Int) := by omega
           have HG := Lib.hid hgt
           clear hgt
           go_wp2_with fail
           go_round
           case rel =>
            refine ⟨k + 1, HLT.out, by go_num, ?_, HBX.out⟩
            rw [bestsGo, HXE.out, HBK.out]
            have hst : bestStep l (some bs) xs = some bs := by
             unfold bestStep
             dsimp only
             rw [HNX.out, HNB.out]
             simp [HG.out]
            rw [hst]
            exact HBE2.out
           case measure => have := HLT.out; simp only [intOf]; omega
         · subst hgt
           have hg1 : ¬ (nb : Int) < (nb : Int) := by omega
           by_cases hC0 : 0 < C
           · go_wp2_with (go_at_call 37; go_must (refine (HCMP.out _ Bw).mono ?_); rintro e wq5 ⟨rfl, rfl⟩)
             go_round
             case rel =>
              refine ⟨k + 1, HLT.out, by go_num, ?_, HBX.out⟩
              rw [bestsGo, HXE.out, HBK.out]
              have hst : bestStep l (some bs) xs = some bs := by
               have h1 := HLB.out (by rw [HNX.out])
               unfold bestStep
               dsimp only
               rw [HNX.out, HNB.out, ← h1]
               simp [hC0]
              rw [hst]
              exact HBE2.out
             case measure => have := HLT.out; simp only [intOf]; omega
           · have hC1 : decide (0 < C) = false := by simpa using hC0
             have HC1 := Lib.hid hC1
             have HSTE : Hid (bestStep l (some bs) xs = if contraP (ofP l xs) then some xs else some bs) := by
              have h1 := HLB.out (by rw [HNX.out])
              show _ = _
              unfold bestStep
              dsimp only
              rw [HNX.out, HNB.out, ← h1, HC1.out]
              simp
             clear hC1
             cases hcx : contraP (ofP l xs)
             · have HCX := Lib.hid hcx
               have HST2 : Hid (bestStep l (some bs) xs = some bs) := by show _ = _; rw [HSTE.out, hcx]; rfl
               clear hcx
               go_wp2_with (first
                | (go_at_call 37; go_must (refine (HCMP.out _ Bw).mono ?_); rintro e wq5 ⟨rfl, rfl⟩)
                | (go_at_call 39; go_must (refine (HSOME.out _ Bw).mono ?_); rintro e w7 ⟨v7, rfl, ho7, hb7⟩; obtain ⟨A7, c7, rfl, hs7, hc7⟩ := ho7.sl recC_len; have HB7 := Lib.hid hb7; have HS7 := Lib.hid hs7; clear ho7 hb7 hs7)
                | (go_at_call 38; go_must (refine (contradicts_any (ofP l xs) A7 c7 _ hc7 (by have := of_len l xs; have := HNX.out; omega) HOX.out HS7.out).mono ?_); rw [HCX.out]; rintro e wq8 ⟨rfl, z8, rfl⟩))
               go_round
               case rel =>
                refine ⟨k + 1, HLT.out, by go_num, ?_, HBX.out.trans ((HB7.out.trans ((below_ext w7 z8).mono HB7.out.size)).mono (HBX.out.size))⟩
                rw [bestsGo, HXE.out, HBK.out, HST2.out]
                exact best_keep (best_keep HBE2.out HB7.out) (below_ext w7 z8)
               case measure => have := HLT.out; simp only [intOf]; omega
             · have HXN2 := Lib.hid (HXN.out hcx)
               have HCX := Lib.hid hcx
               have HST2 : Hid (bestStep l (some bs) xs = some xs) := by show _ = _; rw [HSTE.out, hcx]; rfl
               clear hcx
               go_wp2_with (first
                | (go_at_call 37; go_must (refine (HCMP.out _ Bw).mono ?_); rintro e wq5 ⟨rfl, rfl⟩)
                | (go_at_call 39; go_must (refine (HSOME.out _ Bw).mono ?_); rintro e w7 ⟨v7, rfl, ho7, hb7⟩; obtain ⟨A7, c7, rfl, hs7, hc7⟩ := ho7.sl recC_len; have HB7 := Lib.hid hb7; have HS7 := Lib.hid hs7; clear ho7 hb7 hs7)
                | (go_at_call 38; go_must (refine (contradicts_any (ofP l xs) A7 c7 _ hc7 (by have := of_len l xs; have := HNX.out; omega) HOX.out HS7.out).mono ?_); rw [HCX.out]; rintro e wq8 ⟨rfl, z8, rfl⟩))
               go_round
               case rel =>
                refine ⟨k + 1, HLT.out, by go_num, ?_, HBX.out.trans ((HB7.out.trans ((below_ext w7 z8).mono HB7.out.size)).mono (HBX.out.size))⟩
                rw [bestsGo, HXE.out, HBK.out, HST2.out]
                exact best_keep (best_keep (o := some xs) ⟨HXN2.out, HXO.out⟩ HB7.out) (below_ext w7 z8)
               case measure => have := HLT.out; simp only [intOf]; omega
         · have hg1 : ¬ (nb : Int) < (nx : Int) := by omega
           have hg2 : ¬ nx = nb := by omega
           have HSTE : Hid (bestStep l (some bs) xs = if contraP (ofP l xs) then some xs else some bs) := by
            show _ = _
            unfold bestStep
            dsimp only
            rw [HNX.out, HNB.out]
            have e1 : decide (nb < nx) = false := by simp; omega
            have e2 : (nx == nb) = false := by simp; omega
            rw [e1, e2]
            simp
           clear hgt
           cases hcx : contraP (ofP l xs)
           · have HCX := Lib.hid hcx
             have HST2 : Hid (bestStep l (some bs) xs = some bs) := by show _ = _; rw [HSTE.out, hcx]; rfl
             clear hcx
             go_wp2_with (first
              | (go_at_call 37; go_must (refine (HCMP.out _ Bw).mono ?_); rintro e wq5 ⟨rfl, rfl⟩)
              | (go_at_call 39; go_must (refine (HSOME.out _ Bw).mono ?_); rintro e w7 ⟨v7, rfl, ho7, hb7⟩; obtain ⟨A7, c7, rfl, hs7, hc7⟩ := ho7.sl recC_len; have HB7 := Lib.hid hb7; have HS7 := Lib.hid hs7; clear ho7 hb7 hs7)
              | (go_at_call 38; go_must (refine (contradicts_any (ofP l xs) A7 c7 _ hc7 (by have := of_len l xs; have := HNX.out; omega) HOX.out HS7.out).mono ?_); rw [HCX.out]; rintro e wq8 ⟨rfl, z8, rfl⟩))
             go_round
             case rel =>
              refine ⟨k + 1, HLT.out, by go_num, ?_, HBX.out.trans ((HB7.out.trans ((below_ext w7 z8).mono HB7.out.size)).mono (HBX.out.size))⟩
              rw [bestsGo, HXE.out, HBK.out, HST2.out]
              exact best_keep (best_keep HBE2.out HB7.out) (below_ext w7 z8)
             case measure => have := HLT.out; simp only [intOf]; omega
           · have HXN2 := Lib.hid (HXN.out hcx)
             have HCX := Lib.hid hcx
             have HST2 : Hid (bestStep l (some bs) xs = some xs) := by show _ = _; rw [HSTE.out, hcx]; rfl
             clear hcx
             go_wp2_with (first
              | (go_at_call 37; go_must (refine (HCMP.out _ Bw).mono ?_); rintro e wq5 ⟨rfl, rfl⟩)
              | (go_at_call 39; go_must (refine (HSOME.out _ Bw).mono ?_); rintro e w7 ⟨v7, rfl, ho7, hb7⟩; obtain ⟨A7, c7, rfl, hs7, hc7⟩ := ho7.sl recC_len; have HB7 := Lib.hid hb7; have HS7 := Lib.hid hs7; clear ho7 hb7 hs7)
              | (go_at_call 38; go_must (refine (contradicts_any (ofP l xs) A7 c7 _ hc7 (by have := of_len l xs; have := HNX.out; omega) HOX.out HS7.out).mono ?_); rw [HCX.out]; rintro e wq8 ⟨rfl, z8, rfl⟩))
             go_round
             case rel =>
              refine ⟨k + 1, HLT.out, by go_num, ?_, HBX.out.trans ((HB7.out.trans ((below_ext w7 z8).mono HB7.out.size)).mono (HBX.out.size))⟩
              rw [bestsGo, HXE.out, HBK.out, HST2.out]
              exact best_keep (best_keep (o := some xs) ⟨HXN2.out, HXO.out⟩ HB7.out) (below_ext w7 z8)
             case measure => have := HLT.out; simp only [intOf]; omega
      · have hkN : k = 2 ^ l.length := by have := HN.out; omega
        have hki : ¬ (k : Int) < (N : Int) := by omega
        have HKN := Lib.hid hkN
        clear hkN hB
        cases hob : bestsGo l k with
        | none =>
         rw [hob] at hbest
         have hv : u5 = .slice none 0 0 := hbest
         subst hv
         have hRR : R = ([], 12) := by rw [HR.out, ← HKN.out, hob]
         have HRR := Lib.hid hRR
         have hnn := eql_nil
         clear hob hbest hRR
         go_wp2_with fail
         go_ret2
         rw [HRR.out]
         exact ⟨none, 0, rfl, Nat.le_refl _, Sl.nil, HB.out⟩
        | some bs =>
         have hne := best_ne hob
         rw [hob] at hbest
         obtain ⟨h1, h2⟩ := hbest
         obtain ⟨SA, sc, rfl, h3, h4⟩ := h2.sl intC_len
         have hRR : R = (bs, 0) := by rw [HR.out, ← HKN.out, hob]
         have HRR := Lib.hid hRR
         have H3 := Lib.hid h3
         cases SA with
         | none =>
          exfalso
          obtain ⟨b, off, h, _⟩ := h3 (List.length_pos_iff.2 h1)
          cases h
         | some sa =>
          have hnn := eql_some sa bs.length sc
          clear hob h1 h2 h3 hRR hne
          go_wp2_with fail
          go_ret2
          rw [HRR.out]
          exact ⟨some sa, sc, rfl, h4, H3.out, HB.out⟩
 · have HR : Hid (R = ([], checkRecsP l)) := by show _ = _; rw [hR, if_pos (by simpa using h0)]
   generalize checkRecsP l = E at *
   clear hR
   go_enter Tryz.func10, Tryz.ntmps10
   go_wp2_with (go_at_call 18; go_must (refine (HCK.out _ Bw).mono ?_); rintro e wq ⟨rfl, z, rfl⟩)
   go_ret2
   rw [HR.out]
   exact ⟨none, 0, rfl, Nat.le_refl _, Sl.nil, Bw⟩
end Go.Proofs.YtkhkhnellekofaaGreatDoor
namespace Go.Proofs.YtkhkhnellekofaaGreatDoor
open Go.RowKit Go.Shelf
attribute [local go_sem] World.cell?_alloc_mark ext_size ext_cell ext_frozen lt_add_r lt_add_r2 lt_add_r3 lt_add_r4 lt_add_r5 lt_add_r6 lt_add_r7 lt_add_r8
attribute [local go_sem] ext_setCell alloc_setCell_lt

set_option maxRecDepth 100000 in
set_option maxHeartbeats 2000000 in
theorem rCheckLaws_any (ls : List Law) (A : Option Addr) (n c : Nat) (w : World) (hn : n = ls.length) (hS : Sl w 4 Law.cells A ls) : Calls Tryz.prog 21 #[.slice A n c] w (Ret w (.int .i64 (checkLawsP ls))) := by
 subst hn
 go_enter Tryz.func21, Tryz.ntmps21
 by_cases h10 : 10 < ls.length
 · have hx : decide ((10 : Int) < (ls.length : Int)) = true := by simp; omega
   go_wp2_with fail
   go_ret
   exact Ret.of (int_eq (by rw [checkLawsP, if_pos (by simp; omega)])) Bw
 have hx : decide ((10 : Int) < (ls.length : Int)) = false := by simp; omega
 go_wp2_with fail
 have hT : checkLawsP ls = lawsGo (ls.drop 0) (befP ls 0) := by rw [checkLawsP, if_neg (by simp; omega)]; rfl
 go_loopw [3] (fun i wr => ∃ k : Nat, k ≤ ls.length ∧ i = .int .i64 k ∧ checkLawsP ls = lawsGo (ls.drop k) (befP ls k) ∧ ∃ z, wr = w.ext z) (fun i _ => ls.length - (intOf i).toNat)
 case atStart => exact ⟨0, Nat.zero_le _, rfl, hT, ext_below (Below.refl _ _)⟩
 case round =>
  obtain ⟨k, hk, rfl, hf, z, rfl⟩ := hrel
  clear hT hx
  by_cases hlt : k < ls.length
  · rw [List.drop_eq_getElem_cons hlt, lawsGo] at hf
    obtain ⟨b, off, rfl, hb, hc⟩ := hS.at hlt
    have h0 : w.cell? ⟨b, off + k * 4, none⟩ = some (.int .i64 ls[k].frm) := hc 0 _ rfl
    have h1 : w.cell? ⟨b, off + k * 4 + 1, none⟩ = some (.bool ls[k].stems) := hc 1 _ rfl
    have h2 : w.cell? ⟨b, off + k * 4 + 2, none⟩ = some (.int .i64 ls[k].num) := hc 2 _ rfl
    have h3 : w.cell? ⟨b, off + k * 4 + 3, none⟩ = some (.int .i64 ls[k].den) := hc 3 _ rfl
    have HF := Lib.hid hf
    have hkn : (k : Int) < (ls.length : Int) := by omega
    have hprev : 0 < k → w.cell? ⟨b, off + (k - 1) * 4, none⟩ = some (.int .i64 (ls[k - 1]'(by omega)).frm) := fun hk0 => by
     obtain ⟨b', off', he, _, hc'⟩ := hS.at (k := k - 1) (by omega)
     cases he
     exact hc' 0 _ rfl
    have HP := Lib.hid hprev
    have HB : befP ls (k + 1) = some ls[k].frm := bef_succ ls hlt
    have HB := Lib.hid HB
    clear hc hf hS hprev
    go_upto_region 10 with (first
     | (go_at_call 23; refine (r5IsDay_any _ _).mono ?_; intro e wq hq; rcases Ret0.bools hq with ⟨rfl, ⟨hb, rfl⟩ | ⟨hb, rfl⟩⟩ <;> clear hq)
     | (go_at_call 52; refine (rIsShare_any _ _ _).mono ?_; intro e wq hq; rcases Ret.bools hq with ⟨zq, rfl, ⟨hb, rfl⟩ | ⟨hb, rfl⟩⟩ <;> clear hq))
    all_goals first
     | (go_ret
        exact Ret.of (int_eq (by rw [HF.out]; simp [lawErr, *])) Bw)
     | skip
    rcases Nat.eq_zero_or_pos k with hk0 | hk0
    · have hd : decide ((k : Int) > 0) = false := by simp; omega
      have hbn : befP ls k = none := by rw [befP, if_pos hk0]
      go_quiet (fail)
      go_wp2_with fail
      go_round
      case rel => subst hk0; exact ⟨1, by omega, rfl, by rw [HF.out, HB.out]; simp [lawErr, *], ext_below Bw⟩
      case measure => simp [intOf]; omega
    · have hd : decide ((k : Int) > 0) = true := by simp; omega
      have hwr : IntKind.i64.wrap ((k : Int) - 1) = (k : Int) - 1 := IntWalk.i64_in _ (by omega)
      have hnn : 0 ≤ (k : Int) - 1 := by omega
      have htn : ((k : Int) - 1).toNat = k - 1 := by omega
      have hlt2 : (k : Int) - 1 < (ls.length : Int) := by omega
      have hp := HP.out hk0
      have hbs : befP ls k = some (ls[k - 1]'(by omega)).frm := by have := bef_succ ls (k := k - 1) (by omega); rwa [Nat.sub_add_cancel hk0] at this
      go_quiet (fail)
      go_wp2_with fail
      all_goals first
       | (go_ret
          exact Ret.of (int_eq (by rw [HF.out]; simp [lawErr, *])) Bw)
       | (go_round
          case rel => exact ⟨k + 1, by omega, by go_num, by rw [HF.out, HB.out]; simp [lawErr, *], ext_below Bw⟩
          case measure => simp [intOf]; omega)
  · rw [List.drop_eq_nil_of_le (by omega), lawsGo] at hf
    have HF := Lib.hid hf
    clear hf hS
    have hkn : ¬ (k : Int) < (ls.length : Int) := by omega
    go_wp2_with fail
    go_ret
    exact Ret.of (int_eq (by rw [HF.out])) Bw
set_option maxRecDepth 100000 in
set_option maxHeartbeats 2000000 in
theorem rLawOn_any (ls : List Law) (A : Option Addr) (c : Nat) (day : Int) (w : World) (hl : ls.length ≤ 10) (hS : Sl w 4 Law.cells A ls) : Calls Tryz.prog 24 #[.slice A ls.length c, .int .i64 day] w (Ret w (lawOnP ls day).v) := by
 go_enter Tryz.func24, Tryz.ntmps24
 go_upto_region 3 with (go_at_call 54; go_must (refine (rZero_any _).mono ?_); rintro e wq ⟨rfl, z, rfl⟩)
 obtain ⟨L, hL⟩ : ∃ L, L = w.heap.size + 1 + z.os.size := ⟨_, rfl⟩
 have hL0 : w.heap.size < L := by omega
 rw [← hL]
 have HL := Lib.hid hL
 clear hL
 go_loopw [6] (fun i wr => ∃ k : Nat, k ≤ ls.length ∧ i = .int .i64 k ∧ ∃ x : Law, x = lawOnP (ls.take k) day ∧ Below w.heap.size w wr ∧ L + 1 ≤ wr.heap.size ∧ wr.heap[w.heap.size]? = some (.cells #[.int .i64 0, .bool false, .int .i64 0, .int .i64 0] 41) ∧ wr.heap[L]? = some (.cells #[.int .i64 x.frm, .bool x.stems, .int .i64 x.num, .int .i64 x.den] 41)) (fun i _ => ls.length - (intOf i).toNat)
 case atStart =>
  refine ⟨0, Nat.zero_le _, rfl, zeroLaw, rfl, ?_, ?_, ?_, ?_⟩
  · exact Bw
  · rw [HL.out]; simp [ext_size]
  · exact J_alloc (J_ext (J_new _ _ _ rfl))
  · exact J_new _ _ _ (by rw [HL.out]; simp [ext_size])
 case round =>
  obtain ⟨k, hk, rfl, x, hx, hB, hsz, g0, g1⟩ := hrel
  have c0 : wr.cell? ⟨L, 0, none⟩ = some (.int .i64 x.frm) := by simp [World.cell?, g1]
  have c1 : wr.cell? ⟨L, 1, none⟩ = some (.bool x.stems) := by simp [World.cell?, g1]
  have c2 : wr.cell? ⟨L, 2, none⟩ = some (.int .i64 x.num) := by simp [World.cell?, g1]
  have c3 : wr.cell? ⟨L, 3, none⟩ = some (.int .i64 x.den) := by simp [World.cell?, g1]
  have d0 : wr.cell? ⟨w.heap.size, 0, none⟩ = some (.int .i64 0) := by simp [World.cell?, g0]
  have d1 : wr.cell? ⟨w.heap.size, 1, none⟩ = some (.bool false) := by simp [World.cell?, g0]
  have d2 : wr.cell? ⟨w.heap.size, 2, none⟩ = some (.int .i64 0) := by simp [World.cell?, g0]
  have d3 : wr.cell? ⟨w.heap.size, 3, none⟩ = some (.int .i64 0) := by simp [World.cell?, g0]
  have f0 : wr.frozen? ⟨w.heap.size, 0, none⟩ = false := by simp [World.frozen?, g0]
  have f1 : wr.frozen? ⟨L, 0, none⟩ = false := by simp [World.frozen?, g1]
  have e1 : wr.frozen? ⟨L, 1, none⟩ = false := by simp [World.frozen?, g1]
  have e2 : wr.frozen? ⟨L, 2, none⟩ = false := by simp [World.frozen?, g1]
  have e3 : wr.frozen? ⟨L, 3, none⟩ = false := by simp [World.frozen?, g1]
  have m1 : wr.frozen? ⟨w.heap.size, 1, none⟩ = false := by simp [World.frozen?, g0]
  have m2 : wr.frozen? ⟨w.heap.size, 2, none⟩ = false := by simp [World.frozen?, g0]
  have m3 : wr.frozen? ⟨w.heap.size, 3, none⟩ = false := by simp [World.frozen?, g0]
  have hs1 : L < wr.heap.size := by omega
  have hs0 : w.heap.size < wr.heap.size := by omega
  have hs2 : L ≠ wr.heap.size := by omega
  by_cases hlt : k < ls.length
  · obtain ⟨b, off, rfl, hb, hc⟩ := (hS.keep hB).at hlt
    have h0 : wr.cell? ⟨b, off + k * 4, none⟩ = some (.int .i64 ls[k].frm) := hc 0 _ rfl
    have h1 : wr.cell? ⟨b, off + k * 4 + 1, none⟩ = some (.bool ls[k].stems) := hc 1 _ rfl
    have h2 : wr.cell? ⟨b, off + k * 4 + 2, none⟩ = some (.int .i64 ls[k].num) := hc 2 _ rfl
    have h3 : wr.cell? ⟨b, off + k * 4 + 3, none⟩ = some (.int .i64 ls[k].den) := hc 3 _ rfl
    clear hc hS
    go_wp2_with fail
    · refine ⟨⟨k + 1, by omega, by go_num, ls[k], by rw [lawOn_snoc ls day hlt, if_pos (by simp; assumption)], ?_, ?_, ?_, ?_⟩, by simp [intOf]; omega⟩
      · exact B_set (B_set (B_set (B_set hB (by first | omega | (simp; done) | (simp; omega)) _) (by first | omega | (simp; done) | (simp; omega)) _) (by first | omega | (simp; done) | (simp; omega)) _) (by first | omega | (simp; done) | (simp; omega)) _
      · first | omega | (simp; omega)
      · exact ((B_set (B_set (B_set (B_set (Below.refl L wr) (by first | omega | (simp; done) | (simp; omega)) _) (by first | omega | (simp; done) | (simp; omega)) _) (by first | omega | (simp; done) | (simp; omega)) _) (by first | omega | (simp; done) | (simp; omega)) _).block w.heap.size (by omega)).trans g0
      · exact J_set4 g1
    · exact ⟨⟨k + 1, by omega, by go_num, lawOnP (ls.take k) day, by rw [lawOn_snoc ls day hlt, if_neg (by simp; assumption)], hB, hsz, g0, by simpa [hx] using g1⟩, by simp [intOf]; omega⟩
  · go_wp2_with fail
    have hk2 : ls.take k = ls := List.take_of_length_le (by omega)
    have g4 := J_set4 (a := .int .i64 (lawOnP ls day).frm) (b := .bool (lawOnP ls day).stems) (c := .int .i64 (lawOnP ls day).num) (d := .int .i64 (lawOnP ls day).den) g0
    rw [hk2]
    refine bodyPost_ret (v := (lawOnP ls day).v) ?_ rfl ?_
    · refine results_law rfl _ _ w.heap.size _ rfl ?_ ?_ ?_ ?_ <;> simp [World.cell?, g4]
    · exact Ret.of rfl (B_set (B_set (B_set (B_set hB (by first | omega | (simp; done) | (simp; omega)) _) (by first | omega | (simp; done) | (simp; omega)) _) (by first | omega | (simp; done) | (simp; omega)) _) (by first | omega | (simp; done) | (simp; omega)) _)
def noLaw : Value := .agg #[.int .i64 0, .bool false, .int .i64 0, .int .i64 0]
def lawOnR (ls : List Law) (day : Int) : Value × Int := if checkLawsP ls != 0 then (noLaw, checkLawsP ls) else if isDayP day then ((lawOnP ls day).v, 0) else (noLaw, 2)
theorem laws_few {ls : List Law} (h : checkLawsP ls = 0) : ls.length ≤ 10 := by
 unfold checkLawsP at h
 split at h
 · simp at h
 · rename_i hc
   simpa using hc
theorem results_lawE {fn : Func} {p q : Tmp} (h : fn.results = #[.cell p 41, .tmp q]) (tmps : Array Value) (w : World) (B : Nat) (v : Value) (x0 x1 x2 x3 e : Value) (hp : tmps.getD p undef = .pointer (some ⟨B, 0, none⟩)) (hq : tmps.getD q undef = e) (hv : v = .agg #[x0, x1, x2, x3])
    (hx : w.heap[B]? = some (.cells #[x0, x1, x2, x3] 41)) : (results fn tmps).run Tryz.prog w = .ok (.tuple #[v, e]) w := by
 subst hv
 have h0 : w.cell? ⟨B, 0, none⟩ = some x0 := by simp only [World.cell?, hx]; rfl
 have h1 : w.cell? ⟨B, 1, none⟩ = some x1 := by simp only [World.cell?, hx]; rfl
 have h2 : w.cell? ⟨B, 2, none⟩ = some x2 := by simp only [World.cell?, hx]; rfl
 have h3 : w.cell? ⟨B, 3, none⟩ = some x3 := by simp only [World.cell?, hx]; rfl
 clear hx
 rw [Array.getD_eq_getD_getElem?] at hp hq
 simp only [results, h]
 simp [Sem.run_bind, hp, hq]
 go_simp
set_option maxRecDepth 100000 in
set_option maxHeartbeats 2000000 in
theorem lawOnX_any (ls : List Law) (A : Option Addr) (c : Nat) (day : Int) (w : World) (hS : Sl w 4 Law.cells A ls) :
    Calls Tryz.prog 20 #[.slice A ls.length c, .int .i64 day] w (Ret w (.tuple #[(lawOnR ls day).1, .int .i64 (lawOnR ls day).2])) := by
 have HS := Lib.hid hS
 obtain ⟨R, hR⟩ : ∃ R, R = lawOnR ls day := ⟨_, rfl⟩
 rw [← hR]
 unfold lawOnR at hR
 have HCK := Lib.hid (fun W (hW : Below w.heap.size w W) => checkLaws5_any ls A ls.length c W rfl (hS.keep hW))
 clear hS
 by_cases h0 : checkLawsP ls = 0
 · rw [if_neg (by simp [h0])] at hR
   rw [h0] at HCK
   have hfew := laws_few h0
   cases hd : isDayP day
   · rw [hd] at hR
     have HR : Hid (R = (noLaw, 2)) := by show _ = _; rw [hR]; rfl
     clear hR h0
     go_enter Tryz.func20, Tryz.ntmps20
     go_wp2_with (first
      | (go_at_call 22; go_must (refine (HCK.out _ Bw).mono ?_); rintro e wq ⟨rfl, z, rfl⟩)
      | (go_at_call 50; go_must (refine (isDay5_any _ _).mono ?_); rintro e wq ⟨rfl, rfl⟩; rw [hd]))
     rw [HR.out]
     refine bodyPost_ret (v := .tuple #[noLaw, .int .i64 2]) ?_ rfl ?_
     · exact results_lawE rfl _ _ w.heap.size _ _ _ _ _ _ rfl rfl rfl (J_ext (J_new _ _ _ rfl))
     · exact Ret.of rfl Bw
   · rw [hd, if_pos rfl] at hR
     have HR := Lib.hid hR
     have HLO := Lib.hid (fun W (hW : Below w.heap.size w W) => lawOn5_any ls A c day W hfew (HS.out.keep hW))
     generalize lawOnP ls day = x at *
     unfold Law.v at HLO
     clear hR h0
     go_enter Tryz.func20, Tryz.ntmps20
     go_wp2_with (first
      | (go_at_call 22; go_must (refine (HCK.out _ Bw).mono ?_); rintro e wq ⟨rfl, z, rfl⟩)
      | (go_at_call 50; go_must (refine (isDay5_any _ _).mono ?_); rintro e wq ⟨rfl, rfl⟩; rw [hd])
      | (go_at_call 51; go_must (refine (HLO.out _ Bw).mono ?_); rintro e wq ⟨rfl, z2, rfl⟩))
     rw [HR.out]
     refine bodyPost_ret (v := .tuple #[x.v, .int .i64 0]) ?_ rfl ?_
     · exact results_lawE rfl _ _ w.heap.size _ _ _ _ _ _ rfl rfl rfl (J_ext (J_ext (J_new _ _ _ rfl)))
     · exact Ret.of rfl Bw
 · rw [if_pos (by simpa using h0)] at hR
   have HR := Lib.hid hR
   generalize checkLawsP ls = E at *
   clear hR
   go_enter Tryz.func20, Tryz.ntmps20
   go_wp2_with (go_at_call 22; go_must (refine (HCK.out _ Bw).mono ?_); rintro e wq ⟨rfl, z, rfl⟩)
   rw [HR.out]
   refine bodyPost_ret (v := .tuple #[noLaw, .int .i64 E]) ?_ rfl ?_
   · exact results_lawE rfl _ _ w.heap.size _ _ _ _ _ _ rfl rfl rfl (J_ext (J_new _ _ _ rfl))
   · exact Ret.of rfl Bw
end Go.Proofs.YtkhkhnellekofaaGreatDoor
