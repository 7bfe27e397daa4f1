/- Walks of chapter 5's world.in. -/
import Derived.Test.YtkhkhnellekofaaGreatDoorJY
import Derived.Test.YtkhkhnellekofaaGreatDoorJT
set_option linter.unusedSimpArgs false
set_option linter.unusedVariables false
namespace Go.Proofs.YtkhkhnellekofaaGreatDoor
open Go.RowKit Go.Shelf
attribute [local go_sem] World.cell?_alloc_mark ext_size ext_cell ext_frozen lt_add_r lt_add_r2 lt_add_r3 lt_add_r4 lt_add_r5 lt_add_r6 lt_add_r7 lt_add_r8
attribute [local go_sem] ext_setCell alloc_setCell_lt

theorem look_kids {base : Nat} {W : World} {B : List Nat} {d c p wl r : Nat} {mv : Value} {s : St} (h : PplAt base W B d c p wl r mv s) (n : ByteArray) :
    ∃ A cc, (∀ W', Below W.heap.size W W' → (Instr.lookup 105 (.map (some c)) (.string n) false).run Tryz.prog W' = .ok (.slice A (childrenP s n).length cc) W') ∧ (childrenP s n).length ≤ cc ∧ Sl W 1 sC A (childrenP s n) := by
 obtain ⟨mc, mp, k1, k2, k3, k4, k5, k6⟩ := h.rows
 have hl := fun W' (hB : Below W.heap.size W W') => run_lookup mapSS (k1.below hB).at n
 rcases k3 n with ⟨h1, h2⟩ | ⟨v, h1, h2⟩
 · rw [h1] at hl
   refine ⟨none, 0, fun W' hB => ?_, by rw [h2]; exact Nat.le_refl _, by rw [h2]; exact Sl.nil⟩
   rw [h2]
   exact hl W' hB
 · rw [h1] at hl
   obtain ⟨A, cc, rfl, hS, hc⟩ := h2.sl sC_len
   exact ⟨A, cc, hl, hc, hS⟩
def outM (out : List ByteArray) : List (ByteArray × Bool) := out.map fun n => (n, true)
theorem out_put {out : List ByteArray} {n : ByteArray} (h : n ∉ out) : mput eqS n true (outM out) = outM (out ++ [n]) := by
 induction out with
 | nil => rfl
 | cons x out ih =>
  have hx : eqS n x = false := same_ne.2 fun e => h (by simp [e])
  rw [outM, List.map_cons, mput]
  simp only [hx, Bool.false_eq_true, if_false]
  have := ih (fun e => h (by simp [e]))
  simp only [outM] at this
  rw [this]
  rfl
theorem out_get (out : List ByteArray) (n : ByteArray) : (mget eqS n (outM out)).getD false = out.any (sameB n) := dead_get n out
theorem sl_one {w : World} {b : Nat} {x : ByteArray} {t : TypeId} {fr : Nat × Nat} (h : w.heap[b]? = some (.cells #[.string x] t fr)) : Sl w 1 sC (some ⟨b, 0, none⟩) [x] := fun _ => ⟨b, 0, rfl, blk_lt h, fun k y hy j u hu => by
 have hk : k = 0 := by have := (List.getElem?_eq_some_iff.1 hy).1; simp at this; omega
 subst hk
 simp only [List.getElem?_cons_zero, Option.some.injEq] at hy
 subst hy
 match j, hu with
 | 0, hu => simp [sC] at hu; simp [World.cell?, h, ← hu]
 | j + 1, hu => simp [sC] at hu⟩
def DescPost (w : World) (s : St) (nm : ByteArray) (e : Ending) (w' : World) : Prop :=
 ∃ out : List ByteArray, e = .returned (.map (some w.heap.size)) ∧ MapS w' w.heap.size ekS evB (outM out) ∧ Found s nm out [] ∧ Below w.heap.size w w'
set_option maxRecDepth 100000 in
set_option maxHeartbeats 2000000 in
theorem desc_any (base b : Nat) (s : St) (nm : ByteArray) (w : World) (hW : PeoAt base w b s) (hl : s.children.length ≤ 100000) :
    Calls Tryz.prog 103 #[.pointer (some ⟨b, 0, none⟩), .string nm] w (DescPost w s nm) := by
 obtain ⟨B, d, c, p, wl, r, mv, tv, la, co, h1, h2⟩ := hW
 have hb := blk_lt h1
 unfold WldC at h1
 have c1 : w.cell? ⟨b, 1, none⟩ = some (.map (some c)) := by simp [World.cell?, h1]
 have HP := Lib.hid h2
 have H1 := Lib.hid h1
 clear h1 h2
 have hkl : ∀ x, (childrenP s x).length ≤ 100000 := fun x => by
  have : (childrenP s x).length ≤ s.children.length := by unfold childrenP; rw [List.length_map]; exact List.length_filter_le _ _
  omega
 go_enter Tryz.func103, Tryz.ntmps103
 have hmm := @run_makeMap Tryz.prog
 go_upto_region 3 with fail
 clear hmm
 have hcw := c1
 go_loopg [6] (s.children.length + 1) (fun gg v wr => ∃ out xs : List ByteArray, OwnS wr w.heap.size 9 1 sC v xs ∧ MapS wr w.heap.size ekS evB (outM out) ∧ Below w.heap.size w wr ∧ w.heap.size + 1 ≤ wr.heap.size ∧ Hid (Found s nm out xs) ∧ (s.children.length - out.length) + xs.length ≤ gg ∧ xs.length ≤ out.length + 1)
 case atStart =>
  refine ⟨[], [nm], .inr ⟨w.heap.size + 1, 0, 1, #[.string nm], rfl, by omega, J_new _ _ _ (by simp), Nat.le_refl _, by simp [maxLen], by simp, fun j u hj => ?_⟩, ?_, Bw, by simp, found_start s nm, by simp, by simp⟩
  · match j, hj with
    | 0, hj => simpa [sC] using hj
    | j + 1, hj => simp [sC] at hj
  · exact (MapS.new w).below (n := w.heap.size + 1) (B_alloc (Below.refl _ _) _ (by simp)) (by simp)
 case round =>
  obtain ⟨out, xs, hown, hm, hB, hsz, HF, hgg, hxl⟩ := hrel
  cases xs with
  | nil =>
   obtain ⟨A, cc, rfl, hS, hc⟩ := hown.sl sC_len
   clear hown hS
   go_wp2_with fail
   go_ret
   exact ⟨out, rfl, hm, HF.out, hB⟩
  | cons x xs =>
   rcases hown with ⟨rfl, h0⟩ | ⟨g, o, cap, cur, rfl, hbg, hg, hcl, hcm, hcs, hx⟩
   · cases h0
   have hown : OwnS wr w.heap.size 9 1 sC (.slice (some ⟨g, o, none⟩) (x :: xs).length cap) (x :: xs) := .inr ⟨g, o, cap, cur, rfl, hbg, hg, hcl, hcm, hcs, hx⟩
   obtain ⟨_, h1c, htl, hhd⟩ := hown.tail sC_len
   have hcx : wr.cell? ⟨g, o, none⟩ = some (.string x) := hhd 0 _ rfl
   have hcb : wr.cell? ⟨b, 1, none⟩ = some (.map (some c)) := (hB.cell (p := ⟨b, 1, none⟩) hb).trans c1
   obtain ⟨KA, kc, hlk, hkc, hKS⟩ := look_kids HP.out x
   have hlk' := hlk wr hB
   have HK : Hid (∀ W', Below w.heap.size w W' → Sl W' 1 sC KA (childrenP s x)) := fun W' h => hKS.keep h
   have hLOOK : Hid (Look s nm x 0 out xs) := found_pop HF.out
   have hkx := hkl x
   have hxl1 : (0 : Int) < ((x :: xs).length : Int) := by simp only [List.length_cons]; omega
   have hxl2 : (1 : Int) ≤ ((x :: xs).length : Int) := by omega
   have hxl3 : (1 : Int) ≤ (xs.length : Int) + 1 := by omega
   have hc1 : (1 : Int) ≤ (cap : Int) := by omega
   have hT := Lib.hid htl
   have hM := Lib.hid hm
   generalize hks : childrenP s x = ks at hlk' HK hkx hkc
   have HKS := Lib.hid hks
   clear hks
   have hcl0 := hcl
   have hcs0 := hcs
   have HG := Lib.hid hg
   clear hlk hKS hx hg hown hhd htl hm HF hcs hcm hcl
   have hT1 : Hid (cap = 1 → OwnS wr w.heap.size 9 1 sC (.slice (some ⟨g, o, none⟩) xs.length 0) xs) := fun e => by
    have hx0 : xs = [] := List.eq_nil_of_length_eq_zero (by simp at hcl0; omega)
    subst hx0
    exact .inr ⟨g, o, 0, cur, rfl, hbg, HG.out, Nat.le_refl _, Nat.zero_le _, by omega, fun j u hj => by simp at hj⟩
   clear hcl0 hcs0
   go_upto_region 5 with fail
   go_cut [6] from 13 to 42 (fun v wc => OwnS wr w.heap.size 9 1 sC v xs ∧ wr = wc)
   case first =>
    by_cases hcap : cap = 1
    · go_wp2_with fail
      all_goals go_meet
      all_goals exact ⟨hT1.out hcap, rfl⟩
    · go_wp2_with fail
      all_goals go_meet
      all_goals exact ⟨hT.out, rfl⟩
   case rest =>
    obtain ⟨hown, rfl⟩ := hcut
    clear hT hT1 hcx
    have hown' := hown
    obtain ⟨QA, qc, rfl, hQS, hQc⟩ := hown'.sl sC_len
    clear hQS hown'
    have HO := Lib.hid hown
    clear hown
    go_upto_region 7 with fail
    go_loopg [6, 28] ks.length (fun gi v i wi => ∃ (j : Nat) (out2 xs2 : List ByteArray), j ≤ ks.length ∧ ks.length - j ≤ gi ∧ i = .int .i64 j ∧ OwnS wi w.heap.size 9 1 sC v xs2 ∧ MapS wi w.heap.size ekS evB (outM out2) ∧ Below w.heap.size w wi ∧ w.heap.size + 1 ≤ wi.heap.size ∧ Hid (Look s nm x j out2 xs2) ∧ (s.children.length - out2.length) + xs2.length + 1 ≤ gk ∧ xs2.length ≤ out2.length)
    case atStart => exact ⟨0, out, xs, Nat.zero_le _, Nat.le_refl _, rfl, HO.out, hM.out, hB, hsz, hLOOK, by simp at hgg; omega, by simp at hxl; omega⟩
    case round =>
     obtain ⟨j, out2, xs2, hj, hgi, rfl, hown2, hm2, hB2, hsz2, HL2, hgg2, hxl2⟩ := hrel
     have hof := out_few HL2.out.nd HL2.out.desc
     by_cases hlt : j < ks.length
     · obtain ⟨kb, koff, rfl, hkb, hkc0⟩ := (HK.out wr hB2).at hlt
       obtain ⟨ch, hch⟩ : ∃ ch, ch = ks[j] := ⟨_, rfl⟩
       have c9 : wr.cell? ⟨kb, koff + j, none⟩ = some (.string ch) := by rw [hch]; have := hkc0 0 _ rfl; simpa using this
       have hlo := run_lookup mapSB hm2.at ch
       rw [out_get] at hlo
       have hlo' : (Instr.lookup 104 (.map (some w.heap.size)) (.string ch) false).run Tryz.prog wr = .ok (.bool (out2.any (sameB ch))) wr := hlo
       clear hlo
       have hjl : (j : Int) < (ks.length : Int) := by omega
       have hj0 : (0 : Int) ≤ (j : Int) := by omega
       have hjx : j < (childrenP s x).length := by rw [HKS.out]; exact hlt
       have hcx2 : (childrenP s x)[j] = ch := by rw [hch]; simp only [HKS.out]
       have HCH := Lib.hid hcx2
       have HCH0 := Lib.hid hch
       have HO2 := Lib.hid hown2
       have HM2 := Lib.hid hm2
       clear hkc0 hch hcx2 hown2 hm2
       cases hin : out2.any (sameB ch)
       · have hni : ch ∉ out2 := fun h => by rw [any_same.2 h] at hin; cases hin
         have HIN := Lib.hid hin
         have HNI := Lib.hid hni
         rw [hin] at hlo'
         clear hin hni
         obtain ⟨es, c00, hmb, hm9⟩ := HM2.out
         have HMB := Lib.hid hmb
         clear hmb hm9
         go_wp2_with (first
          | (at_mapUpdate; obtain ⟨w1, hrun, hm1, hg1, hs1⟩ := run_updateS mapSB HM2.out ch true; go_loud (refine wpList_update_run rfl _ _ _ rfl _ _ _ rfl rfl rfl w1 hrun ?_))
          | (at_builtin; go_loud (refine wpList_append_S (v := u6) (n := xs2.length) (m := 1) rfl _ _ rfl elStr5 sC_len sC_one rfl ((HO2.out.keptM hg1 HMB.out).keep (n := w1.heap.size) (B_alloc (Below.refl _ _) _)) rfl rfl rfl (sl_one (J_new _ _ _ hs1.symm)) (by simp [maxLen]; omega) (by omega) (by simp; omega) ?_); intro v3 w3 h1 h2 h3))
         go_roundg (ks.length - (j + 1))
         case measure => omega
         case rel =>
          refine ⟨j + 1, out2 ++ [ch], xs2 ++ [ch], by omega, Nat.le_refl _, by go_num, h1, ?_, ?_, ?_, ?_, ?_, ?_⟩
          · have hA1 : MapS (w1.alloc (.cells #[.string ch] 9)) w.heap.size ekS evB (outM (out2 ++ [ch])) := by
              have := hm1.below (n := w1.heap.size) (B_alloc (Below.refl _ _) (.cells #[.string ch] 9))
              rwa [out_put HNI.out] at this
            exact hA1.grown h2 (fun e => by
             have hb1 : OwnS w1 w.heap.size 9 1 sC _ xs2 := HO2.out.keptM hg1 HMB.out
             obtain ⟨es1, c01, hmb1, _⟩ := hm1
             rcases hb1 with ⟨e1, _⟩ | ⟨g1, o1, cp1, cur1, e1, _, hg1', _⟩
             · rw [e1] at e; cases e
             · rw [e1] at e
               simp only [blkOf, Option.some.injEq] at e
               subst e
               rw [hmb1] at hg1'
               simp at hg1')
          · have hB3 : Below w.heap.size w (w1.alloc (.cells #[.string ch] 9)) := B_alloc (hB2.grown hg1 hB2.size (fun k e => by cases e; exact Nat.le_refl _)) _
            exact hB3.grown h2 hB3.size (fun k e => (HO2.out.ge k e).1)
          · have := h2.size
            simp at this
            omega
          · have := look_new HL2.out hjx (by rw [HCH.out]; exact HNI.out)
            rwa [HCH.out] at this
          · have hnd := look_new HL2.out hjx (by rw [HCH.out]; exact HNI.out)
            rw [HCH.out] at hnd
            have := out_few hnd.nd hnd.desc
            simp at this ⊢
            omega
          · simp; omega
       · have hni : ch ∈ out2 := any_same.1 hin
         have HNI := Lib.hid hni
         rw [hin] at hlo'
         clear hin hni
         go_wp2_with fail
         go_roundg (ks.length - (j + 1))
         case measure => omega
         case rel => exact ⟨j + 1, out2, xs2, by omega, Nat.le_refl _, by go_num, HO2.out, HM2.out, hB2, hsz2, look_old HL2.out hjx (by rw [HCH.out]; exact HNI.out), hgg2, hxl2⟩
     · have hjl : ¬ (j : Int) < (ks.length : Int) := by omega
       have hje : j = (childrenP s x).length := by rw [HKS.out]; omega
       have HF2 : Hid (Found s nm out2 xs2) := look_end (by rw [← hje]; exact HL2.out)
       clear hje
       go_wp2_with fail
       go_roundg ((s.children.length - out2.length) + xs2.length)
       case measure => omega
       case rel => exact ⟨out2, xs2, hown2, hm2, hB2, hsz2, HF2, Nat.le_refl _, by omega⟩
open Classical in
set_option maxRecDepth 100000 in
set_option maxHeartbeats 2000000 in
theorem descends_any (base b : Nat) (s : St) (nm of : ByteArray) (w : World) (hW : PeoAt base w b s) (hl : s.children.length ≤ 100000) :
    Calls Tryz.prog 81 #[.pointer (some ⟨b, 0, none⟩), .string nm, .string of] w (Ret w (.bool (decide (Desc s of nm)))) := by
 go_enter Tryz.func81, Tryz.ntmps81
 go_wp2_with (go_at_call 103
              refine (desc_any base b s of _ hW hl).mono ?_
              rintro e wq ⟨out, rfl, hm, hf, hB⟩
              have hlo : (Instr.lookup 104 (.map (some w.heap.size)) (.string nm) false).run Tryz.prog wq = .ok (.bool (out.any (sameB nm))) wq := by
               have := run_lookup mapSB hm.at nm
               rw [out_get] at this
               exact this)
 go_ret
 refine Ret.of (bool_eq ?_) hB
 rw [Bool.eq_iff_iff, any_same, decide_eq_true_eq]
 exact found_end hf nm
end Go.Proofs.YtkhkhnellekofaaGreatDoor
namespace Go.Proofs.YtkhkhnellekofaaGreatDoor
open Go.RowKit Go.Shelf
attribute [local go_sem] World.cell?_alloc_mark ext_size ext_cell ext_frozen lt_add_r lt_add_r2 lt_add_r3 lt_add_r4 lt_add_r5 lt_add_r6 lt_add_r7 lt_add_r8
attribute [local go_sem] ext_setCell alloc_setCell_lt

theorem ix_step {gs : List Grave} {f : Grave → Bool} {k : Nat} (h : k < gs.length) : ((gs.drop k).findIdx? f).map (· + k) = if f gs[k] then some k else ((gs.drop (k + 1)).findIdx? f).map (· + (k + 1)) := by
 rw [List.drop_eq_getElem_cons h, List.findIdx?_cons]
 split
 · simp
 · rw [Option.map_map]
   congr 1
   funext x
   show x + 1 + k = x + (k + 1)
   omega
theorem ix_end {gs : List Grave} {f : Grave → Bool} {k : Nat} (h : gs.length ≤ k) : ((gs.drop k).findIdx? f).map (· + k) = none := by
 rw [List.drop_eq_nil_of_le h]; rfl
theorem ix_start (gs : List Grave) (f : Grave → Bool) : gs.findIdx? f = ((gs.drop 0).findIdx? f).map (· + 0) := by
 rw [List.drop_zero]
 cases gs.findIdx? f <;> rfl
def ptrOf (ps : List Nat) (i : Option Nat) : Value := .pointer (i.map fun i => ⟨ps.getD i 0, 0, none⟩)
set_option maxRecDepth 100000 in
set_option maxHeartbeats 2000000 in
theorem in_any (base b : Nat) (s : St) (la co : Int) (place : ByteArray) (day : Int) (w : World) {B ps : List Nat} {d c p wl r : Nat} {mv tv : Value} (hC : WldC w b d c p wl r mv tv la co) (hT : TombsAt base w B tv ps s.graves) (hl : s.graves.length ≤ 100000) :
    Calls Tryz.prog 58 #[.pointer (some ⟨b, 0, none⟩), .string place, .int .i64 day] w (Ret w (ptrOf ps (graveIx s place day))) := by
 obtain ⟨A, cc, rfl, hS, hcc⟩ := hT.own.sl ptrC_len
 have hb := blk_lt hC
 unfold WldC at hC
 have c6 : w.cell? ⟨b, 6, none⟩ = some (.slice A ps.length cc) := by simp [World.cell?, hC]
 have hln := hT.len
 have HT := Lib.hid hT.all
 have HS := Lib.hid hS
 clear hC hT hS
 have hR : graveIx s place day = ((s.graves.drop 0).findIdx? fun g => sameB g.place place && inForceP g day).map (· + 0) := ix_start _ _
 generalize graveIx s place day = R at *
 generalize s.graves = gs at *
 have HR := Lib.hid hR
 clear hR
 go_enter Tryz.func58, Tryz.ntmps58
 go_wp2_with fail
 go_loopw [14] (fun i wr => ∃ k : Nat, k ≤ ps.length ∧ i = .int .i64 k ∧ Hid (R = ((gs.drop k).findIdx? fun g => sameB g.place place && inForceP g day).map (· + k)) ∧ ∃ z, wr = w.ext z) (fun i _ => ps.length - (intOf i).toNat)
 case atStart => exact ⟨0, Nat.zero_le _, rfl, HR.out, ext_below (Below.refl _ _)⟩
 case round =>
  obtain ⟨k, hk, rfl, HX, z, rfl⟩ := hrel
  by_cases hlt : k < ps.length
  · obtain ⟨b', off, rfl, hb', hc⟩ := (HS.out.keep (below_ext w z)).at hlt
    have hgl : k < gs.length := by omega
    obtain ⟨H, hc', D, dc, fr, t1, t2, t3, t4, t5, t6, t7⟩ := (HT.out k _ _ (List.getElem?_eq_getElem hlt) (List.getElem?_eq_getElem hgl)).keep (below_ext w z)
    have hst := HX.out.trans (ix_step hgl)
    have HST := Lib.hid hst
    have hpd : ps.getD k 0 = ps[k] := by rw [List.getD_eq_getElem?_getD, List.getElem?_eq_getElem hlt]; rfl
    have HPD := Lib.hid hpd
    clear hst hpd t5 t6 t7
    generalize ps[k] = T at *
    generalize gs[k] = g at *
    have hTl := blk_lt t1
    unfold TombC at t1
    have k0 : (w.ext z).cell? ⟨T, 0, none⟩ = some (.string g.place) := by simp only [World.cell?, t1]; rfl
    have k3 : (w.ext z).cell? ⟨T, 3, none⟩ = some (.int .i64 g.fin) := by simp only [World.cell?, t1]; rfl
    have k4 : (w.ext z).cell? ⟨T, 4, none⟩ = some (.slice H g.holders.length hc') := by simp only [World.cell?, t1]; rfl
    have cp : (w.ext z).cell? ⟨b', off + k, none⟩ = some (.pointer (some ⟨T, 0, none⟩)) := by have := hc 0 _ rfl; simpa using this
    have K3 := Lib.hid k3
    have K4 := Lib.hid k4
    have hki : (k : Int) < (ps.length : Int) := by omega
    have hk0 : (0 : Int) ≤ (k : Int) := by omega
    clear t1 hc k3 k4
    go_wp2_with (go_at_call 90; refine (inForce_any g H hc' T day _ K3.out K4.out).mono ?_; intro e wq hq; rcases Ret.bools hq with ⟨zq, rfl, ⟨hb, rfl⟩ | ⟨hb, rfl⟩⟩ <;> clear hq)
    all_goals first
     | (go_ret
        have hRk : R = some k := by rw [HST.out]; simp [sameB_t, sameB_f, *]
        rw [hRk]
        refine Ret.of ?_ Bw
        show _ = Value.pointer (some ⟨ps.getD k 0, 0, none⟩)
        rw [HPD.out]
        rfl)
     | (go_round
        case rel => exact ⟨k + 1, by omega, by go_num, (by rw [HST.out]; simp [sameB_t, sameB_f, *] : _ = _), ext_below Bw⟩
        case measure => simp [intOf]; omega)
  · have hki : ¬ (k : Int) < (ps.length : Int) := by omega
    have he := HX.out.trans (ix_end (f := fun g => sameB g.place place && inForceP g day) (by omega : gs.length ≤ k))
    have HE := Lib.hid he
    clear he
    go_wp2_with fail
    go_ret
    exact Ret.of (by rw [HE.out]; rfl) Bw
end Go.Proofs.YtkhkhnellekofaaGreatDoor
