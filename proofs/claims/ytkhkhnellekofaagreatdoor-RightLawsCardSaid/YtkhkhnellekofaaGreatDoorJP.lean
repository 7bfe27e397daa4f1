/- Walks of chapter 5's heirs: able, gives. -/
import Derived.Test.YtkhkhnellekofaaGreatDoorJO
import Derived.Test.YtkhkhnellekofaaGreatDoorJT
set_option linter.unusedSimpArgs false
set_option linter.unusedVariables false
namespace Go.Proofs.YtkhkhnellekofaaGreatDoor
open Go.RowKit Go.Shelf
attribute [local go_sem] World.cell?_alloc_mark ext_size ext_cell ext_frozen lt_add_r lt_add_r2 lt_add_r3 lt_add_r4 lt_add_r5 lt_add_r6 lt_add_r7 lt_add_r8
attribute [local go_sem] ext_setCell alloc_setCell_lt

def HeirAt (W : World) (h b : Nat) (law : Law) (who : ByteArray) (C m : Nat) : Prop :=
 W.heap[h]? = some (.cells #[.pointer (some ⟨b, 0, none⟩), .int .i64 law.frm, .bool law.stems, .int .i64 law.num, .int .i64 law.den, .string who, .pointer (some ⟨C, 0, none⟩), .map (some m)] 172)
def ableQ (s : St) (n frm : ByteArray) : Bool := !sameB n frm && !isDeadP s n && !s.renounce.any (fun r => sameB r.1 n && sameB r.2 frm)
theorem able_q (s : St) (n frm : ByteArray) : ableP s n frm = (!noB n && ableQ s n frm) := by
 unfold ableP ableQ
 simp only [Bool.and_assoc]
set_option maxRecDepth 100000 in
set_option maxHeartbeats 2000000 in
theorem able_any (base b h C m : Nat) (s : St) (law : Law) (who n : ByteArray) (w : World) (hW : PeoAt base w b s) (hH : HeirAt w h b law who C m) :
    Calls Tryz.prog 141 #[.pointer (some ⟨h, 0, none⟩), .string n] w (Ret w (.bool (ableQ s n who))) := by
 obtain ⟨B, d, c, p, wl, r, mv, tv, la, co, h1, h2⟩ := hW
 have hb := blk_lt h1
 have hh := blk_lt hH
 unfold WldC at h1
 unfold HeirAt at hH
 have c0 : w.cell? ⟨b, 0, none⟩ = some (.map (some d)) := by simp only [World.cell?, h1]; rfl
 have c5 : w.cell? ⟨b, 5, none⟩ = some (.map (some r)) := by simp only [World.cell?, h1]; rfl
 have e0 : w.cell? ⟨h, 0, none⟩ = some (.pointer (some ⟨b, 0, none⟩)) := by simp only [World.cell?, hH]; rfl
 have e5 : w.cell? ⟨h, 5, none⟩ = some (.string who) := by simp only [World.cell?, hH]; rfl
 have hlk1 : ∀ q', (Instr.lookup 104 (.map (some d)) (.string n) false).run Tryz.prog (w.drewN q') = .ok (.bool (isDeadP s n)) (w.drewN q') := fun q' => look_dead (h2.drewN q') _
 have hlk2 : ∀ q', (Instr.lookup 108 (.map (some r)) (.agg #[.string n, .string who]) false).run Tryz.prog (w.drewN q') = .ok (.bool (s.renounce.any fun x => sameB x.1 n && sameB x.2 who)) (w.drewN q') := fun q' => look_ren (h2.drewN q') _ _
 have hU : ableQ s n who = (!sameB n who && !isDeadP s n && !(s.renounce.any fun x => sameB x.1 n && sameB x.2 who)) := rfl
 have HU := Lib.hid hU
 clear hU
 generalize ableQ s n who = R at *
 generalize isDeadP s n = dd at *
 generalize (s.renounce.any fun x => sameB x.1 n && sameB x.2 who) = rr at *
 have hsm : sameB n who = (n.toList == who.toList) := rfl
 rw [hsm] at HU
 clear h1 h2 hH hsm
 go_enter Tryz.func141, Tryz.ntmps141
 cases hn : (n.toList == who.toList)
 · have hn2 : (n.toList != who.toList) = true := by rw [bne, hn]; rfl
   rw [hn] at HU
   cases dd
   · go_wp2_with fail
     go_quiet (fail)
     go_wp2_with fail
     go_ret
     exact Ret.of (bool_eq (by rw [HU.out]; simp)) Bw
   · go_wp2_with fail
     go_quiet (fail)
     go_wp2_with fail
     go_ret
     exact Ret.of (bool_eq (by rw [HU.out]; simp)) Bw
 · have hn2 : (n.toList != who.toList) = false := by rw [bne, hn]; rfl
   rw [hn] at HU
   go_wp2_with fail
   go_quiet (fail)
   go_wp2_with fail
   go_ret
   exact Ret.of (bool_eq (by rw [HU.out]; simp)) Bw
def HasAt (W : World) (m : Nat) (out : Parts) : Prop :=
 ∃ mm : List (ByteArray × Value), MapS W m ekS (fun v : Value => v) mm ∧ (mm.map (·.1)).Nodup ∧ ∀ n, (mget eqS n mm = none ∧ shareP out n = 0) ∨ mget eqS n mm = some (fracV (shareP out n))
theorem HasAt.keep {n m : Nat} {W W' : World} {out : Parts} (h : HasAt W m out) (hB : Below n W W') (hn : W.heap.size ≤ n := by first | exact Nat.le_refl _ | omega) : HasAt W' m out := by
 obtain ⟨mm, h1, h2, h3⟩ := h
 exact ⟨mm, h1.below hB hn, h2, h3⟩
theorem HasAt.block {m : Nat} {W W' : World} {out : Parts} (h : HasAt W m out) (hb : W'.heap[m]? = W.heap[m]?) : HasAt W' m out := by
 obtain ⟨mm, h1, h2, h3⟩ := h
 exact ⟨mm, h1.keep hb, h2, h3⟩
theorem HasAt.lt {m : Nat} {W : World} {out : Parts} (h : HasAt W m out) : m < W.heap.size := by
 obtain ⟨mm, h1, h2, h3⟩ := h
 exact h1.at.lt
structure Two2 (w w' : World) (C m : Nat) : Prop where
 below : ∀ n, n ≤ C → n ≤ m → n ≤ w.heap.size → Below n w w'
 others : ∀ k, k < w.heap.size → k ≠ C → k ≠ m → w'.heap[k]? = w.heap[k]?
 size : w.heap.size ≤ w'.heap.size
theorem Two2.of_below {w w' : World} {C m : Nat} (h : Below w.heap.size w w') : Two2 w w' C m := ⟨fun n _ _ hn => h.mono hn, fun k hk _ _ => h.block k hk, h.size⟩
theorem Two2.trans {a b c : World} {C m : Nat} (h : Two2 a b C m) (k : Two2 b c C m) : Two2 a c C m :=
 ⟨fun n h1 h2 h3 => (h.below n h1 h2 h3).trans (k.below n h1 h2 (Nat.le_trans h3 h.size)), fun i hi h1 h2 => (k.others i (Nat.lt_of_lt_of_le hi h.size) h1 h2).trans (h.others i hi h1 h2), Nat.le_trans h.size k.size⟩
theorem Two2.grownC {w w' : World} {C m : Nat} (h : w.grownBy w' (some C)) : Two2 w w' C m :=
 ⟨fun n h1 _ hn => grown_below (Below.refl _ _) h h1 hn, fun k hk h1 _ => h.block k hk (fun e => h1 (by simpa using e)), h.size⟩
theorem Two2.grownM {w w' : World} {C m : Nat} (h : w.grownBy w' (some m)) : Two2 w w' C m :=
 ⟨fun n _ h1 hn => grown_below (Below.refl _ _) h h1 hn, fun k hk _ h1 => h.block k hk (fun e => h1 (by simpa using e)), h.size⟩
def GivesPost (w : World) (C m : Nat) (x : Parts × Bool) (e : Ending) (w' : World) : Prop := e = .returned (.tuple #[]) ∧ HasAt w' m x.1 ∧ MarkAt w' C x.2 ∧ Two2 w w' C m
theorem step_update_run {P : Program} {ops : Array Oper} {o : Oper} {a : Act} {w : World} {K : Act → World → Prop} {Q : Exit → Act → World → Prop} {E : Prop} {T : TypeId} (hgd : o.guard = none) (x i u : Operand) (ho : o.op = .mapUpdate T x i u) (vx vi vu : Value) (hx : a.eval x = vx) (hi : a.eval i = vi) (hu : a.eval u = vu) (w' : World)
    (hrun : (Instr.mapUpdate T vx vi vu).run P w = .ok () w') (h : K (a.put o.dst undef) w') : if Region.wanted o (yielded ops a.tmps) = true then Oper.wp P o a w K Q else E := by
 have hw : Region.wanted o (yielded ops a.tmps) = true := by simp [Region.wanted, hgd]
 rw [if_pos hw]
 unfold Oper.wp
 simp [execOp, ho, hx, hi, hu, hrun, Result.andThen]
 exact h
set_option maxRecDepth 100000 in
set_option maxHeartbeats 2000000 in
theorem gives_any (b h C m : Nat) (law : Law) (who n : ByteArray) (f : Rat) (out : Parts) (fl : Bool) (w : World) (hH : HeirAt w h b law who C m) (hM : MarkAt w C fl) (hS : HasAt w m out) (hhC : h ≠ C) (hhm : h ≠ m) (hCm : C ≠ m) (hg : GoodParts out) (hs : small5 (shareP out n)) (hf : small5 f) :
    Calls Tryz.prog 142 #[.pointer (some ⟨h, 0, none⟩), .string n, .agg #[.int .i64 f.num, .int .i64 f.den]] w (GivesPost w C m (givesF n f (out, fl))) := by
 have hh := blk_lt hH
 have hCl := blk_lt hM
 have hml := hS.lt
 obtain ⟨mm, hmm, hnd, hget⟩ := hS
 unfold HeirAt at hH
 have e6 : w.cell? ⟨h, 6, none⟩ = some (.pointer (some ⟨C, 0, none⟩)) := by simp only [World.cell?, hH]; rfl
 have e7 : w.cell? ⟨h, 7, none⟩ = some (.map (some m)) := by simp only [World.cell?, hH]; rfl
 have HG := Lib.hid hg
 have HGT := Lib.hid hget
 have HND := Lib.hid hnd
 have HM := Lib.hid hM
 have HMM := Lib.hid hmm
 have hhn : h ≠ w.heap.size := by omega
 have hhn1 : h ≠ w.heap.size + 1 := by omega
 generalize hsv : shareP out n = sv at *
 have HSV := Lib.hid hsv
 have hlk : ∀ o, (Instr.lookup 170 (.map (some m)) (.string n) true).run Tryz.prog (w.alloc o) = .ok (.tuple #[(mget eqS n mm).getD (.agg #[.int .i64 0, .int .i64 0]), .bool (mget eqS n mm).isSome]) (w.alloc o) := fun o => run_lookup_ok mapSF (hmm.below (n := w.heap.size) (B_alloc (Below.refl _ _) o)).at n
 have hcase := hget n
 rw [hsv] at hcase
 have h0 : (sv = 0 ∧ mget eqS n mm = none) ∨ mget eqS n mm = some (fracV sv) := by
  rcases hcase with ⟨a, b⟩ | a
  · exact .inl ⟨b, a⟩
  · exact .inr a
 clear hH hM hmm hnd hget hg hsv hcase
 go_enter Tryz.func142, Tryz.ntmps142
 rcases h0 with ⟨rfl, h0⟩ | h0
 · rw [h0] at hlk
   simp only [Option.getD_none, Option.isSome_none] at hlk
   clear h0
   go_upto_region 4 with fail
   refine wp_region_held_drew (S := (fun w' => w'.cell? ⟨h, 6, none⟩ = some (.pointer (some ⟨C, 0, none⟩)) ∧ w'.cell? ⟨h, 7, none⟩ = some (.map (some m)) ∧ w'.cell? ⟨w.heap.size, 0, none⟩ = some (.int .i64 f.num) ∧ w'.cell? ⟨w.heap.size, 1, none⟩ = some (.int .i64 f.den) ∧ w'.cell? ⟨w.heap.size + 1, 0, none⟩ = some (.int .i64 (0)) ∧ w'.cell? ⟨w.heap.size + 1, 1, none⟩ = some (.int .i64 (1)))) (by kernel_rfl) ?hS ?hrest
   case hS => ((try dsimp only); refine ⟨?_, ?_, ?_, ?_, ?_, ?_⟩ <;> (simp [go_sem, e6, e7, hh]; done))
   case hrest =>
    intro hHeld
    refine wpAnyH_take (i := 0) (v := ?_) (List.getElem?_toArray.trans rfl) (by kernel_rfl) (by kernel_rfl) (by kernel_rfl) (fun _ _ _ h => h) (Or.inl ⟨by rfl, ?_⟩) (by assumption) ?_
    rotate_left 1
    focus (intro w hSw; (try dsimp only at hSw); go_simp; first | done | with_reducible rfl)
    try simp only [Act.put, List.setIfInBounds_toArray, List.set_cons_zero, List.set_cons_succ]
    refine wpAnyH_take (i := 1) (v := ?_) (List.getElem?_toArray.trans rfl) (by kernel_rfl) (by kernel_rfl) (by kernel_rfl) (fun _ _ _ h => h) (Or.inl ⟨by rfl, ?_⟩) (by assumption) ?_
    rotate_left 1
    focus (intro w hSw; (try dsimp only at hSw); go_simp; first | done | with_reducible rfl)
    try simp only [Act.put, List.setIfInBounds_toArray, List.set_cons_zero, List.set_cons_succ]
    refine wpAnyH_take (i := 2) (v := ?_) (List.getElem?_toArray.trans rfl) (by kernel_rfl) (by kernel_rfl) (by kernel_rfl) (fun _ _ _ h => h) (Or.inl ⟨by rfl, ?_⟩) (by assumption) ?_
    rotate_left 1
    focus (intro w hSw; (try dsimp only at hSw); go_simp; first | done | with_reducible rfl)
    try simp only [Act.put, List.setIfInBounds_toArray, List.set_cons_zero, List.set_cons_succ]
    refine wpAnyH_take (i := 3) (v := ?_) (List.getElem?_toArray.trans rfl) (by kernel_rfl) (by kernel_rfl) (by kernel_rfl) (fun _ _ _ h => h) (Or.inl ⟨by rfl, ?_⟩) (by assumption) ?_
    rotate_left 1
    focus (intro w hSw; (try dsimp only at hSw); go_simp; first | done | with_reducible rfl)
    try simp only [Act.put, List.setIfInBounds_toArray, List.set_cons_zero, List.set_cons_succ]
    refine wpAnyH_take (i := 4) (v := ?_) (List.getElem?_toArray.trans rfl) (by kernel_rfl) (by kernel_rfl) (by kernel_rfl) (fun _ _ _ h => h) (Or.inl ⟨by rfl, ?_⟩) (by assumption) ?_
    rotate_left 1
    focus (intro w hSw; (try dsimp only at hSw); go_simp; first | done | with_reducible rfl)
    try simp only [Act.put, List.setIfInBounds_toArray, List.set_cons_zero, List.set_cons_succ]
    refine wpAnyH_take (i := 5) (v := ?_) (List.getElem?_toArray.trans rfl) (by kernel_rfl) (by kernel_rfl) (by kernel_rfl) (fun _ _ _ h => h) (Or.inl ⟨by rfl, ?_⟩) (by assumption) ?_
    rotate_left 1
    focus (intro w hSw; (try dsimp only at hSw); go_simp; first | done | with_reducible rfl)
    try simp only [Act.put, List.setIfInBounds_toArray, List.set_cons_zero, List.set_cons_succ]
    refine wpAnyH_take (i := 6) (v := ?_) (List.getElem?_toArray.trans rfl) (by kernel_rfl) (by kernel_rfl) (by kernel_rfl) (fun _ _ _ h => h) (Or.inl ⟨by rfl, ?_⟩) (by assumption) ?_
    rotate_left 1
    focus (intro w hSw; (try dsimp only at hSw); go_simp; first | done | with_reducible rfl)
    try simp only [Act.put, List.setIfInBounds_toArray, List.set_cons_zero, List.set_cons_succ]
    refine wpAnyH_take (i := 7) (v := ?_) (List.getElem?_toArray.trans rfl) (by kernel_rfl) (by kernel_rfl) (by kernel_rfl) (fun _ _ _ h => h) (Or.inl ⟨by rfl, ?_⟩) (by assumption) ?_
    rotate_left 1
    focus (intro w hSw; (try dsimp only at hSw); go_simp; first | done | with_reducible rfl)
    try simp only [Act.put, List.setIfInBounds_toArray, List.set_cons_zero, List.set_cons_succ]
    refine wpAnyH_take (i := 8) (v := ?_) (List.getElem?_toArray.trans rfl) (by kernel_rfl) (by kernel_rfl) (by kernel_rfl) (fun _ _ _ h => h) (Or.inl ⟨by rfl, ?_⟩) (by assumption) ?_
    rotate_left 1
    focus (intro w hSw; (try dsimp only at hSw); go_simp; first | done | with_reducible rfl)
    try simp only [Act.put, List.setIfInBounds_toArray, List.set_cons_zero, List.set_cons_succ]
    refine wpAnyH_take (i := 9) (v := ?_) (List.getElem?_toArray.trans rfl) (by kernel_rfl) (by kernel_rfl) (by kernel_rfl) (fun _ _ _ h => h) (Or.inl ⟨by rfl, ?_⟩) (by assumption) ?_
    rotate_left 1
    focus (intro w hSw; (try dsimp only at hSw); go_simp; first | done | with_reducible rfl)
    try simp only [Act.put, List.setIfInBounds_toArray, List.set_cons_zero, List.set_cons_succ]
    refine wpAnyH_take (i := 10) (v := ?_) (List.getElem?_toArray.trans rfl) (by kernel_rfl) (by kernel_rfl) (by kernel_rfl) (fun _ _ _ h => h) (Or.inl ⟨by rfl, ?_⟩) (by assumption) ?_
    rotate_left 1
    focus (intro w hSw; (try dsimp only at hSw); go_simp; first | done | with_reducible rfl)
    try simp only [Act.put, List.setIfInBounds_toArray, List.set_cons_zero, List.set_cons_succ]
    refine wpAnyH_ready (rs := [11]) (by kernel_rfl) (by simp) (AllReadyH.cons (List.getElem?_toArray.trans rfl) (fun K hK => ?_) AllReadyH.nil)
    go_simp
    refine (addM_any C fl _ ?q1 (0) f hs hf).mono ?_
    case q1 => (repeat (first | exact HM.out | refine MarkAt.drew ?_ | refine MarkAt.alloc ?_ _))
    rintro e w5 ⟨rfl, n1, n2⟩
    have hn2 := n2.size
    have p6 : w5.cell? ⟨h, 6, none⟩ = some (.pointer (some ⟨C, 0, none⟩)) := (G_cell n2 (by simp; omega) hhC).trans (by simp [go_sem, e6, hh])
    have p7 : w5.cell? ⟨h, 7, none⟩ = some (.map (some m)) := (G_cell n2 (by simp; omega) hhC).trans (by simp [go_sem, e7, hh])
    have p0 : w5.cell? ⟨w.heap.size, 0, none⟩ = some (.int .i64 f.num) := (G_cell n2 (by simp; omega) (by omega)).trans (by simp [go_sem])
    have p1 : w5.cell? ⟨w.heap.size, 1, none⟩ = some (.int .i64 f.den) := (G_cell n2 (by simp; omega) (by omega)).trans (by simp [go_sem])
    have p2 : w5.cell? ⟨w.heap.size + 1, 0, none⟩ = some (.int .i64 (0)) := (G_cell n2 (by simp) (by omega)).trans (by simp [go_sem])
    have p3 : w5.cell? ⟨w.heap.size + 1, 1, none⟩ = some (.int .i64 (1)) := (G_cell n2 (by simp) (by omega)).trans (by simp [go_sem])
    have hm5 : MapS w5 m ekS (fun v : Value => v) mm := (HMM.out.below (n := w.heap.size) Bw).grown n2 (by simpa using fun e => hCm e.symm)
    have HM5 := Lib.hid hm5
    have N1 := Lib.hid n1
    have N2 := Lib.hid n2
    clear n1 n2 hm5
    simp only [fracV]
    refine hK.out _ _ ?_ (fun hHeld => ?_)
    focus ((try dsimp only); refine ⟨?_, ?_, ?_, ?_, ?_, ?_⟩ <;> assumption)
    clear hK K
    try simp only [Act.put, List.setIfInBounds_toArray, List.set_cons_zero, List.set_cons_succ]
    refine wpAnyH_ready (rs := [12]) (by kernel_rfl) (by simp) (AllReadyH.cons (List.getElem?_toArray.trans rfl) (fun K hK => ?_) AllReadyH.nil)
    obtain ⟨w6, hrun, hm6, hg6, hs6⟩ := run_updateS mapSF HM5.out n (fracV (seenQ (0 + f)))
    refine step_update_run rfl _ _ _ rfl _ _ _ rfl rfl rfl w6 hrun ?_
    have hl5 : w.heap.size + 1 < w5.heap.size := by simp at hn2; omega
    have q6 : w6.cell? ⟨h, 6, none⟩ = some (.pointer (some ⟨C, 0, none⟩)) := (G_cell hg6 (by omega) hhm).trans p6
    have q7 : w6.cell? ⟨h, 7, none⟩ = some (.map (some m)) := (G_cell hg6 (by omega) hhm).trans p7
    have q0 : w6.cell? ⟨w.heap.size, 0, none⟩ = some (.int .i64 f.num) := (G_cell hg6 (by omega) (by omega)).trans p0
    have q1 : w6.cell? ⟨w.heap.size, 1, none⟩ = some (.int .i64 f.den) := (G_cell hg6 (by omega) (by omega)).trans p1
    have q2 : w6.cell? ⟨w.heap.size + 1, 0, none⟩ = some (.int .i64 (0)) := (G_cell hg6 (by omega) (by omega)).trans p2
    have q3 : w6.cell? ⟨w.heap.size + 1, 1, none⟩ = some (.int .i64 (1)) := (G_cell hg6 (by omega) (by omega)).trans p3
    have HM6 := Lib.hid hm6
    have HG6 := Lib.hid hg6
    clear hm6 hg6
    refine hK.out _ _ ?_ (fun hHeld => ?_)
    focus ((try dsimp only); refine ⟨?_, ?_, ?_, ?_, ?_, ?_⟩ <;> assumption)
    clear hK K
    try simp only [Act.put, List.setIfInBounds_toArray, List.set_cons_zero, List.set_cons_succ]
    refine wpAnyH_done (by kernel_rfl) ?_ _
    go_wp2_with fail
    go_end0
    refine ⟨rfl, ⟨_, HM6.out, (mput_keys _ _ _ HND.out).1, fun k => ?_⟩, ?_, ?_⟩
    · show _ ∨ mget eqS k (mput eqS n _ mm) = some (fracV (shareP (setP out n (seenQ (shareP out n + f))) k))
      rw [mget_mput, share_set HG.out, HSV.out]
      cases hk : sameB k n
      · simp only [Bool.false_eq_true, if_false]
        show _ ∨ _
        rcases HGT.out k with ⟨a1, a2⟩ | a
        · refine .inl ⟨a1, ?_⟩
          show shareP (setP out n (seenQ (shareP out n + f))) k = 0
          rw [share_set HG.out, hk]
          exact a2
        · exact .inr a
      · exact .inr rfl
    · show MarkAt w6 C (fl || bigQ (shareP out n + f))
      rw [HSV.out]
      exact N1.out.grown HG6.out hCm
    · exact (Two2.of_below Bw).trans ((Two2.grownC N2.out).trans (Two2.grownM HG6.out))
 · rw [h0] at hlk
   simp only [Option.getD_some, Option.isSome_some, fracV] at hlk
   clear h0
   go_upto_region 4 with fail
   refine wp_region_held_drew (S := (fun w' => w'.cell? ⟨h, 6, none⟩ = some (.pointer (some ⟨C, 0, none⟩)) ∧ w'.cell? ⟨h, 7, none⟩ = some (.map (some m)) ∧ w'.cell? ⟨w.heap.size, 0, none⟩ = some (.int .i64 f.num) ∧ w'.cell? ⟨w.heap.size, 1, none⟩ = some (.int .i64 f.den) ∧ w'.cell? ⟨w.heap.size + 1, 0, none⟩ = some (.int .i64 (sv.num)) ∧ w'.cell? ⟨w.heap.size + 1, 1, none⟩ = some (.int .i64 (sv.den)))) (by kernel_rfl) ?hS ?hrest
   case hS => ((try dsimp only); refine ⟨?_, ?_, ?_, ?_, ?_, ?_⟩ <;> (simp [go_sem, e6, e7, hh]; done))
   case hrest =>
    intro hHeld
    refine wpAnyH_take (i := 0) (v := ?_) (List.getElem?_toArray.trans rfl) (by kernel_rfl) (by kernel_rfl) (by kernel_rfl) (fun _ _ _ h => h) (Or.inl ⟨by rfl, ?_⟩) (by assumption) ?_
    rotate_left 1
    focus (intro w hSw; (try dsimp only at hSw); go_simp; first | done | with_reducible rfl)
    try simp only [Act.put, List.setIfInBounds_toArray, List.set_cons_zero, List.set_cons_succ]
    refine wpAnyH_take (i := 1) (v := ?_) (List.getElem?_toArray.trans rfl) (by kernel_rfl) (by kernel_rfl) (by kernel_rfl) (fun _ _ _ h => h) (Or.inl ⟨by rfl, ?_⟩) (by assumption) ?_
    rotate_left 1
    focus (intro w hSw; (try dsimp only at hSw); go_simp; first | done | with_reducible rfl)
    try simp only [Act.put, List.setIfInBounds_toArray, List.set_cons_zero, List.set_cons_succ]
    refine wpAnyH_take (i := 2) (v := ?_) (List.getElem?_toArray.trans rfl) (by kernel_rfl) (by kernel_rfl) (by kernel_rfl) (fun _ _ _ h => h) (Or.inl ⟨by rfl, ?_⟩) (by assumption) ?_
    rotate_left 1
    focus (intro w hSw; (try dsimp only at hSw); go_simp; first | done | with_reducible rfl)
    try simp only [Act.put, List.setIfInBounds_toArray, List.set_cons_zero, List.set_cons_succ]
    refine wpAnyH_take (i := 3) (v := ?_) (List.getElem?_toArray.trans rfl) (by kernel_rfl) (by kernel_rfl) (by kernel_rfl) (fun _ _ _ h => h) (Or.inl ⟨by rfl, ?_⟩) (by assumption) ?_
    rotate_left 1
    focus (intro w hSw; (try dsimp only at hSw); go_simp; first | done | with_reducible rfl)
    try simp only [Act.put, List.setIfInBounds_toArray, List.set_cons_zero, List.set_cons_succ]
    refine wpAnyH_take (i := 4) (v := ?_) (List.getElem?_toArray.trans rfl) (by kernel_rfl) (by kernel_rfl) (by kernel_rfl) (fun _ _ _ h => h) (Or.inl ⟨by rfl, ?_⟩) (by assumption) ?_
    rotate_left 1
    focus (intro w hSw; (try dsimp only at hSw); go_simp; first | done | with_reducible rfl)
    try simp only [Act.put, List.setIfInBounds_toArray, List.set_cons_zero, List.set_cons_succ]
    refine wpAnyH_take (i := 5) (v := ?_) (List.getElem?_toArray.trans rfl) (by kernel_rfl) (by kernel_rfl) (by kernel_rfl) (fun _ _ _ h => h) (Or.inl ⟨by rfl, ?_⟩) (by assumption) ?_
    rotate_left 1
    focus (intro w hSw; (try dsimp only at hSw); go_simp; first | done | with_reducible rfl)
    try simp only [Act.put, List.setIfInBounds_toArray, List.set_cons_zero, List.set_cons_succ]
    refine wpAnyH_take (i := 6) (v := ?_) (List.getElem?_toArray.trans rfl) (by kernel_rfl) (by kernel_rfl) (by kernel_rfl) (fun _ _ _ h => h) (Or.inl ⟨by rfl, ?_⟩) (by assumption) ?_
    rotate_left 1
    focus (intro w hSw; (try dsimp only at hSw); go_simp; first | done | with_reducible rfl)
    try simp only [Act.put, List.setIfInBounds_toArray, List.set_cons_zero, List.set_cons_succ]
    refine wpAnyH_take (i := 7) (v := ?_) (List.getElem?_toArray.trans rfl) (by kernel_rfl) (by kernel_rfl) (by kernel_rfl) (fun _ _ _ h => h) (Or.inl ⟨by rfl, ?_⟩) (by assumption) ?_
    rotate_left 1
    focus (intro w hSw; (try dsimp only at hSw); go_simp; first | done | with_reducible rfl)
    try simp only [Act.put, List.setIfInBounds_toArray, List.set_cons_zero, List.set_cons_succ]
    refine wpAnyH_take (i := 8) (v := ?_) (List.getElem?_toArray.trans rfl) (by kernel_rfl) (by kernel_rfl) (by kernel_rfl) (fun _ _ _ h => h) (Or.inl ⟨by rfl, ?_⟩) (by assumption) ?_
    rotate_left 1
    focus (intro w hSw; (try dsimp only at hSw); go_simp; first | done | with_reducible rfl)
    try simp only [Act.put, List.setIfInBounds_toArray, List.set_cons_zero, List.set_cons_succ]
    refine wpAnyH_take (i := 9) (v := ?_) (List.getElem?_toArray.trans rfl) (by kernel_rfl) (by kernel_rfl) (by kernel_rfl) (fun _ _ _ h => h) (Or.inl ⟨by rfl, ?_⟩) (by assumption) ?_
    rotate_left 1
    focus (intro w hSw; (try dsimp only at hSw); go_simp; first | done | with_reducible rfl)
    try simp only [Act.put, List.setIfInBounds_toArray, List.set_cons_zero, List.set_cons_succ]
    refine wpAnyH_take (i := 10) (v := ?_) (List.getElem?_toArray.trans rfl) (by kernel_rfl) (by kernel_rfl) (by kernel_rfl) (fun _ _ _ h => h) (Or.inl ⟨by rfl, ?_⟩) (by assumption) ?_
    rotate_left 1
    focus (intro w hSw; (try dsimp only at hSw); go_simp; first | done | with_reducible rfl)
    try simp only [Act.put, List.setIfInBounds_toArray, List.set_cons_zero, List.set_cons_succ]
    refine wpAnyH_ready (rs := [11]) (by kernel_rfl) (by simp) (AllReadyH.cons (List.getElem?_toArray.trans rfl) (fun K hK => ?_) AllReadyH.nil)
    go_simp
    refine (addM_any C fl _ ?q1 (sv) f hs hf).mono ?_
    case q1 => (repeat (first | exact HM.out | refine MarkAt.drew ?_ | refine MarkAt.alloc ?_ _))
    rintro e w5 ⟨rfl, n1, n2⟩
    have hn2 := n2.size
    have p6 : w5.cell? ⟨h, 6, none⟩ = some (.pointer (some ⟨C, 0, none⟩)) := (G_cell n2 (by simp; omega) hhC).trans (by simp [go_sem, e6, hh])
    have p7 : w5.cell? ⟨h, 7, none⟩ = some (.map (some m)) := (G_cell n2 (by simp; omega) hhC).trans (by simp [go_sem, e7, hh])
    have p0 : w5.cell? ⟨w.heap.size, 0, none⟩ = some (.int .i64 f.num) := (G_cell n2 (by simp; omega) (by omega)).trans (by simp [go_sem])
    have p1 : w5.cell? ⟨w.heap.size, 1, none⟩ = some (.int .i64 f.den) := (G_cell n2 (by simp; omega) (by omega)).trans (by simp [go_sem])
    have p2 : w5.cell? ⟨w.heap.size + 1, 0, none⟩ = some (.int .i64 (sv.num)) := (G_cell n2 (by simp) (by omega)).trans (by simp [go_sem])
    have p3 : w5.cell? ⟨w.heap.size + 1, 1, none⟩ = some (.int .i64 (sv.den)) := (G_cell n2 (by simp) (by omega)).trans (by simp [go_sem])
    have hm5 : MapS w5 m ekS (fun v : Value => v) mm := (HMM.out.below (n := w.heap.size) Bw).grown n2 (by simpa using fun e => hCm e.symm)
    have HM5 := Lib.hid hm5
    have N1 := Lib.hid n1
    have N2 := Lib.hid n2
    clear n1 n2 hm5
    simp only [fracV]
    refine hK.out _ _ ?_ (fun hHeld => ?_)
    focus ((try dsimp only); refine ⟨?_, ?_, ?_, ?_, ?_, ?_⟩ <;> assumption)
    clear hK K
    try simp only [Act.put, List.setIfInBounds_toArray, List.set_cons_zero, List.set_cons_succ]
    refine wpAnyH_ready (rs := [12]) (by kernel_rfl) (by simp) (AllReadyH.cons (List.getElem?_toArray.trans rfl) (fun K hK => ?_) AllReadyH.nil)
    obtain ⟨w6, hrun, hm6, hg6, hs6⟩ := run_updateS mapSF HM5.out n (fracV (seenQ (sv + f)))
    refine step_update_run rfl _ _ _ rfl _ _ _ rfl rfl rfl w6 hrun ?_
    have hl5 : w.heap.size + 1 < w5.heap.size := by simp at hn2; omega
    have q6 : w6.cell? ⟨h, 6, none⟩ = some (.pointer (some ⟨C, 0, none⟩)) := (G_cell hg6 (by omega) hhm).trans p6
    have q7 : w6.cell? ⟨h, 7, none⟩ = some (.map (some m)) := (G_cell hg6 (by omega) hhm).trans p7
    have q0 : w6.cell? ⟨w.heap.size, 0, none⟩ = some (.int .i64 f.num) := (G_cell hg6 (by omega) (by omega)).trans p0
    have q1 : w6.cell? ⟨w.heap.size, 1, none⟩ = some (.int .i64 f.den) := (G_cell hg6 (by omega) (by omega)).trans p1
    have q2 : w6.cell? ⟨w.heap.size + 1, 0, none⟩ = some (.int .i64 (sv.num)) := (G_cell hg6 (by omega) (by omega)).trans p2
    have q3 : w6.cell? ⟨w.heap.size + 1, 1, none⟩ = some (.int .i64 (sv.den)) := (G_cell hg6 (by omega) (by omega)).trans p3
    have HM6 := Lib.hid hm6
    have HG6 := Lib.hid hg6
    clear hm6 hg6
    refine hK.out _ _ ?_ (fun hHeld => ?_)
    focus ((try dsimp only); refine ⟨?_, ?_, ?_, ?_, ?_, ?_⟩ <;> assumption)
    clear hK K
    try simp only [Act.put, List.setIfInBounds_toArray, List.set_cons_zero, List.set_cons_succ]
    refine wpAnyH_done (by kernel_rfl) ?_ _
    go_wp2_with fail
    go_end0
    refine ⟨rfl, ⟨_, HM6.out, (mput_keys _ _ _ HND.out).1, fun k => ?_⟩, ?_, ?_⟩
    · show _ ∨ mget eqS k (mput eqS n _ mm) = some (fracV (shareP (setP out n (seenQ (shareP out n + f))) k))
      rw [mget_mput, share_set HG.out, HSV.out]
      cases hk : sameB k n
      · simp only [Bool.false_eq_true, if_false]
        show _ ∨ _
        rcases HGT.out k with ⟨a1, a2⟩ | a
        · refine .inl ⟨a1, ?_⟩
          show shareP (setP out n (seenQ (shareP out n + f))) k = 0
          rw [share_set HG.out, hk]
          exact a2
        · exact .inr a
      · exact .inr rfl
    · show MarkAt w6 C (fl || bigQ (shareP out n + f))
      rw [HSV.out]
      exact N1.out.grown HG6.out hCm
    · exact (Two2.of_below Bw).trans ((Two2.grownC N2.out).trans (Two2.grownM HG6.out))
end Go.Proofs.YtkhkhnellekofaaGreatDoor
