/- Walk of chapter 5's lines of heirs. -/
import Derived.Test.YtmaidggpbihlgaaGreatDoorJO
import Derived.Test.YtmaidggpbihlgaaGreatDoorNH
set_option linter.unusedSimpArgs false
set_option linter.unusedVariables false
namespace Go.Proofs.YtmaidggpbihlgaaGreatDoor
open Go.RowKit Go.Shelf
attribute [local go_sem] World.cell?_alloc_mark ext_size ext_cell ext_frozen lt_add_r lt_add_r2 lt_add_r3 lt_add_r4 lt_add_r5 lt_add_r6 lt_add_r7 lt_add_r8
attribute [local go_sem] ext_setCell alloc_setCell_lt
def Law.vals (l:Law):List Value:=l.cells
def HeirAt (W:World) (h b:Nat) (law:Law) (who:ByteArray) (C m:Nat):Prop:=
 W.heap[h]?=some (.cells #[.pointer (some ⟨b,0,none⟩), .int .i64 law.frm, .bool law.stems, .int .i64 law.num, .int .i64 law.den, .string who, .pointer (some ⟨C,0,none⟩), .map (some m)] 132)
def ableQ (s:St) (n frm:ByteArray):Bool:=!sameB n frm&&!isDeadP s n&&!s.renounce.any (fun r=>sameB r.1 n&&sameB r.2 frm)
theorem able_q (s:St) (n frm:ByteArray):ableP s n frm=(!noB n&&ableQ s n frm):=by
 unfold ableP ableQ
 simp only[Bool.and_assoc]
set_option maxRecDepth 100000 in
set_option maxHeartbeats 2000000 in
theorem able_any (base b h C m:Nat) (s:St) (law:Law) (who n:ByteArray) (w:World) (hW:PeoAt base w b s) (hH:HeirAt w h b law who C m):
 Calls Tryz.prog 67 #[.pointer (some ⟨h,0,none⟩), .string n] w (Ret w (.bool (ableQ s n who))):=by
 obtain⟨B,d,c,p,wl,r,mv,tv,la,co,h1,h2⟩:=hW
 have hb:=blk_lt h1
 have hh:=blk_lt hH
 unfold WldC at h1
 unfold HeirAt at hH
 have c0:w.cell? ⟨b,0,none⟩=some (.map (some d)):=by simp only[World.cell?,h1];rfl
 have c5:w.cell? ⟨b,5,none⟩=some (.map (some r)):=by simp only[World.cell?,h1];rfl
 have e0:w.cell? ⟨h,0,none⟩=some (.pointer (some ⟨b,0,none⟩)):=by simp only[World.cell?,hH];rfl
 have e5:w.cell? ⟨h,5,none⟩=some (.string who):=by simp only[World.cell?,hH];rfl
 have hlk1: ∀q',(Instr.lookup 87 (.map (some d)) (.string n) false).run Tryz.prog (w.drewN q')= .ok (.bool (isDeadP s n)) (w.drewN q'):=fun q'=>look_dead (h2.drewN q') _
 have hlk2: ∀q',(Instr.lookup 90 (.map (some r)) (.agg #[.string n, .string who]) false).run Tryz.prog (w.drewN q')= .ok (.bool (s.renounce.any fun x=>sameB x.1 n&&sameB x.2 who)) (w.drewN q'):=fun q'=>look_ren (h2.drewN q') _ _
 have hU:ableQ s n who=(!sameB n who&&!isDeadP s n&&!(s.renounce.any fun x=>sameB x.1 n&&sameB x.2 who)):=rfl
 have HU:=Lib.hid hU
 clear hU
 generalize ableQ s n who=R at*
 generalize isDeadP s n=dd at*
 generalize(s.renounce.any fun x=>sameB x.1 n&&sameB x.2 who)=rr at*
 have hsm:sameB n who=(n.toList==who.toList):=rfl
 rw[hsm]at HU
 clear h1 h2 hH hsm
 go_enter Tryz.func67,Tryz.ntmps67
 cases hn:(n.toList==who.toList)
 ·have hn2:(n.toList != who.toList)=true:=by rw[bne,hn];rfl
  rw[hn]at HU
  cases dd
  ·go_wp2_with fail
   go_quiet (fail)
   go_wp2_with fail
   go_ret
   exact Ret.of (bool_eq (by rw[HU.out];simp)) Bw
  ·go_wp2_with fail
   go_quiet (fail)
   go_wp2_with fail
   go_ret
   exact Ret.of (bool_eq (by rw[HU.out];simp)) Bw
 ·have hn2:(n.toList != who.toList)=false:=by rw[bne,hn];rfl
  rw[hn]at HU
  go_wp2_with fail
  go_quiet (fail)
  go_wp2_with fail
  go_ret
  exact Ret.of (bool_eq (by rw[HU.out];simp)) Bw
def HasAt (W:World) (m:Nat) (out:Parts):Prop:=
 ∃mm:List (ByteArray×Value),MapS W m ekS (fun v:Value=>v) mm/\(mm.map (·.1)).Nodup/\ ∀n,(mget eqS n mm=none/\shareP out n=0)\/mget eqS n mm=some (fracV (shareP out n))
theorem HasAt.keep {n m:Nat} {W W':World} {out:Parts} (h:HasAt W m out) (hB:Below n W W') (hn:W.heap.size<=n:=by first|exact Nat.le_refl _|omega):HasAt W' m out:=by
 obtain⟨mm,h1,h2,h3⟩:=h
 exact⟨mm,h1.below hB hn,h2,h3⟩
theorem HasAt.block {m:Nat} {W W':World} {out:Parts} (h:HasAt W m out) (hb:W'.heap[m]?=W.heap[m]?):HasAt W' m out:=by
 obtain⟨mm,h1,h2,h3⟩:=h
 exact⟨mm,h1.keep hb,h2,h3⟩
theorem HasAt.lt {m:Nat} {W:World} {out:Parts} (h:HasAt W m out):m<W.heap.size:=by
 obtain⟨mm,h1,h2,h3⟩:=h
 exact h1.at.lt
structure Two2 (w w':World) (C m:Nat):Prop where
 below: ∀n,n<=C->n<=m->n<=w.heap.size->Below n w w'
 others: ∀k,k<w.heap.size->k≠C->k≠m->w'.heap[k]?=w.heap[k]?
 size:w.heap.size<=w'.heap.size
theorem Two2.of_below {w w':World} {C m:Nat} (h:Below w.heap.size w w'):Two2 w w' C m:=⟨fun n _ _ hn=>h.mono hn,fun k hk _ _=>h.block k hk,h.size⟩
theorem Two2.trans {a b c:World} {C m:Nat} (h:Two2 a b C m) (k:Two2 b c C m):Two2 a c C m:=
 ⟨fun n h1 h2 h3=>(h.below n h1 h2 h3).trans (k.below n h1 h2 (Nat.le_trans h3 h.size)),fun i hi h1 h2=>(k.others i (Nat.lt_of_lt_of_le hi h.size) h1 h2).trans (h.others i hi h1 h2),Nat.le_trans h.size k.size⟩
theorem Two2.grownC {w w':World} {C m:Nat} (h:w.grownBy w' (some C)):Two2 w w' C m:=
 ⟨fun n h1 _ hn=>grown_below (Below.refl _ _) h h1 hn,fun k hk h1 _=>h.block k hk (fun e=>h1 (by simpa using e)),h.size⟩
theorem Two2.grownM {w w':World} {C m:Nat} (h:w.grownBy w' (some m)):Two2 w w' C m:=
 ⟨fun n _ h1 hn=>grown_below (Below.refl _ _) h h1 hn,fun k hk _ h1=>h.block k hk (fun e=>h1 (by simpa using e)),h.size⟩
def GivesPost (w:World) (C m:Nat) (x:Parts×Bool) (e:Ending) (w':World):Prop:=e= .returned (.tuple #[])/\HasAt w' m x.1/\MarkAt w' C x.2/\Two2 w w' C m
theorem step_update_run {P:Program} {ops:Array Oper} {o:Oper} {a:Act} {w:World} {K:Act->World->Prop} {Q:Exit->Act->World->Prop} {E:Prop} {T:TypeId} (hgd:o.guard=none) (x i u:Operand) (ho:o.op= .mapUpdate T x i u) (vx vi vu:Value) (hx:a.eval x=vx) (hi:a.eval i=vi) (hu:a.eval u=vu) (w':World)
 (hrun:(Instr.mapUpdate T vx vi vu).run P w= .ok () w') (h:K (a.put o.dst undef) w'):if Region.wanted o (yielded ops a.tmps)=true then Oper.wp P o a w K Q else E:=by
 have hw:Region.wanted o (yielded ops a.tmps)=true:=by simp[Region.wanted,hgd]
 rw[if_pos hw]
 unfold Oper.wp
 simp[execOp,ho,hx,hi,hu,hrun,Result.andThen]
 exact h
set_option maxRecDepth 100000 in
set_option maxHeartbeats 2000000 in
theorem gives_any (b h C m:Nat) (law:Law) (who n:ByteArray) (f:Rat) (out:Parts) (fl:Bool) (w:World) (hH:HeirAt w h b law who C m) (hM:MarkAt w C fl) (hS:HasAt w m out) (hhC:h≠C) (hhm:h≠m) (hCm:C≠m) (hg:GoodParts out) (hs:small5 (shareP out n)) (hf:small5 f):
 Calls Tryz.prog 68 #[.pointer (some ⟨h,0,none⟩), .string n, .agg #[.int .i64 f.num, .int .i64 f.den]] w (GivesPost w C m (givesF n f (out,fl))):=by
 have hh:=blk_lt hH
 have hCl:=blk_lt hM
 have hml:=hS.lt
 obtain⟨mm,hmm,hnd,hget⟩:=hS
 unfold HeirAt at hH
 have e6:w.cell? ⟨h,6,none⟩=some (.pointer (some ⟨C,0,none⟩)):=by simp only[World.cell?,hH];rfl
 have e7:w.cell? ⟨h,7,none⟩=some (.map (some m)):=by simp only[World.cell?,hH];rfl
 have HG:=Lib.hid hg
 have HGT:=Lib.hid hget
 have HND:=Lib.hid hnd
 have HM:=Lib.hid hM
 have HMM:=Lib.hid hmm
 have hhn:h≠w.heap.size:=by omega
 have hhn1:h≠w.heap.size+1:=by omega
 generalize hsv:shareP out n=sv at*
 have HSV:=Lib.hid hsv
 have hlk: ∀o,(Instr.lookup 130 (.map (some m)) (.string n) true).run Tryz.prog (w.alloc o)= .ok (.tuple #[(mget eqS n mm).getD (.agg #[.int .i64 0, .int .i64 0]), .bool (mget eqS n mm).isSome]) (w.alloc o):=fun o=>run_lookup_ok mapSF (hmm.below (n:=w.heap.size) (B_alloc (Below.refl _ _) o)).at n
 have hcase:=hget n
 rw[hsv]at hcase
 have h0:(sv=0/\mget eqS n mm=none)\/mget eqS n mm=some (fracV sv):=by
  rcases hcase with⟨a,b⟩|a
  ·exact .inl ⟨b,a⟩
  ·exact .inr a
 clear hH hM hmm hnd hget hg hsv hcase
 go_enter Tryz.func68,Tryz.ntmps68
 rcases h0 with⟨rfl,h0⟩|h0
 ·rw[h0]at hlk
  simp only[Option.getD_none,Option.isSome_none]at hlk
  clear h0
  go_upto_region 4 with fail
  refine wp_region_held_drew (S:=(fun w'=>w'.cell? ⟨h,6,none⟩=some (.pointer (some ⟨C,0,none⟩))/\w'.cell? ⟨h,7,none⟩=some (.map (some m))/\w'.cell? ⟨w.heap.size,0,none⟩=some (.int .i64 f.num)/\w'.cell? ⟨w.heap.size,1,none⟩=some (.int .i64 f.den)/\w'.cell? ⟨w.heap.size+1,0,none⟩=some (.int .i64 (0))/\w'.cell? ⟨w.heap.size+1,1,none⟩=some (.int .i64 (1)))) (by kernel_rfl) ?hS ?hrest
  case hS=>((try dsimp only);refine⟨?_,?_,?_,?_,?_,?_⟩<;>(simp[go_sem,e6,e7,hh];done))
  case hrest=>
   intro hHeld
   refine TkH 0 ?_
   refine TkH 1 ?_
   refine TkH 2 ?_
   refine TkH 3 ?_
   refine TkH 4 ?_
   refine TkH 5 ?_
   refine TkH 6 ?_
   refine TkH 7 ?_
   refine TkH 8 ?_
   refine TkH 9 ?_
   refine TkH 10 ?_
   refine wpAnyH_ready (rs:=[11]) (by kernel_rfl) (by simp) (AllReadyH.cons (List.getElem?_toArray.trans rfl) (fun K hK=> ?_) AllReadyH.nil)
   go_simp
   refine(addM_any C fl _ ?q1 (0) f hs hf).mono ?_
   case q1=>(repeat(first|exact HM.out|refine MarkAt.drew ?_|refine MarkAt.alloc ?_ _))
   rintro e w5 ⟨rfl,n1,n2⟩
   have hn2:=n2.size
   have p6:w5.cell? ⟨h,6,none⟩=some (.pointer (some ⟨C,0,none⟩)):=(G_cell n2 (by simp;omega) hhC).trans (by simp[go_sem,e6,hh])
   have p7:w5.cell? ⟨h,7,none⟩=some (.map (some m)):=(G_cell n2 (by simp;omega) hhC).trans (by simp[go_sem,e7,hh])
   have p0:w5.cell? ⟨w.heap.size,0,none⟩=some (.int .i64 f.num):=(G_cell n2 (by simp;omega) (by omega)).trans (by simp[go_sem])
   have p1:w5.cell? ⟨w.heap.size,1,none⟩=some (.int .i64 f.den):=(G_cell n2 (by simp;omega) (by omega)).trans (by simp[go_sem])
   have p2:w5.cell? ⟨w.heap.size+1,0,none⟩=some (.int .i64 (0)):=(G_cell n2 (by simp) (by omega)).trans (by simp[go_sem])
   have p3:w5.cell? ⟨w.heap.size+1,1,none⟩=some (.int .i64 (1)):=(G_cell n2 (by simp) (by omega)).trans (by simp[go_sem])
   have hm5:MapS w5 m ekS (fun v:Value=>v) mm:=(HMM.out.below (n:=w.heap.size) Bw).grown n2 (by simpa using fun e=>hCm e.symm)
   have HM5:=Lib.hid hm5
   have N1:=Lib.hid n1
   have N2:=Lib.hid n2
   clear n1 n2 hm5
   simp only[fracV]
   refine hK.out _ _ ?_ (fun hHeld=> ?_)
   focus((try dsimp only);refine⟨?_,?_,?_,?_,?_,?_⟩<;>assumption)
   clear hK K
   try simp only[Act.put,List.setIfInBounds_toArray,List.set_cons_zero,List.set_cons_succ]
   refine wpAnyH_ready (rs:=[12]) (by kernel_rfl) (by simp) (AllReadyH.cons (List.getElem?_toArray.trans rfl) (fun K hK=> ?_) AllReadyH.nil)
   obtain⟨w6,hrun,hm6,hg6,hs6⟩:=run_updateS mapSF HM5.out n (fracV (seenQ (0+f)))
   refine step_update_run rfl _ _ _ rfl _ _ _ rfl rfl rfl w6 hrun ?_
   have hl5:w.heap.size+1<w5.heap.size:=by simp at hn2;omega
   have q6:w6.cell? ⟨h,6,none⟩=some (.pointer (some ⟨C,0,none⟩)):=(G_cell hg6 (by omega) hhm).trans p6
   have q7:w6.cell? ⟨h,7,none⟩=some (.map (some m)):=(G_cell hg6 (by omega) hhm).trans p7
   have q0:w6.cell? ⟨w.heap.size,0,none⟩=some (.int .i64 f.num):=(G_cell hg6 (by omega) (by omega)).trans p0
   have q1:w6.cell? ⟨w.heap.size,1,none⟩=some (.int .i64 f.den):=(G_cell hg6 (by omega) (by omega)).trans p1
   have q2:w6.cell? ⟨w.heap.size+1,0,none⟩=some (.int .i64 (0)):=(G_cell hg6 (by omega) (by omega)).trans p2
   have q3:w6.cell? ⟨w.heap.size+1,1,none⟩=some (.int .i64 (1)):=(G_cell hg6 (by omega) (by omega)).trans p3
   have HM6:=Lib.hid hm6
   have HG6:=Lib.hid hg6
   clear hm6 hg6
   refine hK.out _ _ ?_ (fun hHeld=> ?_)
   focus((try dsimp only);refine⟨?_,?_,?_,?_,?_,?_⟩<;>assumption)
   clear hK K
   try simp only[Act.put,List.setIfInBounds_toArray,List.set_cons_zero,List.set_cons_succ]
   refine wpAnyH_done (by kernel_rfl) ?_ _
   go_wp2_with fail
   go_end0
   refine⟨rfl,⟨_,HM6.out,(mput_keys _ _ _ HND.out).1,fun k=> ?_⟩,?_,?_⟩
   ·show _\/mget eqS k (mput eqS n _ mm)=some (fracV (shareP (setP out n (seenQ (shareP out n+f))) k))
    rw[mget_mput,share_set HG.out,HSV.out]
    cases hk:sameB k n
    ·simp only[Bool.false_eq_true,if_false]
     show _\/_
     rcases HGT.out k with⟨a1,a2⟩|a
     ·refine .inl ⟨a1,?_⟩
      show shareP (setP out n (seenQ (shareP out n+f))) k=0
      rw[share_set HG.out,hk]
      exact a2
     ·exact .inr a
    ·exact .inr rfl
   ·show MarkAt w6 C (fl||bigQ (shareP out n+f))
    rw[HSV.out]
    exact N1.out.grown HG6.out hCm
   ·exact(Two2.of_below Bw).trans ((Two2.grownC N2.out).trans (Two2.grownM HG6.out))
 ·rw[h0]at hlk
  simp only[Option.getD_some,Option.isSome_some,fracV]at hlk
  clear h0
  go_upto_region 4 with fail
  refine wp_region_held_drew (S:=(fun w'=>w'.cell? ⟨h,6,none⟩=some (.pointer (some ⟨C,0,none⟩))/\w'.cell? ⟨h,7,none⟩=some (.map (some m))/\w'.cell? ⟨w.heap.size,0,none⟩=some (.int .i64 f.num)/\w'.cell? ⟨w.heap.size,1,none⟩=some (.int .i64 f.den)/\w'.cell? ⟨w.heap.size+1,0,none⟩=some (.int .i64 (sv.num))/\w'.cell? ⟨w.heap.size+1,1,none⟩=some (.int .i64 (sv.den)))) (by kernel_rfl) ?hS ?hrest
  case hS=>((try dsimp only);refine⟨?_,?_,?_,?_,?_,?_⟩<;>(simp[go_sem,e6,e7,hh];done))
  case hrest=>
   intro hHeld
   refine TkH 0 ?_
   refine TkH 1 ?_
   refine TkH 2 ?_
   refine TkH 3 ?_
   refine TkH 4 ?_
   refine TkH 5 ?_
   refine TkH 6 ?_
   refine TkH 7 ?_
   refine TkH 8 ?_
   refine TkH 9 ?_
   refine TkH 10 ?_
   refine wpAnyH_ready (rs:=[11]) (by kernel_rfl) (by simp) (AllReadyH.cons (List.getElem?_toArray.trans rfl) (fun K hK=> ?_) AllReadyH.nil)
   go_simp
   refine(addM_any C fl _ ?q1 (sv) f hs hf).mono ?_
   case q1=>(repeat(first|exact HM.out|refine MarkAt.drew ?_|refine MarkAt.alloc ?_ _))
   rintro e w5 ⟨rfl,n1,n2⟩
   have hn2:=n2.size
   have p6:w5.cell? ⟨h,6,none⟩=some (.pointer (some ⟨C,0,none⟩)):=(G_cell n2 (by simp;omega) hhC).trans (by simp[go_sem,e6,hh])
   have p7:w5.cell? ⟨h,7,none⟩=some (.map (some m)):=(G_cell n2 (by simp;omega) hhC).trans (by simp[go_sem,e7,hh])
   have p0:w5.cell? ⟨w.heap.size,0,none⟩=some (.int .i64 f.num):=(G_cell n2 (by simp;omega) (by omega)).trans (by simp[go_sem])
   have p1:w5.cell? ⟨w.heap.size,1,none⟩=some (.int .i64 f.den):=(G_cell n2 (by simp;omega) (by omega)).trans (by simp[go_sem])
   have p2:w5.cell? ⟨w.heap.size+1,0,none⟩=some (.int .i64 (sv.num)):=(G_cell n2 (by simp) (by omega)).trans (by simp[go_sem])
   have p3:w5.cell? ⟨w.heap.size+1,1,none⟩=some (.int .i64 (sv.den)):=(G_cell n2 (by simp) (by omega)).trans (by simp[go_sem])
   have hm5:MapS w5 m ekS (fun v:Value=>v) mm:=(HMM.out.below (n:=w.heap.size) Bw).grown n2 (by simpa using fun e=>hCm e.symm)
   have HM5:=Lib.hid hm5
   have N1:=Lib.hid n1
   have N2:=Lib.hid n2
   clear n1 n2 hm5
   simp only[fracV]
   refine hK.out _ _ ?_ (fun hHeld=> ?_)
   focus((try dsimp only);refine⟨?_,?_,?_,?_,?_,?_⟩<;>assumption)
   clear hK K
   try simp only[Act.put,List.setIfInBounds_toArray,List.set_cons_zero,List.set_cons_succ]
   refine wpAnyH_ready (rs:=[12]) (by kernel_rfl) (by simp) (AllReadyH.cons (List.getElem?_toArray.trans rfl) (fun K hK=> ?_) AllReadyH.nil)
   obtain⟨w6,hrun,hm6,hg6,hs6⟩:=run_updateS mapSF HM5.out n (fracV (seenQ (sv+f)))
   refine step_update_run rfl _ _ _ rfl _ _ _ rfl rfl rfl w6 hrun ?_
   have hl5:w.heap.size+1<w5.heap.size:=by simp at hn2;omega
   have q6:w6.cell? ⟨h,6,none⟩=some (.pointer (some ⟨C,0,none⟩)):=(G_cell hg6 (by omega) hhm).trans p6
   have q7:w6.cell? ⟨h,7,none⟩=some (.map (some m)):=(G_cell hg6 (by omega) hhm).trans p7
   have q0:w6.cell? ⟨w.heap.size,0,none⟩=some (.int .i64 f.num):=(G_cell hg6 (by omega) (by omega)).trans p0
   have q1:w6.cell? ⟨w.heap.size,1,none⟩=some (.int .i64 f.den):=(G_cell hg6 (by omega) (by omega)).trans p1
   have q2:w6.cell? ⟨w.heap.size+1,0,none⟩=some (.int .i64 (sv.num)):=(G_cell hg6 (by omega) (by omega)).trans p2
   have q3:w6.cell? ⟨w.heap.size+1,1,none⟩=some (.int .i64 (sv.den)):=(G_cell hg6 (by omega) (by omega)).trans p3
   have HM6:=Lib.hid hm6
   have HG6:=Lib.hid hg6
   clear hm6 hg6
   refine hK.out _ _ ?_ (fun hHeld=> ?_)
   focus((try dsimp only);refine⟨?_,?_,?_,?_,?_,?_⟩<;>assumption)
   clear hK K
   try simp only[Act.put,List.setIfInBounds_toArray,List.set_cons_zero,List.set_cons_succ]
   refine wpAnyH_done (by kernel_rfl) ?_ _
   go_wp2_with fail
   go_end0
   refine⟨rfl,⟨_,HM6.out,(mput_keys _ _ _ HND.out).1,fun k=> ?_⟩,?_,?_⟩
   ·show _\/mget eqS k (mput eqS n _ mm)=some (fracV (shareP (setP out n (seenQ (shareP out n+f))) k))
    rw[mget_mput,share_set HG.out,HSV.out]
    cases hk:sameB k n
    ·simp only[Bool.false_eq_true,if_false]
     show _\/_
     rcases HGT.out k with⟨a1,a2⟩|a
     ·refine .inl ⟨a1,?_⟩
      show shareP (setP out n (seenQ (shareP out n+f))) k=0
      rw[share_set HG.out,hk]
      exact a2
     ·exact .inr a
    ·exact .inr rfl
   ·show MarkAt w6 C (fl||bigQ (shareP out n+f))
    rw[HSV.out]
    exact N1.out.grown HG6.out hCm
   ·exact(Two2.of_below Bw).trans ((Two2.grownC N2.out).trans (Two2.grownM HG6.out))
end Go.Proofs.YtmaidggpbihlgaaGreatDoor
namespace Go.Proofs.YtmaidggpbihlgaaGreatDoor
open Go.RowKit Go.Shelf
attribute [local go_sem] World.cell?_alloc_mark ext_size ext_cell ext_frozen lt_add_r lt_add_r2 lt_add_r3 lt_add_r4 lt_add_r5 lt_add_r6 lt_add_r7 lt_add_r8
attribute [local go_sem] ext_setCell alloc_setCell_lt
abbrev Ln:=ByteArray×Option Addr×Nat×Nat
def lnC (e:Ln):List Value:=[.string e.1, .slice e.2.1 e.2.2.1 e.2.2.2]
theorem ln_len (e:Ln):(lnC e).length=2:=rfl
theorem ln_one (e:Ln): ∀u∈lnC e,u.oneCell'=true:=by simp[lnC,Value.oneCell']
theorem elLine:ElTy Tryz.prog 134 167 2 40:=elTy_of (z:= .agg #[.string ⟨#[]⟩, .slice none 0 0]) (by kernel_rfl) (by kernel_rfl) rfl (by decide)
def ItemsN (W:World) (Q:Nat->Prop):Nat->List Ln->List Tree->Prop
 |0,es,l=>es=[]/\l=[]
 |f+1,es,l=>es.length=l.length/\ ∀(k:Nat) (e:Ln) (t:Tree),es[k]?=some e->l[k]?=some t->(∃n,t= .leaf n/\e=(n,none,0,0))\/
   ∃l' A c es',t= .node l'/\e=(⟨#[]⟩,some A,l'.length,c)/\l'.length<=c/\l'≠[]/\Q A.block/\Ro W 167 lnC (some A) es'/\ItemsN W Q f es' l'
theorem ItemsN.len {W:World} {Q:Nat->Prop} {f:Nat} {es:List Ln} {l:List Tree} (h:ItemsN W Q f es l):es.length=l.length:=by
 cases f with
 |zero=>rw[h.1,h.2];rfl
 |succ f=>exact h.1
theorem ItemsN.turn {W W':World} {Q Q':Nat->Prop} (hb: ∀k,k<W.heap.size->Q k->W'.heap[k]?=W.heap[k]?) (hq: ∀k,k<W.heap.size->Q k->Q' k): ∀ {f:Nat} {es:List Ln} {l:List Tree},ItemsN W Q f es l->ItemsN W' Q' f es l
 |0,_,_,h=>h
 |f+1,es,l,h=>⟨h.1,fun k e t h1 h2=>by
  rcases h.2 k e t h1 h2 with h3|⟨l',A,c,es',h3,h4,h5,h6,hQ,h7,h8⟩
  ·exact .inl h3
  ·have hpos:0<es'.length:=by
    rw[h8.len]
    exact List.length_pos_iff.2 h6
   obtain⟨b,off,cur,fr,hA,hbk,hx⟩:=h7 hpos
   have hA':A=⟨b,off,none⟩:=by simpa using hA
   subst hA'
   have hlt:b<W.heap.size:=(Array.getElem?_eq_some_iff.1 hbk).1
   exact .inr ⟨l',_,c,es',h3,h4,h5,h6,hq b hlt hQ,fun _=>⟨b,off,cur,fr,rfl,(hb b hlt hQ).trans hbk,hx⟩,ItemsN.turn hb hq h8⟩⟩
theorem ItemsN.keep {n:Nat} {W W':World} {Q:Nat->Prop} {f:Nat} {es:List Ln} {l:List Tree} (h:ItemsN W Q f es l) (hB:Below n W W') (hn:W.heap.size<=n:=by first|exact Nat.le_refl _|omega):ItemsN W' Q f es l:=
 h.turn (fun k hk _=>hB.block k (Nat.lt_of_lt_of_le hk hn)) (fun _ _ h=>h)
theorem ItemsN.snoc {W:World} {Q:Nat->Prop} {f:Nat} {es:List Ln} {l:List Tree} {e:Ln} {t:Tree} (h:ItemsN W Q (f+1) es l) (ht:(∃n,t= .leaf n/\e=(n,none,0,0))\/
 ∃l' A c es',t= .node l'/\e=(⟨#[]⟩,some A,l'.length,c)/\l'.length<=c/\l'≠[]/\Q A.block/\Ro W 167 lnC (some A) es'/\ItemsN W Q f es' l'):ItemsN W Q (f+1) (es++[e]) (l++[t]):=by
 refine⟨by simp[h.1],fun k x y h1 h2=> ?_⟩
 by_cases hk:k<es.length
 ·rw[List.getElem?_append_left hk]at h1
  rw[List.getElem?_append_left (by rw[<-h.1];exact hk)]at h2
  exact h.2 k x y h1 h2
 ·have hk1:k=es.length:=by have:=(List.getElem?_eq_some_iff.1 h1).1;simp at this;omega
  subst hk1
  rw[List.getElem?_append_right (Nat.le_refl _)]at h1
  rw[h.1,List.getElem?_append_right (Nat.le_refl _)]at h2
  simp at h1 h2
  subst h1 h2
  exact ht
def Deep (s:St):Nat->ByteArray->Prop
 |0,_=>False
 |f+1,n=> ∀c∈childrenP s n,Deep s f c
def lineOf (s:St) (stems:Bool) (frm:ByteArray) (f:Nat) (c:ByteArray):Option Tree:=
 if ableP s c frm then some (.leaf c)else if stems&&!(treesP s stems frm f c).isEmpty then some (.node (treesP s stems frm f c))else none
theorem trees_succ (s:St) (stems:Bool) (frm:ByteArray) (f:Nat) (n:ByteArray):treesP s stems frm (f+1) n=(childrenP s n).filterMap (lineOf s stems frm f):=rfl
theorem filterMap_snoc {α β:Type} (g:α->Option β) (l:List α) {k:Nat} (h:k<l.length):(l.take (k+1)).filterMap g=(l.take k).filterMap g++(g l[k]).toList:=by
 rw[List.take_succ_eq_append_getElem h,List.filterMap_append]
 cases hg:g l[k]<;>simp[List.filterMap,hg]
def LinesPost (w:World) (f:Nat) (l:List Tree) (e:Ending) (w':World):Prop:=
 ∃v es,e= .returned v/\OwnS w' w.heap.size 167 2 lnC v es/\ItemsN w' (fun k=>w.heap.size<=k) f es l/\Below w.heap.size w w'/\es.length<=1000
theorem sl_ln {w:World} {b:Nat} {e:Ln} {t:TypeId} {fr:Nat×Nat} (h:w.heap[b]?=some (.cells #[.string e.1, .slice e.2.1 e.2.2.1 e.2.2.2] t fr)):Sl w 2 lnC (some ⟨b,0,none⟩) [e]:=fun _=>⟨b,0,rfl,blk_lt h,fun k y hy j u hu=>by
 have hk:k=0:=by have:=(List.getElem?_eq_some_iff.1 hy).1;simp at this;omega
 subst hk
 simp only[List.getElem?_cons_zero,Option.some.injEq]at hy
 subst hy
 match j,hu with
 |0,hu=>simp[lnC]at hu;simp[World.cell?,h,<-hu]
 |1,hu=>simp[lnC]at hu;simp[World.cell?,h,<-hu]
 |j+2,hu=>simp[lnC]at hu⟩
theorem HeirAt.keep {n h b C m:Nat} {W W':World} {law:Law} {who:ByteArray} (hh:HeirAt W h b law who C m) (hB:Below n W W') (hn:W.heap.size<=n:=by first|exact Nat.le_refl _|omega):HeirAt W' h b law who C m:=
 (hB.block h (Nat.lt_of_lt_of_le (blk_lt hh) hn)).trans hh
set_option maxRecDepth 100000 in
set_option maxHeartbeats 4000000 in
theorem lines_any (base b h C m:Nat) (s:St) (law:Law) (who:ByteArray) (hkn: ∀c∈s.children,noB c.2=false) (hl:s.children.length<=1000): ∀(f:Nat) (n:ByteArray) (w:World),PeoAt base w b s->HeirAt w h b law who C m->Deep s f n->
 Calls Tryz.prog 70 #[.pointer (some ⟨h,0,none⟩), .string n] w (LinesPost w f (treesP s law.stems who f n))
 |0,n,w,_,_,hd=>hd.elim
 |f+1,n,w,hW,hH,hd=>by
  have IH:=Lib.hid (fun(c:ByteArray) (W:World) (hc:c∈childrenP s n) (h1:PeoAt base W b s) (h2:HeirAt W h b law who C m)=>lines_any base b h C m s law who hkn hl f c W h1 h2 (hd c hc))
  have HW:=Lib.hid hW
  have HH:=Lib.hid hH
  obtain⟨B,d,c,p,wl,r,mv,tv,la,co,h1,h2⟩:=hW
  have hb:=blk_lt h1
  have hh:=blk_lt hH
  unfold WldC at h1
  unfold HeirAt at hH
  have c1:w.cell? ⟨b,1,none⟩=some (.map (some c)):=by simp only[World.cell?,h1];rfl
  have e0:w.cell? ⟨h,0,none⟩=some (.pointer (some ⟨b,0,none⟩)):=by simp only[World.cell?,hH];rfl
  have e2:w.cell? ⟨h,2,none⟩=some (.bool law.stems):=by simp only[World.cell?,hH];rfl
  obtain⟨KA,kc,hlk,hkc,hKS⟩:=look_kids h2 n
  have hlk':=hlk w (Below.refl _ _)
  rw[trees_succ]
  have hkl:(childrenP s n).length<=1000:=by
   have:(childrenP s n).length<=s.children.length:=by unfold childrenP;rw[List.length_map];exact List.length_filter_le _ _
   omega
  have HNB:=Lib.hid (fun c (hc:c∈childrenP s n)=>hkn (n,c) (mem_children.1 hc))
  have HKS:=Lib.hid hKS
  generalize hks:childrenP s n=ks at*
  clear h1 h2 hH hlk hKS hd hks
  go_enter Tryz.func70,Tryz.ntmps70
  go_wp2_with fail
  go_loopw [5,19] (fun v i wr=> ∃(k:Nat) (es:List Ln),k<=ks.length/\i= .int .i64 k/\OwnS wr w.heap.size 167 2 lnC v es/\Hid (ItemsN wr (fun j=>w.heap.size<=j/\blkOf v≠some j) (f+1) es ((ks.take k).filterMap (lineOf s law.stems who f)))/\Below w.heap.size w wr/\es.length<=k) (fun _ i _=>ks.length-(intOf i).toNat)
  case atStart=>exact⟨0,[],Nat.zero_le _,rfl,OwnS.nil,⟨rfl,fun k e t h1=>by simp at h1⟩,Below.refl _ _,Nat.le_refl _⟩
  case round=>
   obtain⟨k,es,hk,rfl,hown,HI,hB,hel⟩:=hrel
   obtain⟨VA,vc,rfl,hVS,hvc⟩:=hown.sl ln_len
   clear hVS
   have HO:=Lib.hid hown
   by_cases hlt:k<ks.length
   ·obtain⟨b',off,rfl,hb',hc⟩:=(HKS.out.keep hB).at hlt
    have hfm:=filterMap_snoc (lineOf s law.stems who f) ks hlt
    have hmem:ks[k]∈ks:=List.getElem_mem hlt
    have hnb:=HNB.out ks[k] hmem
    have hcall:=fun W=>IH.out ks[k] W hmem
    generalize ks[k]=ch at*
    have i0:wr.cell? ⟨b',off+k,none⟩=some (.string ch):=by have:=hc 0 _ rfl;simpa using this
    have HF:=Lib.hid hfm
    have HC:=Lib.hid hcall
    have hab:lineOf s law.stems who f ch=if ableQ s ch who then some (.leaf ch)else if law.stems&&!(treesP s law.stems who f ch).isEmpty then some (.node (treesP s law.stems who f ch))else none:=by
     unfold lineOf
     rw[able_q,hnb]
     simp
    have HAB:=Lib.hid hab
    have hki:(k:Int)<(ks.length:Int):=by omega
    have hk0:(0:Int)<=(k:Int):=by omega
    have hkc2:(k:Int)<=(kc:Int):=by omega
    have E2:wr.cell? ⟨h,2,none⟩=some (.bool law.stems):=(B_cell hB hh).trans e2
    have hhr:h<wr.heap.size:=Nat.lt_of_lt_of_le hh hB.size
    have HPW:=Lib.hid (HW.out.keep (n:=w.heap.size) hB)
    have HHW:=Lib.hid (HH.out.keep (n:=w.heap.size) hB)
    have HBB:=Lib.hid hB
    clear hc hfm hmem hnb hcall hab hown
    have HABL:=Lib.hid (fun W (hW':Below wr.heap.size wr W)=>able_any base b h C m s law who ch W (HPW.out.keep hW') (HHW.out.keep hW'))
    generalize ableQ s ch who=ab at*
    have hbs:=hB.size
    have HEL:=Lib.hid hel
    clear hB hel
    cases ab
    ·go_upto_region 8 with(first
      |(go_at_call 67;refine(HABL.out _ Bw).mono ?_;rintro e wq ⟨rfl,z,rfl⟩)
      |(go_at_call 70
        refine(HC.out _ (HPW.out.keep (n:=wr.heap.size) Bw) (HHW.out.keep (n:=wr.heap.size) Bw)).mono ?_
        rintro e wq ⟨v2,es2,rfl,o1,o2,o3,o4⟩
        obtain⟨A2,c2,rfl,_,hc2⟩:=o1.sl ln_len))
     have E2q:wq.cell? ⟨h,2,none⟩=some (.bool law.stems):=(B_cell o3 (by simp[ext_size];omega)).trans ((ext_cell _ _ _ _ hhr).trans E2)
     have hws:=o3.size
     simp only[ext_size]at hws
     have hhq:h<wq.heap.size:=by omega
     have O2L:=Lib.hid o2.len
     have O1:=Lib.hid o1
     have O2:=Lib.hid o2
     have O3:=Lib.hid o3
     have hBq:Hid (Below wr.heap.size wr wq):=(below_ext wr z).trans (o3.mono (by simp[ext_size]))
     clear o1 o2 o3
     have HAB2:=HAB.out
     simp only[Bool.false_eq_true,if_false]at HAB2
     generalize hst:law.stems=st at*
     by_cases hcond:st=true/\es2.length≠0
     ·obtain⟨rfl,hne⟩:=hcond
      have hnm:(treesP s true who f ch).isEmpty=false:=by
       cases ht:treesP s true who f ch with
       |nil=>have:=O2L.out;rw[ht]at this;simp at this;rw[this]at hne;simp at hne
       |cons x l=>rfl
      have hln2:lineOf s true who f ch=some (.node (treesP s true who f ch)):=by rw[HAB2,hnm];rfl
      have hA2: ∃ad,A2=some ad/\w.heap.size<=ad.block/\wr.heap.size<=ad.block/\ad.block<wq.heap.size:=by
       rcases O1.out with⟨e,h0⟩|⟨g,o,cap,cur,e,hg,hgw,_⟩
       ·rw[h0]at hne;simp at hne
       ·simp only[Value.slice.injEq]at e
        refine⟨⟨g,o,none⟩,e.1,?_,?_,blk_lt hgw⟩
        ·simp[ext_size]at hg;show _<=g;omega
        ·simp[ext_size]at hg;show _<=g;omega
      obtain⟨ad,rfl,had1,had2,had3⟩:=hA2
      have hgt:(0:Int)<(es2.length:Int):=by omega
      have HLN2:=Lib.hid hln2
      have HNM:=Lib.hid hnm
      clear hnm hln2 HAB2
      go_wp2_with (at_builtin
                   go_loud(refine wpList_append_S (v:= .slice VA es.length vc) (n:=es.length) (m:=1) rfl _ _ rfl elLine ln_len ln_one rfl (HO.out.keep (n:=wr.heap.size) (B_alloc hBq.out _)) rfl rfl rfl (sl_ln (e:=(⟨#[]⟩,some ad,es2.length,c2)) (J_new _ _ _ rfl)) (by have:=HEL.out;simp[maxLen];omega) (by have:=HEL.out;omega) (by simp;omega) ?_)
                   intro v3 w3 h1 h2 h3)
      have hI1:ItemsN w3 (fun j=>w.heap.size<=j/\blkOf v3≠some j) (f+1) es ((ks.take k).filterMap (lineOf s true who f)):=by
       refine ItemsN.turn ?_ ?_ ((HI.out.keep (n:=wr.heap.size) hBq.out).keep (n:=wq.heap.size) (B_alloc (Below.refl _ _) (.cells #[.string ⟨#[]⟩, .slice (some ad) es2.length c2] 167)))
       ·exact fun j hj hQ=>h2.block j hj (fun e=>hQ.2 e.symm)
       ·refine fun j hj hQ=>⟨hQ.1,fun e=> ?_⟩
        rcases h3 j e with h|h
        ·exact hQ.2 h
        ·omega
      have hva: ∀j,wr.heap.size<=j->blkOf (.slice VA es.length vc)≠some j:=fun j hj e=>by have:=(HO.out.ge j e).2;omega
      have hvb: ∀j,wr.heap.size<=j->j<wq.heap.size->blkOf v3≠some j:=fun j hj hj2 e=>by
       rcases h3 j e with h|h
       ·exact hva j hj h
       ·simp at h;omega
      have hro2:Ro w3 167 lnC (some ad) es2:=by
       intro hl2
       obtain⟨b2,off2,cur2,fr2,hA2',hg2,hx2⟩:=O1.out.ro' hl2
       have hb2:ad.block=b2:=by simp only[Option.some.injEq]at hA2';rw[hA2']
       have hb2l:=(Array.getElem?_eq_some_iff.1 hg2).1
       refine⟨b2,off2,cur2,fr2,hA2',?_,hx2⟩
       rw[h2.block b2 (by simp;omega) (fun e=>hva b2 (by omega) e.symm)]
       exact(Below.heap_alloc wq _ b2 hb2l).trans hg2
      have hI3:ItemsN w3 (fun j=>w.heap.size<=j/\blkOf v3≠some j) f es2 (treesP s true who f ch):=by
       refine ItemsN.turn ?_ ?_ (O2.out.keep (n:=wq.heap.size) (B_alloc (Below.refl _ _) (.cells #[.string ⟨#[]⟩, .slice (some ad) es2.length c2] 167)))
       ·exact fun j hj hQ=>h2.block j hj (fun e=>hva j (by simp[ext_size]at hQ;omega) e.symm)
       ·exact fun j hj hQ=>⟨by simp[ext_size]at hQ;omega,fun e=>(h3 j e).elim (hva j (by simp[ext_size]at hQ;omega)) (fun h=>by simp at h hj;omega)⟩
      have hI2:=hI1.snoc (e:=(⟨#[]⟩,some ad,es2.length,c2)) (t:= .node (treesP s true who f ch)) (.inr ⟨_,ad,c2,es2,rfl,by rw[O2L.out],by rw[<-O2L.out];exact hc2,(by intro e;have:=HNM.out;rw[e]at this;cases this),⟨had1,hvb _ had2 had3⟩,hro2,hI3⟩)
      have hB3:Below w.heap.size w w3:=Below.grown (a:=w) (B:=w.heap.size) (B_alloc (HBB.out.trans (hBq.out.mono (by omega))) (.cells #[.string ⟨#[]⟩, .slice (some ad) es2.length c2] 167)) h2 (by simp;omega) (fun j hj=>(HO.out.ge j hj).1)
      have hFF:=HF.out
      rw[HLN2.out]at hFF
      have HFF:=Lib.hid hFF
      have HI2:=Lib.hid hI2
      have HB3:=Lib.hid hB3
      have H1:=Lib.hid h1
      clear hI1 hI2 hI3 hB3 hro2 hva hvb hFF h1 h2 h3
      go_wp2_with fail
      go_round
      case rel=>exact⟨k+1,es++[(⟨#[]⟩,some ad,es2.length,c2)],by omega,by go_num,H1.out,by rw[hst,HFF.out];exact HI2.out,HB3.out,by have:=HEL.out;simp;omega⟩
      case measure=>simp[intOf];omega
     ·have hln2:lineOf s st who f ch=none:=by
       rw[HAB2]
       cases hs2:st
       ·rfl
       ·have he2:es2.length=0:=Classical.byContradiction fun h=>hcond ⟨hs2,h⟩
        have ht2:treesP s true who f ch=[]:=List.eq_nil_of_length_eq_zero (by have:=O2L.out;rw[hs2]at this;omega)
        rw[ht2];rfl
      have hFF:=HF.out
      rw[hln2]at hFF
      have HFF:=Lib.hid hFF
      have HCO:=Lib.hid hcond
      have hB3:Below w.heap.size w wq:=HBB.out.trans (hBq.out.mono (by omega))
      have HB3:=Lib.hid hB3
      have HO3:=Lib.hid (HO.out.keep (n:=wr.heap.size) hBq.out)
      have HI3:=Lib.hid (HI.out.keep (n:=wr.heap.size) hBq.out)
      clear hln2 hFF hB3 HAB2
      by_cases hgt:(0:Int)<(es2.length:Int)
      ·have hst0:st=false:=by
        cases hs2:st
        ·rfl
        ·exact absurd ⟨hs2,by omega⟩ HCO.out
       clear hcond
       subst hst0
       go_wp2_with fail
       go_round
       case rel=>exact⟨k+1,es,by omega,by go_num,HO3.out,by rw[hst,HFF.out,Option.toList_none,List.append_nil];exact HI3.out,HB3.out,by have:=HEL.out;omega⟩
       case measure=>simp[intOf];omega
      ·clear hcond
       cases st
       ·go_wp2_with fail
        go_round
        case rel=>exact⟨k+1,es,by omega,by go_num,HO3.out,by rw[hst,HFF.out,Option.toList_none,List.append_nil];exact HI3.out,HB3.out,by have:=HEL.out;omega⟩
        case measure=>simp[intOf];omega
       ·go_wp2_with fail
        go_round
        case rel=>exact⟨k+1,es,by omega,by go_num,HO3.out,by rw[hst,HFF.out,Option.toList_none,List.append_nil];exact HI3.out,HB3.out,by have:=HEL.out;omega⟩
        case measure=>simp[intOf];omega
    ·go_wp2_with (first
      |(go_at_call 67;refine(HABL.out _ Bw).mono ?_;rintro e wq ⟨rfl,z,rfl⟩)
      |(at_builtin;go_loud(refine wpList_append_S (v:= .slice VA es.length vc) (n:=es.length) (m:=1) rfl _ _ rfl elLine ln_len ln_one rfl (HO.out.keep (n:=wr.heap.size) Bw) rfl rfl rfl (sl_ln (e:=(ch,none,0,0)) (J_new _ _ _ (by simp[ext_size]))) (by have:=HEL.out;simp[maxLen];omega) (by have:=HEL.out;omega) (by simp[ext_size];omega) ?_);intro v3 w3 h1 h2 h3))
     have hI1:ItemsN w3 (fun j=>w.heap.size<=j/\blkOf v3≠some j) (f+1) es ((ks.take k).filterMap (lineOf s law.stems who f)):=by
      refine ItemsN.turn ?_ ?_ ((HI.out.keep (n:=wr.heap.size) (below_ext wr z)).keep (n:=(wr.ext z).heap.size) (B_alloc (Below.refl _ _) (.cells #[.string ch, .slice none 0 0] 167)))
      ·exact fun j hj hQ=>h2.block j hj (fun e=>hQ.2 e.symm)
      ·refine fun j hj hQ=>⟨hQ.1,fun e=> ?_⟩
       rcases h3 j e with h|h
       ·exact hQ.2 h
       ·omega
     have hI2:=hI1.snoc (e:=(ch,none,0,0)) (t:= .leaf ch) (.inl ⟨ch,rfl,rfl⟩)
     have hB3:Below w.heap.size w w3:=Below.grown (a:=w) (B:=w.heap.size) (B_alloc (B_ext HBB.out z) (.cells #[.string ch, .slice none 0 0] 167)) h2 (by simp[ext_size];omega) (fun j hj=>(HO.out.ge j hj).1)
     have hAB:lineOf s law.stems who f ch=some (.leaf ch):=by rw[HAB.out];rfl
     have hFF:=HF.out
     rw[hAB]at hFF
     have HFF:=Lib.hid hFF
     have HI2:=Lib.hid hI2
     have HB3:=Lib.hid hB3
     have H1:=Lib.hid h1
     clear hI1 hI2 hB3 hAB hFF h1 h2 h3
     go_wp2_with fail
     go_round
     case rel=>exact⟨k+1,es++[(ch,none,0,0)],by omega,by go_num,H1.out,by rw[HFF.out];exact HI2.out,HB3.out,by have:=HEL.out;simp;omega⟩
     case measure=>simp[intOf];omega
   ·rw[List.take_of_length_le (by omega)]at HI
    have hki: ¬(k:Int)<(ks.length:Int):=by omega
    go_wp2_with fail
    go_ret
    exact⟨_,es,rfl,HO.out,HI.out.turn (fun _ _ _=>rfl) (fun _ _ h=>h.1),hB,by omega⟩
end Go.Proofs.YtmaidggpbihlgaaGreatDoor
