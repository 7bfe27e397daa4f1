/- Walk of chapter 5's people.take: children. -/
import Derived.Test.YtmaidggpbihlgaaGreatDoorE3
import Derived.Test.YtmaidggpbihlgaaGreatDoorJE
import Derived.Test.YtmaidggpbihlgaaGreatDoorE6
import Derived.Test.YtmaidggpbihlgaaGreatDoorNC
set_option linter.unusedSimpArgs false
set_option linter.unusedVariables false
namespace Go.Proofs.YtmaidggpbihlgaaGreatDoor
open Go.RowKit Go.Shelf
attribute [local go_sem] World.cell?_alloc_mark ext_size ext_cell ext_frozen lt_add_r lt_add_r2 lt_add_r3 lt_add_r4 lt_add_r5 lt_add_r6 lt_add_r7 lt_add_r8
attribute [local go_sem] ext_setCell alloc_setCell_lt
structure Fr2 (w W:World) (va vb:Value):Prop where
 os:W.os=w.os
 tape:W.tape=w.tape
 output:W.output=w.output
 size:w.heap.size<=W.heap.size
 block: ∀k,k<w.heap.size->blkOf va≠some k->blkOf vb≠some k->W.heap[k]?=w.heap[k]?
section
variable {w W W':World} {va vb:Value} {n:Nat}
theorem Fr2.of_below (h:Below w.heap.size w W):Fr2 w W va vb:=⟨h.os,h.tape,h.output,h.size,fun k hk _ _=>h.block k hk⟩
theorem Fr2.below (h:Fr2 w W va vb) (k:Below W.heap.size W W'):Fr2 w W' va vb:=⟨k.os.trans h.os,k.tape.trans h.tape,k.output.trans h.output,Nat.le_trans h.size k.size,fun i hi h1 h2=>(k.block i (Nat.lt_of_lt_of_le hi h.size)).trans (h.block i hi h1 h2)⟩
theorem Fr2.row (h:Fr2 w W va vb) {row:Option Nat} (k:W.grownBy W' row) (hr: ∀j,row=some j->blkOf va=some j\/blkOf vb=some j\/w.heap.size<=j):Fr2 w W' va vb:=
 ⟨k.os.trans h.os,k.tape.trans h.tape,k.output.trans h.output,Nat.le_trans h.size k.size,fun i hi h1 h2=>(k.block i (Nat.lt_of_lt_of_le hi h.size) (fun e=>by
   rcases hr i e.symm with h|h|h
   ·exact h1 h
   ·exact h2 h
   ·omega)).trans (h.block i hi h1 h2)⟩
theorem Fr2.cells {base:Nat} {xs ys:List ByteArray} (h:Fr2 w W va vb) (ha:OwnS w base 9 1 sC va xs) (hb:OwnS w base 9 1 sC vb ys) {k:Nat} {o:Obj} (hk:w.heap[k]?=some o) (ho: ∀cur,o≠ .cells cur 9 (0,0)):W.heap[k]?=some o:=by
 refine(h.block k (Array.getElem?_eq_some_iff.1 hk).1 (fun e=> ?_) (fun e=> ?_)).trans hk
 ·obtain⟨cur,h'⟩:=own_str ha e
  rw[h']at hk
  exact ho cur (Option.some.inj hk).symm
 ·obtain⟨cur,h'⟩:=own_str hb e
  rw[h']at hk
  exact ho cur (Option.some.inj hk).symm
theorem Fr2.mapS {base:Nat} {xs ys:List ByteArray} (h:Fr2 w W va vb) (ha:OwnS w base 9 1 sC va xs) (hb:OwnS w base 9 1 sC vb ys) {b:Nat} {m:List (ByteArray×Value)} (hm:MapS w b ekS (fun v:Value=>v) m):MapS W b ekS (fun v:Value=>v) m:=by
 obtain⟨es,c,hx⟩:=mapS_block hm
 exact hm.keep ((h.cells ha hb hx (fun cur e=>by cases e)).trans hx.symm)
end
theorem step_entry {P:Program} {ops:Array Oper} {o:Oper} {a:Act} {w:World} {K:Act->World->Prop} {Q:Exit->Act->World->Prop} {E:Prop} {T:TypeId} (hgd:o.guard=none) (x i:Operand) (ho:o.op= .mapEntry T x i) (vx vi v:Value) (hx:a.eval x=vx) (hi:a.eval i=vi) (w':World)
 (hrun:(Instr.mapEntry T vx vi).run P w= .ok v w') (h:K (a.put o.dst v) w'):if Region.wanted o (yielded ops a.tmps)=true then Oper.wp P o a w K Q else E:=by
 have hw:Region.wanted o (yielded ops a.tmps)=true:=by simp[Region.wanted,hgd]
 rw[if_pos hw]
 unfold Oper.wp
 simp[execOp,ho,hx,hi,hrun,Result.andThen]
 exact h
theorem step_estore {P:Program} {ops:Array Oper} {o:Oper} {a:Act} {w:World} {K:Act->World->Prop} {Q:Exit->Act->World->Prop} {E:Prop} {T:TypeId} (hgd:o.guard=none) (x i u:Operand) (ho:o.op= .entryStore T x i u) (vx vi vu:Value) (hx:a.eval x=vx) (hi:a.eval i=vi) (hu:a.eval u=vu) (w':World)
 (hrun:(Instr.entryStore T vx vi vu).run P w= .ok () w') (h:K (a.put o.dst undef) w'):if Region.wanted o (yielded ops a.tmps)=true then Oper.wp P o a w K Q else E:=by
 have hw:Region.wanted o (yielded ops a.tmps)=true:=by simp[Region.wanted,hgd]
 rw[if_pos hw]
 unfold Oper.wp
 simp[execOp,ho,hx,hi,hu,hrun,Result.andThen]
 exact h
set_option maxRecDepth 100000 in
set_option maxHeartbeats 4000000 in
theorem child_any (base b:Nat) (s:St) (la co:Int) (d:Deed) (B:Option Addr) (c:Nat) (w:World) (hW:WldAt base w b s la co) (hd:OkD d) (hk:d.kind=6) (hcap:d.to.length<=c) (hS:Sl w 3 RPart.cells B d.to) (hcl:s.children.length<=1000):
 Calls Tryz.prog 86 #[.pointer (some ⟨b,0,none⟩),d.v B c] w (TakePost base b (childP s d) la co w):=by
 obtain⟨hone,_⟩:=hd.one (.inr (.inl hk))
 obtain⟨q,hq⟩: ∃q,d.to=[q]:=List.length_eq_one_iff.1 hone
 have htn:toName d=q.name:=by unfold toName;rw[hq];rfl
 obtain⟨b',off,rfl,hb',hc'⟩:=hS.at (show 0<d.to.length by rw[hq];exact Nat.zero_lt_one)
 have i0:w.cell? ⟨b',off,none⟩=some (.string q.name):=by
  have:=hc' 0 (.string q.name) (by simp[hq,RPart.cells])
  simpa using this
 have hcap1:1<=c:=by rw[hq]at hcap;exact hcap
 clear hd hone hc' hS hcap
 have hW0:=hW
 obtain⟨Bk,dd,cc,pp,wl,rr,mv,tv,ps,hb0,hC,hP,hT⟩:=hW
 have hbl:=blk_lt hC
 obtain⟨kd,dy,pl,fr,ts,cl,yr⟩:=d
 simp only at*
 subst hq hk
 classical
 have HWP:Hid (childP s ⟨6,dy,pl,fr,[q],cl,yr⟩=if(childrenP s fr).any (sameB q.name)then(s,5)else if decide (2<=(parentsP s q.name).length)then(s,16)else if decide (Desc s q.name fr)then(s,25)else({s with children:=s.children++[(fr,q.name)]},0)):=by
  show _=_
  unfold childP
  rw[htn]
 generalize childP s ⟨6,dy,pl,fr,[q],cl,yr⟩=X at*
 have HC:=Lib.hid hC
 have HP:=Lib.hid hP
 have HT:=Lib.hid hT
 have HW:=Lib.hid hW0
 have hkl:(childrenP s fr).length<=1000:=by
  have:(childrenP s fr).length<=s.children.length:=by unfold childrenP;rw[List.length_map];exact List.length_filter_le _ _
  omega
 have hpl:(parentsP s q.name).length<=1000:=by
  have:(parentsP s q.name).length<=s.children.length:=by unfold parentsP;rw[List.length_map];exact List.length_filter_le _ _
  omega
 unfold WldC at hC
 have c1:w.cell? ⟨b,1,none⟩=some (.map (some cc)):=by simp only[World.cell?,hC];rfl
 have c2:w.cell? ⟨b,2,none⟩=some (.map (some pp)):=by simp only[World.cell?,hC];rfl
 obtain⟨mc,mp,r1,r2,r3,r4,r5,r6⟩:=HP.out.rows
 obtain⟨KA,kc,hg1,hO1,hG1⟩:=row_own (r3 fr)
 obtain⟨QA,qc,hg2,hO2,hG2⟩:=row_own (r4 q.name)
 have hlk1: ∀W,Below w.heap.size w W->(Instr.lookup 88 (.map (some cc)) (.string fr) false).run Tryz.prog W= .ok (.slice KA (childrenP s fr).length kc) W:=fun W hB=>by
  have:=run_lookup mapSS (r1.below hB).at fr
  rw[<-hg1]
  exact this
 have hlk2: ∀W,Below w.heap.size w W->(Instr.lookup 88 (.map (some pp)) (.string q.name) false).run Tryz.prog W= .ok (.slice QA (parentsP s q.name).length qc) W:=fun W hB=>by
  have:=run_lookup mapSS (r2.below hB).at q.name
  rw[<-hg2]
  exact this
 have hKS:Sl w 1 sC KA (childrenP s fr):=by
  obtain⟨A,c',e,h,_⟩:=hO1.sl sC_len
  simp only[Value.slice.injEq]at e
  rw[e.1];exact h
 have HK:=Lib.hid hKS
 have HLA:=Lib.hid (fun(W:World) (hM:MapS W cc ekS (fun v:Value=>v) mc)=>show(Instr.lookup 88 (.map (some cc)) (.string fr) false).run Tryz.prog W= .ok (.slice KA (childrenP s fr).length kc) W from by
  have:=run_lookup mapSS hM.at fr
  rw[<-hg1]
  exact this)
 have HLB:=Lib.hid (fun(W:World) (hM:MapS W pp ekS (fun v:Value=>v) mp)=>show(Instr.lookup 88 (.map (some pp)) (.string q.name) false).run Tryz.prog W= .ok (.slice QA (parentsP s q.name).length qc) W from by
  have:=run_lookup mapSS hM.at q.name
  rw[<-hg2]
  exact this)
 have hab: ∀g,blkOf (.slice KA (childrenP s fr).length kc)=some g->blkOf (.slice QA (parentsP s q.name).length qc)≠some g:=fun g h1 h2=>by
  have h3:=r6.1
  rw[r5,rows_append,List.nodup_append]at h3
  exact h3.2.2 g (mem_rows.2 ⟨_,mget_mem (hG1 g h1),h1⟩) g (mem_rows.2 ⟨_,mget_mem (hG2 g h2),h2⟩) rfl
 have HAB:=Lib.hid hab
 clear hab
 have HO1:=Lib.hid hO1
 have HO2:=Lib.hid hO2
 have HG1:=Lib.hid hG1
 have HG2:=Lib.hid hG2
 have HR1:=Lib.hid r1
 have HR2:=Lib.hid r2
 have HR3:=Lib.hid r3
 have HR4:=Lib.hid r4
 have HR5:=Lib.hid r5
 have HR6:=Lib.hid r6
 have HL1:=Lib.hid hlk1
 have HL2:=Lib.hid hlk2
 have HDE:=Lib.hid (fun W (hB:Below w.heap.size w W)=>descends_any base b s fr q.name W (hW0.peo.keep hB) (by omega))
 obtain⟨W1,hW1⟩: ∃W1,W1=w.alloc (.cells #[.int .i64 6, .int .i64 dy, .string pl, .string fr, .slice (some ⟨b',off,none⟩) 1 c, .int .i64 cl, .int .i64 yr] 56):=⟨_,rfl⟩
 have hB1:Below w.heap.size w W1:=by rw[hW1];repeat(first|exact B_refl|exact Below.refl _ _|assumption|with_reducible refine B_alloc ?_ _|with_reducible refine B_ext ?_ _|with_reducible refine B_drew ?_|with_reducible refine B_drewN ?_ _|with_reducible refine B_set ?_ (by simp;omega) _)
 have k1:=HL1.out W1 hB1
 have k2:=HL2.out W1 hB1
 have HCO:=Lib.hid (coStr_any (childrenP s fr) q.name KA (childrenP s fr).length kc W1 rfl (by omega) (HK.out.keep hB1))
 rw[hW1]at k1 k2 HCO
 have HW1:=Lib.hid hW1
 clear hC hP hT hW0 htn hlk1 hlk2 hKS hB1 hW1 hO1 hO2 hG1 hG2 hg1 hg2 r1 r2 r3 r4 r5 r6
 unfold Deed.v
 simp only
 have hb5:(0:Int)<(1:Int):=by decide
 generalize hks:childrenP s fr=ks at*
 generalize hps:parentsP s q.name=pz at*
 generalize decide (Desc s q.name fr)=dz at*
 generalize ks.any (sameB q.name)=az at*
 have HKS:=Lib.hid hks
 have HPS:=Lib.hid hps
 clear hks hps
 go_enter Tryz.func86,Tryz.ntmps86
 cases az
 ·by_cases h2:2<=pz.length
  ·have h2i:(2:Int)<=(pz.length:Int):=by omega
   have H2:=Lib.hid h2
   clear h2
   go_wp2_with (go_at_call 49;refine HCO.out.mono ?_;rintro e wq ⟨rfl,rfl⟩)
   go_ret
   exact take_same HW.out Bw (by rw[HWP.out];simp[H2.out])
  ·have h2i: ¬(2:Int)<=(pz.length:Int):=by omega
   have H2:=Lib.hid h2
   clear h2
   cases dz
   ·go_upto_region 17 with(first
     |(go_at_call 49;refine HCO.out.mono ?_;rintro e wq ⟨rfl,rfl⟩)
     |(go_at_call 48;refine(HDE.out _ Bw).mono ?_;rintro e wq ⟨rfl,z,rfl⟩))
    have hlz1:=HL1.out (W1.ext z) (by rw[HW1.out];repeat(first|exact B_refl|exact Below.refl _ _|assumption|with_reducible refine B_alloc ?_ _|with_reducible refine B_ext ?_ _|with_reducible refine B_drew ?_|with_reducible refine B_drewN ?_ _|with_reducible refine B_set ?_ (by simp;omega) _))
    have hlz2:=HL2.out (W1.ext z) (by rw[HW1.out];repeat(first|exact B_refl|exact Below.refl _ _|assumption|with_reducible refine B_alloc ?_ _|with_reducible refine B_ext ?_ _|with_reducible refine B_drew ?_|with_reducible refine B_drewN ?_ _|with_reducible refine B_set ?_ (by simp;omega) _))
    have hBz:Below w.heap.size w (W1.ext z):=by rw[HW1.out];repeat(first|exact B_refl|exact Below.refl _ _|assumption|with_reducible refine B_alloc ?_ _|with_reducible refine B_ext ?_ _|with_reducible refine B_drew ?_|with_reducible refine B_drewN ?_ _|with_reducible refine B_set ?_ (by simp;omega) _)
    have cz1:=(B_cell (o:=1) hBz hbl).trans c1
    have cz2:=(B_cell (o:=2) hBz hbl).trans c2
    rw[<-HW1.out]
    generalize W1.ext z=WZ at*
    have HBZ:=Lib.hid hBz
    have hbz:=hBz.size
    have HFR:=Lib.hid (Fr2.of_below (va:= .slice KA ks.length kc) (vb:= .slice QA pz.length qc) hBz)
    have HSF:=Lib.hid (fun(W:World) (h:Fr2 w W (.slice KA ks.length kc) (.slice QA pz.length qc))=>show(false=true\/(W.cell? ⟨b,1,none⟩=some (.map (some cc))/\W.cell? ⟨b,2,none⟩=some (.map (some pp))/\(Instr.lookup 88 (.map (some cc)) (.string fr) false).run Tryz.prog W= .ok (.slice KA ks.length kc) W/\(Instr.lookup 88 (.map (some pp)) (.string q.name) false).run Tryz.prog W= .ok (.slice QA pz.length qc) W)) from by
     have hC1:=HC.out
     unfold WldC at hC1
     have hC2:=h.cells HO1.out HO2.out hC1 (fun cur e=>by simp at e)
     exact .inr ⟨by simp only[World.cell?,hC2];rfl,by simp only[World.cell?,hC2];rfl,HLA.out W (h.mapS HO1.out HO2.out HR1.out),HLB.out W (h.mapS HO1.out HO2.out HR2.out)⟩)
    clear hBz
    refine wp_region_mark 28 (fun bb w'=>bb=true\/(w'.cell? ⟨b,1,none⟩=some (.map (some cc))/\w'.cell? ⟨b,2,none⟩=some (.map (some pp))/\(Instr.lookup 88 (.map (some cc)) (.string fr) false).run Tryz.prog w'= .ok (.slice KA ks.length kc) w'/\(Instr.lookup 88 (.map (some pp)) (.string q.name) false).run Tryz.prog w'= .ok (.slice QA pz.length qc) w')) (by kernel_rfl) ?hS ?hrest
    case hS=>exact HSF.out _ (HFR.out.below Bw)
    case hrest=>
     intro hHeld
     refine TkM 0 ?_
     refine TkM 1 ?_
     refine TkM 2 ?_
     refine TkM 3 ?_
     refine TkM 4 ?_
     refine TkM 5 ?_
     refine TkM 6 ?_
     refine TkM 7 ?_
     refine TkM 8 ?_
     refine wpAnyM_free (i:=9) (v:= ?_) false (by kernel_rfl) (List.getElem?_toArray.trans rfl) (by decide) (by kernel_rfl) (by kernel_rfl) (by kernel_rfl) (fun _ _ _ h=>h) (Or.inl ⟨by rfl,?_⟩) (by first|assumption|trivial) ?_
     rotate_left 1
     focus(intro w hSw;go_simp;first|done|with_reducible rfl)
     try simp only[Act.put,List.setIfInBounds_toArray,List.set_cons_zero,List.set_cons_succ]
     refine TkM 10 ?_
     refine TkM 11 ?_
     refine TkM 12 ?_
     refine TkM 13 ?_
     refine TkM 14 ?_
     refine TkM 15 ?_
     refine TkM 16 ?_
     refine TkM 19 ?_
     refine TkM 20 ?_
     refine TkM 21 ?_
     refine TkM 22 ?_
     refine TkM 23 ?_
     refine TkM 24 ?_
     refine TkM 25 ?_
     refine wpAnyM_ready (rs:=[17,26]) (by kernel_rfl) (by simp) (AllReadyM.cons (List.getElem?_toArray.trans rfl) false (by kernel_rfl) (fun K hK=> ?_) (AllReadyM.cons (List.getElem?_toArray.trans rfl) false (by kernel_rfl) (fun K hK=> ?_) AllReadyM.nil))
     ·go_simp
      refine hK.out _ _ ?_ (fun hHeld=> ?_)
      focus((try dsimp only);exact HSF.out _ (HFR.out.below Bw))
      clear hK K
      try simp only[Act.put,List.setIfInBounds_toArray,List.set_cons_zero,List.set_cons_succ]
      refine wpAnyM_ready (rs:=[18,26]) (by kernel_rfl) (by simp) (AllReadyM.cons (List.getElem?_toArray.trans rfl) false (by kernel_rfl) (fun K hK=> ?_) (AllReadyM.cons (List.getElem?_toArray.trans rfl) false (by kernel_rfl) (fun K hK=> ?_) AllReadyM.nil))
      ·refine step_append_S (v:= .slice KA ks.length kc) (n:=ks.length) (m:=1) rfl _ _ rfl elStr5 sC_len sC_one rfl (xs:=ks) (ys:=[q.name]) (HO1.out.keep (HBZ.out.trans ((Bw:Below WZ.heap.size WZ _).mono hbz))) rfl rfl rfl (sl_one (by repeat(first|exact J_new _ _ _ (by simp)|refine J_alloc ?_))) (by simp[maxLen];omega) (by omega) (by have:=HW.out.lt;simp;omega) ?_
       intro v3 w3 h1 h2 h3
       obtain⟨A6,c6,hv6,_,_⟩:=h1.sl sC_len
       rw[List.length_append]at hv6
       subst hv6
       have FR3:Fr2 w w3 (.slice KA ks.length kc) (.slice QA pz.length qc):=(HFR.out.below Bw).row h2 (fun j hj=> .inl hj)
       have ob3:OwnS w3 base 9 1 sC (.slice QA pz.length qc) pz:=(HO2.out.keep (HBZ.out.trans ((Bw:Below WZ.heap.size WZ _).mono hbz))).grown h2 (by
        cases hb:blkOf (.slice QA pz.length qc)with
        |none=>exact .inl rfl
        |some g=>exact .inr fun e=>HAB.out g e.symm hb)
       have s3:=h2.size
       simp only[World.size_alloc,World.size_drew]at s3 h3
       refine hK.out _ _ ?_ (fun hHeld=> ?_)
       focus((try dsimp only);exact HSF.out _ FR3)
       clear hK K
       try simp only[Act.put,List.setIfInBounds_toArray,List.set_cons_zero,List.set_cons_succ]
       refine wpAnyM_ready (rs:=[26]) (by kernel_rfl) (by simp) (AllReadyM.cons (List.getElem?_toArray.trans rfl) false (by kernel_rfl) (fun K hK=> ?_) AllReadyM.nil)
       go_simp
       refine hK.out _ _ ?_ (fun hHeld=> ?_)
       focus((try dsimp only);exact HSF.out _ (FR3.below Bw))
       clear hK K
       try simp only[Act.put,List.setIfInBounds_toArray,List.set_cons_zero,List.set_cons_succ]
       refine wpAnyM_ready (rs:=[27]) (by kernel_rfl) (by simp) (AllReadyM.cons (List.getElem?_toArray.trans rfl) false (by kernel_rfl) (fun K hK=> ?_) AllReadyM.nil)
       refine step_append_S (v:= .slice QA pz.length qc) (n:=pz.length) (m:=1) rfl _ _ rfl elStr5 sC_len sC_one rfl (xs:=pz) (ys:=[fr]) (ob3.keep (n:=w3.heap.size) Bw) rfl rfl rfl (sl_one ((by repeat(first|exact J_new _ _ _ (by simp)|refine J_alloc ?_)))) (by simp[maxLen];omega) (by omega) (by have:=HW.out.lt;(try simp);omega) ?_
       intro v4 w4 g1 g2 g3
       obtain⟨A7,c7,hv7,_,_⟩:=g1.sl sC_len
       rw[List.length_append]at hv7
       subst hv7
       have FR4:Fr2 w w4 (.slice KA ks.length kc) (.slice QA pz.length qc):=(FR3.below Bw).row g2 (fun j hj=> .inr (.inl hj))
       have hvb: ∀g,blkOf (.slice A6 (ks.length+[q.name].length) c6)=some g->blkOf (.slice QA pz.length qc)≠some g:=fun g e1 e2=>by
        rcases h3 g e1 with h|h
        ·exact HAB.out g h e2
        ·have:=(HO2.out.ge g e2).2;omega
       have oa4:OwnS w4 base 9 1 sC (.slice A6 (ks.length+[q.name].length) c6) (ks++[q.name]):=(h1.keep (n:=w3.heap.size) Bw).grown g2 (by
        cases hb:blkOf (.slice A6 (ks.length+[q.name].length) c6)with
        |none=>exact .inl rfl
        |some g=>exact .inr fun e=>hvb g hb e.symm)
       have s4:=g2.size
       (try simp only[World.size_alloc,World.size_drew]at s4 g3)
       have b1: ∀g,blkOf (.slice A6 (ks.length+[q.name].length) c6)=some g->blkOf (.slice KA ks.length kc)=some g\/w.heap.size<=g:=fun g e=>by
        rcases h3 g e with h|h
        ·exact .inl h
        ·right;omega
       have b2: ∀g,blkOf (.slice A7 (pz.length+[fr].length) c7)=some g->blkOf (.slice QA pz.length qc)=some g\/w.heap.size<=g:=fun g e=>by
        rcases g3 g e with h|h
        ·exact .inl h
        ·right;omega
       have b12: ∀g,blkOf (.slice A6 (ks.length+[q.name].length) c6)=some g->blkOf (.slice A7 (pz.length+[fr].length) c7)≠some g:=fun g e1 e2=>by
        rcases g3 g e2 with h|h
        ·exact hvb g e1 h
        ·have:=(h1.ge g e1).2;omega
       refine hK.out _ _ ?_ (fun hHeld=> ?_)
       focus((try dsimp only);exact HSF.out _ FR4)
       clear hK K
       try simp only[Act.put,List.setIfInBounds_toArray,List.set_cons_zero,List.set_cons_succ]
       refine wpAnyM_ready (rs:=[28]) (by kernel_rfl) (by simp) (AllReadyM.cons (List.getElem?_toArray.trans rfl) true (by kernel_rfl) (fun K hK=> ?_) AllReadyM.nil)
       obtain⟨w5,x5,st5,m5,j5,hr5,hs5,hset5,hk5,hg5,hz5⟩:=run_mapEntryS mapSS (FR4.mapS HO1.out HO2.out HR1.out) fr
       refine step_entry rfl _ _ rfl _ _ _ rfl rfl w5 hr5 ?_
       refine hK.out _ _ ?_ (fun hHeld=> ?_)
       focus((try dsimp only);exact .inl rfl)
       clear hK K
       try simp only[Act.put,List.setIfInBounds_toArray,List.set_cons_zero,List.set_cons_succ]
       refine wpAnyM_ready (rs:=[29]) (by kernel_rfl) (by simp) (AllReadyM.cons (List.getElem?_toArray.trans rfl) true (by kernel_rfl) (fun K hK=> ?_) AllReadyM.nil)
       go_simp
       refine hK.out _ _ ?_ (fun hHeld=> ?_)
       focus((try dsimp only);exact .inl rfl)
       clear hK K
       try simp only[Act.put,List.setIfInBounds_toArray,List.set_cons_zero,List.set_cons_succ]
       refine wpAnyM_ready (rs:=[30]) (by kernel_rfl) (by simp) (AllReadyM.cons (List.getElem?_toArray.trans rfl) true (by kernel_rfl) (fun K hK=> ?_) AllReadyM.nil)
       obtain⟨w6,hr6,hm6,hg6,hz6⟩:=run_entryStoreS (P:=Tryz.prog) hs5 hk5 88 (.slice A6 (ks.length+[q.name].length) c6)
       refine step_estore rfl _ _ _ rfl _ _ _ rfl rfl rfl w6 hr6 ?_
       rw[hset5]at hm6
       refine hK.out _ _ ?_ (fun hHeld=> ?_)
       focus((try dsimp only);exact .inl rfl)
       clear hK K
       try simp only[Act.put,List.setIfInBounds_toArray,List.set_cons_zero,List.set_cons_succ]
       refine wpAnyM_ready (rs:=[31]) (by kernel_rfl) (by simp) (AllReadyM.cons (List.getElem?_toArray.trans rfl) true (by kernel_rfl) (fun K hK=> ?_) AllReadyM.nil)
       have hcp:cc≠pp:=by
        have:=HP.out.nd
        simp only[List.nodup_cons,List.mem_cons,List.not_mem_nil,or_false,not_or]at this
        exact this.2.1.1
       have hmp6:MapS w6 pp ekS (fun v:Value=>v) mp:=((FR4.mapS HO1.out HO2.out HR2.out).grown hg5 (by simpa using fun e=>hcp e.symm)).grown hg6 (by simpa using fun e=>hcp e.symm)
       obtain⟨w7,x7,st7,m7,j7,hr7,hs7,hset7,hk7,hg7,hz7⟩:=run_mapEntryS mapSS hmp6 q.name
       refine step_entry rfl _ _ rfl _ _ _ rfl rfl w7 hr7 ?_
       refine hK.out _ _ ?_ (fun hHeld=> ?_)
       focus((try dsimp only);exact .inl rfl)
       clear hK K
       try simp only[Act.put,List.setIfInBounds_toArray,List.set_cons_zero,List.set_cons_succ]
       refine wpAnyM_ready (rs:=[32]) (by kernel_rfl) (by simp) (AllReadyM.cons (List.getElem?_toArray.trans rfl) true (by kernel_rfl) (fun K hK=> ?_) AllReadyM.nil)
       go_simp
       refine hK.out _ _ ?_ (fun hHeld=> ?_)
       focus((try dsimp only);exact .inl rfl)
       clear hK K
       try simp only[Act.put,List.setIfInBounds_toArray,List.set_cons_zero,List.set_cons_succ]
       refine wpAnyM_ready (rs:=[33]) (by kernel_rfl) (by simp) (AllReadyM.cons (List.getElem?_toArray.trans rfl) true (by kernel_rfl) (fun K hK=> ?_) AllReadyM.nil)
       obtain⟨w8,hr8,hm8,hg8,hz8⟩:=run_entryStoreS (P:=Tryz.prog) hs7 hk7 88 (.slice A7 (pz.length+[fr].length) c7)
       refine step_estore rfl _ _ _ rfl _ _ _ rfl rfl rfl w8 hr8 ?_
       rw[hset7]at hm8
       refine hK.out _ _ ?_ (fun hHeld=> ?_)
       focus((try dsimp only);exact .inl rfl)
       clear hK K
       try simp only[Act.put,List.setIfInBounds_toArray,List.set_cons_zero,List.set_cons_succ]
       refine wpAnyM_done (by kernel_rfl) ?_ _
       have hmc8:=(hm6.grown hg7 (by simpa using hcp)).grown hg8 (by simpa using hcp)
       have hk8: ∀k,k<w4.heap.size->k≠cc->k≠pp->w8.heap[k]?=w4.heap[k]?:=fun k hk e1 e2=>
        (((hg8.block k (by omega) (by simpa using e2)).trans (hg7.block k (by omega) (by simpa using e2))).trans (hg6.block k (by omega) (by simpa using e1))).trans (hg5.block k hk (by simpa using e1))
       have hcc4:=mapS_block (FR4.mapS HO1.out HO2.out HR1.out)
       have hpp4:=mapS_block (FR4.mapS HO1.out HO2.out HR2.out)
       have hcell8: ∀(g:Nat) (cur:Array Value),w4.heap[g]?=some (.cells cur 9 (0,0))->w8.heap[g]?=w4.heap[g]?:=fun g cur hg=>by
        obtain⟨es1,x1,hx1⟩:=hcc4
        obtain⟨es2,x2,hx2⟩:=hpp4
        exact hk8 g (blk_lt hg) (fun e=>by subst e;rw[hx1]at hg;simp at hg) (fun e=>by subst e;rw[hx2]at hg;simp at hg)
       have oa8:=oa4.same (W':=w8) (fun g cur _ hg=>hcell8 g cur hg)
       have ob8:=g1.same (W':=w8) (fun g cur _ hg=>hcell8 g cur hg)
       have hF8: ∀k,k<w.heap.size->k≠cc->k≠pp->blkOf (.slice KA ks.length kc)≠some k->blkOf (.slice QA pz.length qc)≠some k->w8.heap[k]?=w.heap[k]?:=fun k hk e1 e2 e3 e4=>
        (hk8 k (by have:=FR4.size;omega) e1 e2).trans (FR4.block k hk e3 e4)
       have hWC:=wld_child hb0 HC.out HP.out HT.out HR1.out HR2.out HR3.out HR4.out HR5.out HR6.out (by rw[HKS.out];exact HO1.out) HG1.out (by rw[HPS.out];exact HO2.out) HG2.out (by rw[HKS.out];exact oa8) (by rw[HPS.out];exact ob8) b1 b2 b12 hmc8 hm8 hF8
       have hge:=HP.out.ge
       have hBB:Below base w w8:=⟨hg8.os.trans (hg7.os.trans (hg6.os.trans (hg5.os.trans FR4.os))),hg8.tape.trans (hg7.tape.trans (hg6.tape.trans (hg5.tape.trans FR4.tape))),hg8.output.trans (hg7.output.trans (hg6.output.trans (hg5.output.trans FR4.output))),by have:=FR4.size;omega,fun k hk=>hF8 k (by have:=HW.out.lt;omega) (by omega) (by omega) (fun e=>by have:=(HO1.out.ge k e).1;omega) (fun e=>by have:=(HO2.out.ge k e).1;omega)⟩
       have hKD:KeepD w w8:=fun k cur f hk=>hF8 k (blk_lt hk) (fun e=>by obtain⟨_,_,hx⟩:=mapS_block HR1.out;rw[e,hx]at hk;simp at hk) (fun e=>by obtain⟨_,_,hx⟩:=mapS_block HR2.out;rw[e,hx]at hk;simp at hk)
        (fun e=>by obtain⟨_,hx⟩:=own_str HO1.out e;have:=Option.some.inj (hx.symm.trans hk);simp only[Obj.cells.injEq]at this;exact absurd this.2.1 (by decide))
        (fun e=>by obtain⟨_,hx⟩:=own_str HO2.out e;have:=Option.some.inj (hx.symm.trans hk);simp only[Obj.cells.injEq]at this;exact absurd this.2.1 (by decide))
       have HKD:=Lib.hid hKD
       have HWC:=Lib.hid hWC
       have HBB:=Lib.hid hBB
       clear hKD hWC hBB hF8 hk8 hcell8 oa8 ob8 hcc4 hpp4 hmc8 hm8 hg8 hr8 hs7 hset7 hk7 hg7 hr7 hmp6 hm6 hg6 hr6 hs5 hset5 hk5 hg5 hr5 b1 b2 b12 oa4 hvb FR4 g1 g2 g3 ob3 FR3 h1 h2 h3
       go_wp2_with fail
       go_ret
       have hX:=HWP.out
       simp only[Bool.false_eq_true,if_false]at hX
       rw[if_neg (by simpa using H2.out)]at hX
       rw[hX]
       exact⟨rfl,HWC.out,HBB.out,HKD.out⟩
      ·go_simp
       refine hK.out _ _ ?_ (fun hHeld=> ?_)
       focus((try dsimp only);exact HSF.out _ (HFR.out.below Bw))
       clear hK K
       try simp only[Act.put,List.setIfInBounds_toArray,List.set_cons_zero,List.set_cons_succ]
       refine wpAnyM_ready (rs:=[18]) (by kernel_rfl) (by simp) (AllReadyM.cons (List.getElem?_toArray.trans rfl) false (by kernel_rfl) (fun K hK=> ?_) AllReadyM.nil)
       refine step_append_S (v:= .slice KA ks.length kc) (n:=ks.length) (m:=1) rfl _ _ rfl elStr5 sC_len sC_one rfl (xs:=ks) (ys:=[q.name]) (HO1.out.keep (HBZ.out.trans ((Bw:Below WZ.heap.size WZ _).mono hbz))) rfl rfl rfl (sl_one (by repeat(first|exact J_new _ _ _ (by simp)|refine J_alloc ?_))) (by simp[maxLen];omega) (by omega) (by have:=HW.out.lt;simp;omega) ?_
       intro v3 w3 h1 h2 h3
       obtain⟨A6,c6,hv6,_,_⟩:=h1.sl sC_len
       rw[List.length_append]at hv6
       subst hv6
       have FR3:Fr2 w w3 (.slice KA ks.length kc) (.slice QA pz.length qc):=(HFR.out.below Bw).row h2 (fun j hj=> .inl hj)
       have ob3:OwnS w3 base 9 1 sC (.slice QA pz.length qc) pz:=(HO2.out.keep (HBZ.out.trans ((Bw:Below WZ.heap.size WZ _).mono hbz))).grown h2 (by
        cases hb:blkOf (.slice QA pz.length qc)with
        |none=>exact .inl rfl
        |some g=>exact .inr fun e=>HAB.out g e.symm hb)
       have s3:=h2.size
       simp only[World.size_alloc,World.size_drew]at s3 h3
       have x2:w3.heap[WZ.heap.size+1]?=some (.cells #[.string fr] 9):=(h2.block _ (by simp) (fun e=>by have:=(HO1.out.ge _ e.symm).2;omega)).trans (J_new _ _ _ (by simp))
       refine hK.out _ _ ?_ (fun hHeld=> ?_)
       focus((try dsimp only);exact HSF.out _ FR3)
       clear hK K
       try simp only[Act.put,List.setIfInBounds_toArray,List.set_cons_zero,List.set_cons_succ]
       refine wpAnyM_ready (rs:=[27]) (by kernel_rfl) (by simp) (AllReadyM.cons (List.getElem?_toArray.trans rfl) false (by kernel_rfl) (fun K hK=> ?_) AllReadyM.nil)
       refine step_append_S (v:= .slice QA pz.length qc) (n:=pz.length) (m:=1) rfl _ _ rfl elStr5 sC_len sC_one rfl (xs:=pz) (ys:=[fr]) (ob3.keep (n:=w3.heap.size) Bw) rfl rfl rfl (sl_one (x2)) (by simp[maxLen];omega) (by omega) (by have:=HW.out.lt;(try simp);omega) ?_
       intro v4 w4 g1 g2 g3
       obtain⟨A7,c7,hv7,_,_⟩:=g1.sl sC_len
       rw[List.length_append]at hv7
       subst hv7
       have FR4:Fr2 w w4 (.slice KA ks.length kc) (.slice QA pz.length qc):=(FR3.below Bw).row g2 (fun j hj=> .inr (.inl hj))
       have hvb: ∀g,blkOf (.slice A6 (ks.length+[q.name].length) c6)=some g->blkOf (.slice QA pz.length qc)≠some g:=fun g e1 e2=>by
        rcases h3 g e1 with h|h
        ·exact HAB.out g h e2
        ·have:=(HO2.out.ge g e2).2;omega
       have oa4:OwnS w4 base 9 1 sC (.slice A6 (ks.length+[q.name].length) c6) (ks++[q.name]):=(h1.keep (n:=w3.heap.size) Bw).grown g2 (by
        cases hb:blkOf (.slice A6 (ks.length+[q.name].length) c6)with
        |none=>exact .inl rfl
        |some g=>exact .inr fun e=>hvb g hb e.symm)
       have s4:=g2.size
       (try simp only[World.size_alloc,World.size_drew]at s4 g3)
       have b1: ∀g,blkOf (.slice A6 (ks.length+[q.name].length) c6)=some g->blkOf (.slice KA ks.length kc)=some g\/w.heap.size<=g:=fun g e=>by
        rcases h3 g e with h|h
        ·exact .inl h
        ·right;omega
       have b2: ∀g,blkOf (.slice A7 (pz.length+[fr].length) c7)=some g->blkOf (.slice QA pz.length qc)=some g\/w.heap.size<=g:=fun g e=>by
        rcases g3 g e with h|h
        ·exact .inl h
        ·right;omega
       have b12: ∀g,blkOf (.slice A6 (ks.length+[q.name].length) c6)=some g->blkOf (.slice A7 (pz.length+[fr].length) c7)≠some g:=fun g e1 e2=>by
        rcases g3 g e2 with h|h
        ·exact hvb g e1 h
        ·have:=(h1.ge g e1).2;omega
       refine hK.out _ _ ?_ (fun hHeld=> ?_)
       focus((try dsimp only);exact HSF.out _ FR4)
       clear hK K
       try simp only[Act.put,List.setIfInBounds_toArray,List.set_cons_zero,List.set_cons_succ]
       refine wpAnyM_ready (rs:=[28]) (by kernel_rfl) (by simp) (AllReadyM.cons (List.getElem?_toArray.trans rfl) true (by kernel_rfl) (fun K hK=> ?_) AllReadyM.nil)
       obtain⟨w5,x5,st5,m5,j5,hr5,hs5,hset5,hk5,hg5,hz5⟩:=run_mapEntryS mapSS (FR4.mapS HO1.out HO2.out HR1.out) fr
       refine step_entry rfl _ _ rfl _ _ _ rfl rfl w5 hr5 ?_
       refine hK.out _ _ ?_ (fun hHeld=> ?_)
       focus((try dsimp only);exact .inl rfl)
       clear hK K
       try simp only[Act.put,List.setIfInBounds_toArray,List.set_cons_zero,List.set_cons_succ]
       refine wpAnyM_ready (rs:=[29]) (by kernel_rfl) (by simp) (AllReadyM.cons (List.getElem?_toArray.trans rfl) true (by kernel_rfl) (fun K hK=> ?_) AllReadyM.nil)
       go_simp
       refine hK.out _ _ ?_ (fun hHeld=> ?_)
       focus((try dsimp only);exact .inl rfl)
       clear hK K
       try simp only[Act.put,List.setIfInBounds_toArray,List.set_cons_zero,List.set_cons_succ]
       refine wpAnyM_ready (rs:=[30]) (by kernel_rfl) (by simp) (AllReadyM.cons (List.getElem?_toArray.trans rfl) true (by kernel_rfl) (fun K hK=> ?_) AllReadyM.nil)
       obtain⟨w6,hr6,hm6,hg6,hz6⟩:=run_entryStoreS (P:=Tryz.prog) hs5 hk5 88 (.slice A6 (ks.length+[q.name].length) c6)
       refine step_estore rfl _ _ _ rfl _ _ _ rfl rfl rfl w6 hr6 ?_
       rw[hset5]at hm6
       refine hK.out _ _ ?_ (fun hHeld=> ?_)
       focus((try dsimp only);exact .inl rfl)
       clear hK K
       try simp only[Act.put,List.setIfInBounds_toArray,List.set_cons_zero,List.set_cons_succ]
       refine wpAnyM_ready (rs:=[31]) (by kernel_rfl) (by simp) (AllReadyM.cons (List.getElem?_toArray.trans rfl) true (by kernel_rfl) (fun K hK=> ?_) AllReadyM.nil)
       have hcp:cc≠pp:=by
        have:=HP.out.nd
        simp only[List.nodup_cons,List.mem_cons,List.not_mem_nil,or_false,not_or]at this
        exact this.2.1.1
       have hmp6:MapS w6 pp ekS (fun v:Value=>v) mp:=((FR4.mapS HO1.out HO2.out HR2.out).grown hg5 (by simpa using fun e=>hcp e.symm)).grown hg6 (by simpa using fun e=>hcp e.symm)
       obtain⟨w7,x7,st7,m7,j7,hr7,hs7,hset7,hk7,hg7,hz7⟩:=run_mapEntryS mapSS hmp6 q.name
       refine step_entry rfl _ _ rfl _ _ _ rfl rfl w7 hr7 ?_
       refine hK.out _ _ ?_ (fun hHeld=> ?_)
       focus((try dsimp only);exact .inl rfl)
       clear hK K
       try simp only[Act.put,List.setIfInBounds_toArray,List.set_cons_zero,List.set_cons_succ]
       refine wpAnyM_ready (rs:=[32]) (by kernel_rfl) (by simp) (AllReadyM.cons (List.getElem?_toArray.trans rfl) true (by kernel_rfl) (fun K hK=> ?_) AllReadyM.nil)
       go_simp
       refine hK.out _ _ ?_ (fun hHeld=> ?_)
       focus((try dsimp only);exact .inl rfl)
       clear hK K
       try simp only[Act.put,List.setIfInBounds_toArray,List.set_cons_zero,List.set_cons_succ]
       refine wpAnyM_ready (rs:=[33]) (by kernel_rfl) (by simp) (AllReadyM.cons (List.getElem?_toArray.trans rfl) true (by kernel_rfl) (fun K hK=> ?_) AllReadyM.nil)
       obtain⟨w8,hr8,hm8,hg8,hz8⟩:=run_entryStoreS (P:=Tryz.prog) hs7 hk7 88 (.slice A7 (pz.length+[fr].length) c7)
       refine step_estore rfl _ _ _ rfl _ _ _ rfl rfl rfl w8 hr8 ?_
       rw[hset7]at hm8
       refine hK.out _ _ ?_ (fun hHeld=> ?_)
       focus((try dsimp only);exact .inl rfl)
       clear hK K
       try simp only[Act.put,List.setIfInBounds_toArray,List.set_cons_zero,List.set_cons_succ]
       refine wpAnyM_done (by kernel_rfl) ?_ _
       have hmc8:=(hm6.grown hg7 (by simpa using hcp)).grown hg8 (by simpa using hcp)
       have hk8: ∀k,k<w4.heap.size->k≠cc->k≠pp->w8.heap[k]?=w4.heap[k]?:=fun k hk e1 e2=>
        (((hg8.block k (by omega) (by simpa using e2)).trans (hg7.block k (by omega) (by simpa using e2))).trans (hg6.block k (by omega) (by simpa using e1))).trans (hg5.block k hk (by simpa using e1))
       have hcc4:=mapS_block (FR4.mapS HO1.out HO2.out HR1.out)
       have hpp4:=mapS_block (FR4.mapS HO1.out HO2.out HR2.out)
       have hcell8: ∀(g:Nat) (cur:Array Value),w4.heap[g]?=some (.cells cur 9 (0,0))->w8.heap[g]?=w4.heap[g]?:=fun g cur hg=>by
        obtain⟨es1,x1,hx1⟩:=hcc4
        obtain⟨es2,x2,hx2⟩:=hpp4
        exact hk8 g (blk_lt hg) (fun e=>by subst e;rw[hx1]at hg;simp at hg) (fun e=>by subst e;rw[hx2]at hg;simp at hg)
       have oa8:=oa4.same (W':=w8) (fun g cur _ hg=>hcell8 g cur hg)
       have ob8:=g1.same (W':=w8) (fun g cur _ hg=>hcell8 g cur hg)
       have hF8: ∀k,k<w.heap.size->k≠cc->k≠pp->blkOf (.slice KA ks.length kc)≠some k->blkOf (.slice QA pz.length qc)≠some k->w8.heap[k]?=w.heap[k]?:=fun k hk e1 e2 e3 e4=>
        (hk8 k (by have:=FR4.size;omega) e1 e2).trans (FR4.block k hk e3 e4)
       have hWC:=wld_child hb0 HC.out HP.out HT.out HR1.out HR2.out HR3.out HR4.out HR5.out HR6.out (by rw[HKS.out];exact HO1.out) HG1.out (by rw[HPS.out];exact HO2.out) HG2.out (by rw[HKS.out];exact oa8) (by rw[HPS.out];exact ob8) b1 b2 b12 hmc8 hm8 hF8
       have hge:=HP.out.ge
       have hBB:Below base w w8:=⟨hg8.os.trans (hg7.os.trans (hg6.os.trans (hg5.os.trans FR4.os))),hg8.tape.trans (hg7.tape.trans (hg6.tape.trans (hg5.tape.trans FR4.tape))),hg8.output.trans (hg7.output.trans (hg6.output.trans (hg5.output.trans FR4.output))),by have:=FR4.size;omega,fun k hk=>hF8 k (by have:=HW.out.lt;omega) (by omega) (by omega) (fun e=>by have:=(HO1.out.ge k e).1;omega) (fun e=>by have:=(HO2.out.ge k e).1;omega)⟩
       have hKD:KeepD w w8:=fun k cur f hk=>hF8 k (blk_lt hk) (fun e=>by obtain⟨_,_,hx⟩:=mapS_block HR1.out;rw[e,hx]at hk;simp at hk) (fun e=>by obtain⟨_,_,hx⟩:=mapS_block HR2.out;rw[e,hx]at hk;simp at hk)
        (fun e=>by obtain⟨_,hx⟩:=own_str HO1.out e;have:=Option.some.inj (hx.symm.trans hk);simp only[Obj.cells.injEq]at this;exact absurd this.2.1 (by decide))
        (fun e=>by obtain⟨_,hx⟩:=own_str HO2.out e;have:=Option.some.inj (hx.symm.trans hk);simp only[Obj.cells.injEq]at this;exact absurd this.2.1 (by decide))
       have HKD:=Lib.hid hKD
       have HWC:=Lib.hid hWC
       have HBB:=Lib.hid hBB
       clear hKD hWC hBB hF8 hk8 hcell8 oa8 ob8 hcc4 hpp4 hmc8 hm8 hg8 hr8 hs7 hset7 hk7 hg7 hr7 hmp6 hm6 hg6 hr6 hs5 hset5 hk5 hg5 hr5 b1 b2 b12 oa4 hvb FR4 g1 g2 g3 ob3 FR3 h1 h2 h3
       go_wp2_with fail
       go_ret
       have hX:=HWP.out
       simp only[Bool.false_eq_true,if_false]at hX
       rw[if_neg (by simpa using H2.out)]at hX
       rw[hX]
       exact⟨rfl,HWC.out,HBB.out,HKD.out⟩
     ·go_simp
      refine hK.out _ _ ?_ (fun hHeld=> ?_)
      focus((try dsimp only);exact HSF.out _ (HFR.out.below Bw))
      clear hK K
      try simp only[Act.put,List.setIfInBounds_toArray,List.set_cons_zero,List.set_cons_succ]
      refine wpAnyM_ready (rs:=[17]) (by kernel_rfl) (by simp) (AllReadyM.cons (List.getElem?_toArray.trans rfl) false (by kernel_rfl) (fun K hK=> ?_) AllReadyM.nil)
      go_simp
      refine hK.out _ _ ?_ (fun hHeld=> ?_)
      focus((try dsimp only);exact HSF.out _ (HFR.out.below Bw))
      clear hK K
      try simp only[Act.put,List.setIfInBounds_toArray,List.set_cons_zero,List.set_cons_succ]
      refine wpAnyM_ready (rs:=[18]) (by kernel_rfl) (by simp) (AllReadyM.cons (List.getElem?_toArray.trans rfl) false (by kernel_rfl) (fun K hK=> ?_) AllReadyM.nil)
      refine step_append_S (v:= .slice KA ks.length kc) (n:=ks.length) (m:=1) rfl _ _ rfl elStr5 sC_len sC_one rfl (xs:=ks) (ys:=[q.name]) (HO1.out.keep (HBZ.out.trans ((Bw:Below WZ.heap.size WZ _).mono hbz))) rfl rfl rfl (sl_one (by repeat(first|exact J_new _ _ _ (by simp)|refine J_alloc ?_))) (by simp[maxLen];omega) (by omega) (by have:=HW.out.lt;simp;omega) ?_
      intro v3 w3 h1 h2 h3
      obtain⟨A6,c6,hv6,_,_⟩:=h1.sl sC_len
      rw[List.length_append]at hv6
      subst hv6
      have FR3:Fr2 w w3 (.slice KA ks.length kc) (.slice QA pz.length qc):=(HFR.out.below Bw).row h2 (fun j hj=> .inl hj)
      have ob3:OwnS w3 base 9 1 sC (.slice QA pz.length qc) pz:=(HO2.out.keep (HBZ.out.trans ((Bw:Below WZ.heap.size WZ _).mono hbz))).grown h2 (by
       cases hb:blkOf (.slice QA pz.length qc)with
       |none=>exact .inl rfl
       |some g=>exact .inr fun e=>HAB.out g e.symm hb)
      have s3:=h2.size
      simp only[World.size_alloc,World.size_drew]at s3 h3
      have x2:w3.heap[WZ.heap.size]?=some (.cells #[.string fr] 9):=(h2.block _ (by simp;omega) (fun e=>by have:=(HO1.out.ge _ e.symm).2;omega)).trans (J_alloc (J_new _ _ _ rfl))
      refine hK.out _ _ ?_ (fun hHeld=> ?_)
      focus((try dsimp only);exact HSF.out _ FR3)
      clear hK K
      try simp only[Act.put,List.setIfInBounds_toArray,List.set_cons_zero,List.set_cons_succ]
      refine wpAnyM_ready (rs:=[27]) (by kernel_rfl) (by simp) (AllReadyM.cons (List.getElem?_toArray.trans rfl) false (by kernel_rfl) (fun K hK=> ?_) AllReadyM.nil)
      refine step_append_S (v:= .slice QA pz.length qc) (n:=pz.length) (m:=1) rfl _ _ rfl elStr5 sC_len sC_one rfl (xs:=pz) (ys:=[fr]) (ob3.keep (n:=w3.heap.size) Bw) rfl rfl rfl (sl_one (x2)) (by simp[maxLen];omega) (by omega) (by have:=HW.out.lt;(try simp);omega) ?_
      intro v4 w4 g1 g2 g3
      obtain⟨A7,c7,hv7,_,_⟩:=g1.sl sC_len
      rw[List.length_append]at hv7
      subst hv7
      have FR4:Fr2 w w4 (.slice KA ks.length kc) (.slice QA pz.length qc):=(FR3.below Bw).row g2 (fun j hj=> .inr (.inl hj))
      have hvb: ∀g,blkOf (.slice A6 (ks.length+[q.name].length) c6)=some g->blkOf (.slice QA pz.length qc)≠some g:=fun g e1 e2=>by
       rcases h3 g e1 with h|h
       ·exact HAB.out g h e2
       ·have:=(HO2.out.ge g e2).2;omega
      have oa4:OwnS w4 base 9 1 sC (.slice A6 (ks.length+[q.name].length) c6) (ks++[q.name]):=(h1.keep (n:=w3.heap.size) Bw).grown g2 (by
       cases hb:blkOf (.slice A6 (ks.length+[q.name].length) c6)with
       |none=>exact .inl rfl
       |some g=>exact .inr fun e=>hvb g hb e.symm)
      have s4:=g2.size
      (try simp only[World.size_alloc,World.size_drew]at s4 g3)
      have b1: ∀g,blkOf (.slice A6 (ks.length+[q.name].length) c6)=some g->blkOf (.slice KA ks.length kc)=some g\/w.heap.size<=g:=fun g e=>by
       rcases h3 g e with h|h
       ·exact .inl h
       ·right;omega
      have b2: ∀g,blkOf (.slice A7 (pz.length+[fr].length) c7)=some g->blkOf (.slice QA pz.length qc)=some g\/w.heap.size<=g:=fun g e=>by
       rcases g3 g e with h|h
       ·exact .inl h
       ·right;omega
      have b12: ∀g,blkOf (.slice A6 (ks.length+[q.name].length) c6)=some g->blkOf (.slice A7 (pz.length+[fr].length) c7)≠some g:=fun g e1 e2=>by
       rcases g3 g e2 with h|h
       ·exact hvb g e1 h
       ·have:=(h1.ge g e1).2;omega
      refine hK.out _ _ ?_ (fun hHeld=> ?_)
      focus((try dsimp only);exact HSF.out _ FR4)
      clear hK K
      try simp only[Act.put,List.setIfInBounds_toArray,List.set_cons_zero,List.set_cons_succ]
      refine wpAnyM_ready (rs:=[28]) (by kernel_rfl) (by simp) (AllReadyM.cons (List.getElem?_toArray.trans rfl) true (by kernel_rfl) (fun K hK=> ?_) AllReadyM.nil)
      obtain⟨w5,x5,st5,m5,j5,hr5,hs5,hset5,hk5,hg5,hz5⟩:=run_mapEntryS mapSS (FR4.mapS HO1.out HO2.out HR1.out) fr
      refine step_entry rfl _ _ rfl _ _ _ rfl rfl w5 hr5 ?_
      refine hK.out _ _ ?_ (fun hHeld=> ?_)
      focus((try dsimp only);exact .inl rfl)
      clear hK K
      try simp only[Act.put,List.setIfInBounds_toArray,List.set_cons_zero,List.set_cons_succ]
      refine wpAnyM_ready (rs:=[29]) (by kernel_rfl) (by simp) (AllReadyM.cons (List.getElem?_toArray.trans rfl) true (by kernel_rfl) (fun K hK=> ?_) AllReadyM.nil)
      go_simp
      refine hK.out _ _ ?_ (fun hHeld=> ?_)
      focus((try dsimp only);exact .inl rfl)
      clear hK K
      try simp only[Act.put,List.setIfInBounds_toArray,List.set_cons_zero,List.set_cons_succ]
      refine wpAnyM_ready (rs:=[30]) (by kernel_rfl) (by simp) (AllReadyM.cons (List.getElem?_toArray.trans rfl) true (by kernel_rfl) (fun K hK=> ?_) AllReadyM.nil)
      obtain⟨w6,hr6,hm6,hg6,hz6⟩:=run_entryStoreS (P:=Tryz.prog) hs5 hk5 88 (.slice A6 (ks.length+[q.name].length) c6)
      refine step_estore rfl _ _ _ rfl _ _ _ rfl rfl rfl w6 hr6 ?_
      rw[hset5]at hm6
      refine hK.out _ _ ?_ (fun hHeld=> ?_)
      focus((try dsimp only);exact .inl rfl)
      clear hK K
      try simp only[Act.put,List.setIfInBounds_toArray,List.set_cons_zero,List.set_cons_succ]
      refine wpAnyM_ready (rs:=[31]) (by kernel_rfl) (by simp) (AllReadyM.cons (List.getElem?_toArray.trans rfl) true (by kernel_rfl) (fun K hK=> ?_) AllReadyM.nil)
      have hcp:cc≠pp:=by
       have:=HP.out.nd
       simp only[List.nodup_cons,List.mem_cons,List.not_mem_nil,or_false,not_or]at this
       exact this.2.1.1
      have hmp6:MapS w6 pp ekS (fun v:Value=>v) mp:=((FR4.mapS HO1.out HO2.out HR2.out).grown hg5 (by simpa using fun e=>hcp e.symm)).grown hg6 (by simpa using fun e=>hcp e.symm)
      obtain⟨w7,x7,st7,m7,j7,hr7,hs7,hset7,hk7,hg7,hz7⟩:=run_mapEntryS mapSS hmp6 q.name
      refine step_entry rfl _ _ rfl _ _ _ rfl rfl w7 hr7 ?_
      refine hK.out _ _ ?_ (fun hHeld=> ?_)
      focus((try dsimp only);exact .inl rfl)
      clear hK K
      try simp only[Act.put,List.setIfInBounds_toArray,List.set_cons_zero,List.set_cons_succ]
      refine wpAnyM_ready (rs:=[32]) (by kernel_rfl) (by simp) (AllReadyM.cons (List.getElem?_toArray.trans rfl) true (by kernel_rfl) (fun K hK=> ?_) AllReadyM.nil)
      go_simp
      refine hK.out _ _ ?_ (fun hHeld=> ?_)
      focus((try dsimp only);exact .inl rfl)
      clear hK K
      try simp only[Act.put,List.setIfInBounds_toArray,List.set_cons_zero,List.set_cons_succ]
      refine wpAnyM_ready (rs:=[33]) (by kernel_rfl) (by simp) (AllReadyM.cons (List.getElem?_toArray.trans rfl) true (by kernel_rfl) (fun K hK=> ?_) AllReadyM.nil)
      obtain⟨w8,hr8,hm8,hg8,hz8⟩:=run_entryStoreS (P:=Tryz.prog) hs7 hk7 88 (.slice A7 (pz.length+[fr].length) c7)
      refine step_estore rfl _ _ _ rfl _ _ _ rfl rfl rfl w8 hr8 ?_
      rw[hset7]at hm8
      refine hK.out _ _ ?_ (fun hHeld=> ?_)
      focus((try dsimp only);exact .inl rfl)
      clear hK K
      try simp only[Act.put,List.setIfInBounds_toArray,List.set_cons_zero,List.set_cons_succ]
      refine wpAnyM_done (by kernel_rfl) ?_ _
      have hmc8:=(hm6.grown hg7 (by simpa using hcp)).grown hg8 (by simpa using hcp)
      have hk8: ∀k,k<w4.heap.size->k≠cc->k≠pp->w8.heap[k]?=w4.heap[k]?:=fun k hk e1 e2=>
       (((hg8.block k (by omega) (by simpa using e2)).trans (hg7.block k (by omega) (by simpa using e2))).trans (hg6.block k (by omega) (by simpa using e1))).trans (hg5.block k hk (by simpa using e1))
      have hcc4:=mapS_block (FR4.mapS HO1.out HO2.out HR1.out)
      have hpp4:=mapS_block (FR4.mapS HO1.out HO2.out HR2.out)
      have hcell8: ∀(g:Nat) (cur:Array Value),w4.heap[g]?=some (.cells cur 9 (0,0))->w8.heap[g]?=w4.heap[g]?:=fun g cur hg=>by
       obtain⟨es1,x1,hx1⟩:=hcc4
       obtain⟨es2,x2,hx2⟩:=hpp4
       exact hk8 g (blk_lt hg) (fun e=>by subst e;rw[hx1]at hg;simp at hg) (fun e=>by subst e;rw[hx2]at hg;simp at hg)
      have oa8:=oa4.same (W':=w8) (fun g cur _ hg=>hcell8 g cur hg)
      have ob8:=g1.same (W':=w8) (fun g cur _ hg=>hcell8 g cur hg)
      have hF8: ∀k,k<w.heap.size->k≠cc->k≠pp->blkOf (.slice KA ks.length kc)≠some k->blkOf (.slice QA pz.length qc)≠some k->w8.heap[k]?=w.heap[k]?:=fun k hk e1 e2 e3 e4=>
       (hk8 k (by have:=FR4.size;omega) e1 e2).trans (FR4.block k hk e3 e4)
      have hWC:=wld_child hb0 HC.out HP.out HT.out HR1.out HR2.out HR3.out HR4.out HR5.out HR6.out (by rw[HKS.out];exact HO1.out) HG1.out (by rw[HPS.out];exact HO2.out) HG2.out (by rw[HKS.out];exact oa8) (by rw[HPS.out];exact ob8) b1 b2 b12 hmc8 hm8 hF8
      have hge:=HP.out.ge
      have hBB:Below base w w8:=⟨hg8.os.trans (hg7.os.trans (hg6.os.trans (hg5.os.trans FR4.os))),hg8.tape.trans (hg7.tape.trans (hg6.tape.trans (hg5.tape.trans FR4.tape))),hg8.output.trans (hg7.output.trans (hg6.output.trans (hg5.output.trans FR4.output))),by have:=FR4.size;omega,fun k hk=>hF8 k (by have:=HW.out.lt;omega) (by omega) (by omega) (fun e=>by have:=(HO1.out.ge k e).1;omega) (fun e=>by have:=(HO2.out.ge k e).1;omega)⟩
      have hKD:KeepD w w8:=fun k cur f hk=>hF8 k (blk_lt hk) (fun e=>by obtain⟨_,_,hx⟩:=mapS_block HR1.out;rw[e,hx]at hk;simp at hk) (fun e=>by obtain⟨_,_,hx⟩:=mapS_block HR2.out;rw[e,hx]at hk;simp at hk)
       (fun e=>by obtain⟨_,hx⟩:=own_str HO1.out e;have:=Option.some.inj (hx.symm.trans hk);simp only[Obj.cells.injEq]at this;exact absurd this.2.1 (by decide))
       (fun e=>by obtain⟨_,hx⟩:=own_str HO2.out e;have:=Option.some.inj (hx.symm.trans hk);simp only[Obj.cells.injEq]at this;exact absurd this.2.1 (by decide))
      have HKD:=Lib.hid hKD
      have HWC:=Lib.hid hWC
      have HBB:=Lib.hid hBB
      clear hKD hWC hBB hF8 hk8 hcell8 oa8 ob8 hcc4 hpp4 hmc8 hm8 hg8 hr8 hs7 hset7 hk7 hg7 hr7 hmp6 hm6 hg6 hr6 hs5 hset5 hk5 hg5 hr5 b1 b2 b12 oa4 hvb FR4 g1 g2 g3 ob3 FR3 h1 h2 h3
      go_wp2_with fail
      go_ret
      have hX:=HWP.out
      simp only[Bool.false_eq_true,if_false]at hX
      rw[if_neg (by simpa using H2.out)]at hX
      rw[hX]
      exact⟨rfl,HWC.out,HBB.out,HKD.out⟩
   ·go_wp2_with (first
     |(go_at_call 49;refine HCO.out.mono ?_;rintro e wq ⟨rfl,rfl⟩)
     |(go_at_call 48;refine(HDE.out _ Bw).mono ?_;rintro e wq ⟨rfl,z,rfl⟩))
    go_ret
    exact take_same HW.out Bw (by rw[HWP.out];simp[H2.out])
 ·go_wp2_with (go_at_call 49;refine HCO.out.mono ?_;rintro e wq ⟨rfl,rfl⟩)
  go_ret
  exact take_same HW.out Bw (by rw[HWP.out];simp)
end Go.Proofs.YtmaidggpbihlgaaGreatDoor
