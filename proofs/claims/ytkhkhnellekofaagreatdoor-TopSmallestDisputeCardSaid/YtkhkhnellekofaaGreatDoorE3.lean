/- Rows of children and parents: one more child. -/
import Derived.Test.YtkhkhnellekofaaGreatDoorE2
import Derived.Test.YtkhkhnellekofaaGreatDoorJH
import Derived.Test.YtkhkhnellekofaaGreatDoorJQ
import Derived.Deep.RegionHeld3
import Derived.Test.YtkhkhnellekofaaGreatDoorRB
import Derived.Test.YtkhkhnellekofaaGreatDoorO1
set_option linter.unusedSimpArgs false
set_option linter.unusedVariables false
namespace Go.Proofs.YtkhkhnellekofaaGreatDoor
open Go.RowKit Go.Shelf
attribute [local go_sem] World.cell?_alloc_mark ext_size ext_cell ext_frozen lt_add_r lt_add_r2 lt_add_r3 lt_add_r4 lt_add_r5 lt_add_r6 lt_add_r7 lt_add_r8
attribute [local go_sem] ext_setCell alloc_setCell_lt
set_option maxRecDepth 100000 in
set_option maxHeartbeats 4000000 in
theorem will_any (base b:Nat) (s:St) (la co:Int) (d:Deed) (B:Option Addr) (c:Nat) (w:World) (hW:WldAt base w b s la co) (hd:OkD d) (hk:d.kind=4) (hS:Sl w 3 RPart.cells B d.to):
 Calls Tryz.prog 121 #[.pointer (some ⟨b,0,none⟩),d.v B c] w (TakePost base b (willP s d) la co w):=by
 obtain⟨hsh,_,_,_⟩:=parts_ok (hd.parts (.inr (.inr hk))).2
 have hdl:=hd.len
 have hSQ:=rat_cells (fun p hp=>(hsh p hp).2.2) hS
 clear hd hsh
 have hW0:=hW
 obtain⟨Bk,dd,cc,pp,wl,rr,mv,tv,ps,hb0,hC,hP,hT⟩:=hW
 have hbl:=blk_lt hC
 obtain⟨kd,dy,pl,fr,ts,cl,yr⟩:=d
 simp only at*
 subst hk
 have HWP:Hid (willP s ⟨4,dy,pl,fr,ts,cl,yr⟩=if isDeadP s fr then(s,28)else({s with wills:=s.wills++[(fr,ratParts ts)]},0)):=rfl
 generalize willP s ⟨4,dy,pl,fr,ts,cl,yr⟩=X at*
 have hlen:(ratParts ts).length=ts.length:=by unfold ratParts;rw[List.length_map]
 have HSQ:=Lib.hid hSQ
 have HC:=Lib.hid hC
 have HP:=Lib.hid hP
 have HT:=Lib.hid hT
 have HW:=Lib.hid hW0
 unfold WldC at hC
 have c0:w.cell? ⟨b,0,none⟩=some (.map (some dd)):=by simp only[World.cell?,hC];rfl
 have c4:w.cell? ⟨b,4,none⟩=some (.map (some wl)):=by simp only[World.cell?,hC];rfl
 have hlk1: ∀W:World,Below w.heap.size w W->(Instr.lookup 104 (.map (some dd)) (.string fr) false).run Tryz.prog W= .ok (.bool (isDeadP s fr)) W:=fun W hB=>look_dead (HP.out.keep hB) _
 have HLK:=Lib.hid hlk1
 generalize isDeadP s fr=dx at*
 have HLN:=Lib.hid hlen
 clear hlk1 hC hP hT hW0 hSQ hS hlen
 unfold Deed.v
 simp only
 have hlk:=HLK.out (w.alloc (.cells #[.int .i64 4, .int .i64 dy, .string pl, .string fr, .slice B ts.length c, .int .i64 cl, .int .i64 yr] 90)) Bw
 go_enter Tryz.func121,Tryz.ntmps121
 cases dx
 ·go_upto_region 5 with fail
  refine wp_region_held_drew (S:=(fun w'=>w'.cell? ⟨b,4,none⟩=some (.map (some wl))/\w'.cell? ⟨w.heap.size,4,none⟩=some (.slice B ts.length c))) (by kernel_rfl) ?hS ?hrest
  case hS=>((try dsimp only);refine⟨?_,?_⟩<;>(simp[go_sem,c4,hbl];done))
  case hrest=>
   intro hHeld
   refine TkH 0 ?_
   refine TkH 1 ?_
   refine TkH 2 ?_
   refine TkH 3 ?_
   refine TkH 4 ?_
   refine TkH 5 ?_
   refine TkH 6 ?_
   refine wpAnyH_ready (rs:=[7]) (by kernel_rfl) (by simp) (AllReadyH.cons (List.getElem?_toArray.trans rfl) (fun K hK=> ?_) AllReadyH.nil)
   go_simp
   refine(clonePart_any (ratParts ts) B ts.length c _ HLN.out.symm (by rw[HLN.out];omega) (HSQ.out.keep (n:=w.heap.size) Bw)).mono ?_
   rintro e w5 ⟨v,rfl,n1,n2⟩
   have hB5:Below w.heap.size w w5:=(Bw:Below w.heap.size w _).trans (n2.mono (by simp))
   have p4:w5.cell? ⟨b,4,none⟩=some (.map (some wl)):=(B_cell hB5 hbl).trans c4
   have q4:w5.cell? ⟨w.heap.size,4,none⟩=some (.slice B ts.length c):=(B_cell n2 (by simp)).trans (by simp[go_sem])
   have hs5:=n2.size
   simp only[World.size_drew,World.size_alloc]at hs5
   obtain⟨VA,vc,rfl,hvc,hro⟩:=n1.ro
   obtain⟨m,k7,k8⟩:=(HP.out.keep hB5).wills
   obtain⟨es,ec,hx⟩:=mapS_block k7
   have hge:=HP.out.ge
   have hwl:=k7.at.lt
   have hwl0:wl<w.heap.size:=by
    obtain⟨m0,k70,_⟩:=HP.out.wills
    exact k70.at.lt
   have hbw:b≠wl:=fun e=>by
    subst e
    have h1:=HC.out.keep hB5
    unfold WldC at h1
    rw[h1]at hx
    simp at hx
   have HRO:=Lib.hid hro
   have K7:=Lib.hid k7
   have K8:=Lib.hid k8
   have HX:=Lib.hid hx
   have HB5:=Lib.hid hB5
   clear n1 n2 hro k7 k8 hx hB5
   refine hK.out _ _ ?_ (fun hHeld=> ?_)
   focus((try dsimp only);refine⟨?_,?_⟩<;>assumption)
   clear hK K
   try simp only[Act.put,List.setIfInBounds_toArray,List.set_cons_zero,List.set_cons_succ]
   refine wpAnyH_ready (rs:=[8]) (by kernel_rfl) (by simp) (AllReadyH.cons (List.getElem?_toArray.trans rfl) (fun K hK=> ?_) AllReadyH.nil)
   obtain⟨w6,hrun,hm6,hg6,hs6⟩:=run_updateS mapSP K7.out fr (.slice VA (ratParts ts).length vc)
   refine step_update_run rfl _ _ _ rfl _ _ _ rfl rfl rfl w6 hrun ?_
   have p6:w6.cell? ⟨b,4,none⟩=some (.map (some wl)):=(G_cell hg6 (by omega) hbw).trans p4
   have q6:w6.cell? ⟨w.heap.size,4,none⟩=some (.slice B ts.length c):=(G_cell hg6 (by omega) (by omega)).trans q4
   have HM6:=Lib.hid hm6
   have HG6:=Lib.hid hg6
   clear hm6 hg6 hrun
   refine hK.out _ _ ?_ (fun hHeld=> ?_)
   focus((try dsimp only);refine⟨?_,?_⟩<;>assumption)
   clear hK K
   try simp only[Act.put,List.setIfInBounds_toArray,List.set_cons_zero,List.set_cons_succ]
   refine wpAnyH_done (by kernel_rfl) ?_ _
   go_wp2_with fail
   go_ret
   have hX:=HWP.out
   simp only[Bool.false_eq_true,if_false]at hX
   rw[hX]
   refine⟨rfl,wld_map hb0 (HC.out.keep HB5.out) (HT.out.keep HB5.out) HG6.out HX.out rfl (ppl_will (HP.out.keep HB5.out) HG6.out HM6.out fun n=> ?_),grown_below (HB5.out.mono (by omega)) HG6.out hge.2.2.2.1 (by omega),(KeepD.below HB5.out).trans (KeepD.map HG6.out HX.out)⟩
   rw[will_append]
   unfold WillIs
   rw[mget_mput]
   have hsy:sameB n fr=sameB fr n:=by rw[Bool.eq_iff_iff,same_iff,same_iff];exact⟨Eq.symm,Eq.symm⟩
   rw[hsy]
   cases hn:sameB fr n
   ·exact(K8.out n).keptM HG6.out HX.out
   ·exact .inr ⟨VA,vc,rfl,HRO.out.keptM HG6.out HX.out⟩
 ·go_wp2_with fail
  go_ret
  exact take_same HW.out Bw HWP.out
set_option maxRecDepth 100000 in
set_option maxHeartbeats 4000000 in
theorem renounce_any (base b:Nat) (s:St) (la co:Int) (d:Deed) (B:Option Addr) (c:Nat) (w:World) (hW:WldAt base w b s la co) (hd:OkD d) (hk:d.kind=5) (hcap:d.to.length<=c) (hS:Sl w 3 RPart.cells B d.to):
 Calls Tryz.prog 121 #[.pointer (some ⟨b,0,none⟩),d.v B c] w (TakePost base b (renounceP s d) la co w):=by
 obtain⟨hone,_⟩:=hd.one (.inl hk)
 obtain⟨q,hq⟩: ∃q,d.to=[q]:=List.length_eq_one_iff.1 hone
 have htn:toName d=q.name:=by unfold toName;rw[hq];rfl
 obtain⟨b',off,rfl,hb',hc'⟩:=hS.at (show 0<d.to.length by rw[hq];exact Nat.zero_lt_one)
 have i0:w.cell? ⟨b',off,none⟩=some (.string q.name):=by
  have:=hc' 0 (.string q.name) (by simp[hq,RPart.cells])
  simpa using this
 have hcap1:1<=c:=by rw[hq]at hcap;exact hcap
 clear hd hone hc' hS hcap
 have hW0:=hW
 obtain⟨Bk,dd,cc,pp,wl,rr,mv,tv,ps,hb0,hC,hP,hT⟩:=hW
 have hbl:=blk_lt hC
 obtain⟨kd,dy,pl,fr,ts,cl,yr⟩:=d
 simp only at*
 subst hq hk
 have HWP:Hid (renounceP s ⟨5,dy,pl,fr,[q],cl,yr⟩=if isDeadP s fr||isDeadP s q.name then(s,28)else if s.renounce.any (fun r=>sameB r.1 fr&&sameB r.2 q.name)then(s,5)else({s with renounce:=s.renounce++[(fr,q.name)]},0)):=by
  show _=_
  unfold renounceP
  rw[htn]
 generalize renounceP s ⟨5,dy,pl,fr,[q],cl,yr⟩=X at*
 have HC:=Lib.hid hC
 have HP:=Lib.hid hP
 have HT:=Lib.hid hT
 have HW:=Lib.hid hW0
 unfold WldC at hC
 have c0:w.cell? ⟨b,0,none⟩=some (.map (some dd)):=by simp only[World.cell?,hC];rfl
 have c5:w.cell? ⟨b,5,none⟩=some (.map (some rr)):=by simp only[World.cell?,hC];rfl
 have hlk1: ∀W:World,Below w.heap.size w W-> ∀n,(Instr.lookup 104 (.map (some dd)) (.string n) false).run Tryz.prog W= .ok (.bool (isDeadP s n)) W:=fun W hB n=>look_dead (HP.out.keep hB) _
 have hlk2: ∀W:World,Below w.heap.size w W->(Instr.lookup 108 (.map (some rr)) (.agg #[.string fr, .string q.name]) false).run Tryz.prog W= .ok (.bool (s.renounce.any fun r=>sameB r.1 fr&&sameB r.2 q.name)) W:=fun W hB=>look_ren (HP.out.keep hB) _ _
 have hmn:=mget_true (eq:=eqP) (k:=(fr,q.name)) (l:=s.renounce)
 rw[ren_get]at hmn
 have HLK:=Lib.hid hlk1
 have HL2:=Lib.hid hlk2
 have HMN:=Lib.hid hmn
 clear hlk1 hlk2 hmn hC hP hT hW0 htn
 unfold Deed.v
 simp only
 obtain⟨W1,hW1⟩: ∃W1,W1=w.alloc (.cells #[.int .i64 5, .int .i64 dy, .string pl, .string fr, .slice (some ⟨b',off,none⟩) 1 c, .int .i64 cl, .int .i64 yr] 90):=⟨_,rfl⟩
 have hB1:Below w.heap.size w W1:=by rw[hW1];repeat(first|exact B_refl|exact Below.refl _ _|assumption|with_reducible refine B_alloc ?_ _|with_reducible refine B_ext ?_ _|with_reducible refine B_drew ?_|with_reducible refine B_drewN ?_ _|with_reducible refine B_set ?_ (by simp;omega) _)
 have k1:=HLK.out W1 hB1 fr
 have k2:=HLK.out W1 hB1 q.name
 have k3:=HL2.out W1 hB1
 have hren:=(HP.out.keep hB1).ren
 have HB1:=Lib.hid hB1
 rw[hW1]at k1 k2 k3
 have HREN:=Lib.hid hren
 have HW1:=Lib.hid hW1
 clear hren hB1 hW1
 generalize isDeadP s fr=d1 at*
 generalize isDeadP s q.name=d2 at*
 generalize(s.renounce.any fun r=>sameB r.1 fr&&sameB r.2 q.name)=rx at*
 have hb5:(0:Int)<(1:Int):=by decide
 go_enter Tryz.func121,Tryz.ntmps121
 cases d1
 ·cases d2
  ·cases rx
   ·obtain⟨es,ec,hx⟩:=mapS_block HREN.out
    have HX:=Lib.hid hx
    clear hx
    go_wp2_with (at_mapUpdate;obtain⟨w6,hrun,hm6,hg6,hs6⟩:=run_updateS mapPB HREN.out (fr,q.name) true;rw[HW1.out]at hrun;go_loud(refine wpList_update_run rfl _ _ _ rfl _ _ _ rfl rfl rfl w6 hrun ?_))
    go_ret
    have hX:=HWP.out
    simp only[Bool.or_self,Bool.false_eq_true,if_false]at hX
    rw[hX]
    have hge:=HP.out.ge
    have hm7:MapS w6 rr ekP evB ((s.renounce++[(fr,q.name)]).map fun x=>(x,true)):=by
     rw[mput_new (HMN.out (by first|rfl|trivial))]at hm6
     simpa using hm6
    have hbs:=HW.out.lt
    exact⟨rfl,wld_map hb0 (HC.out.keep HB1.out) (HT.out.keep HB1.out) hg6 HX.out rfl (ppl_ren (HP.out.keep HB1.out) hg6 hm7),grown_below (HB1.out.mono (by omega)) hg6 hge.2.2.2.2 (by omega),(KeepD.below HB1.out).trans (KeepD.map hg6 HX.out)⟩
   ·go_wp2_with fail
    go_ret
    exact take_same HW.out Bw HWP.out
  ·go_wp2_with fail
   go_ret
   exact take_same HW.out Bw HWP.out
 ·go_wp2_with fail
  go_ret
  exact take_same HW.out Bw HWP.out
theorem sl_pair {w:World} {b:Nat} {p:ByteArray×ByteArray} {t:TypeId} {fr:Nat×Nat} (h:w.heap[b]?=some (.cells #[.string p.1, .string p.2] t fr)):Sl w 2 pairCells (some ⟨b,0,none⟩) [p]:=fun _=>⟨b,0,rfl,blk_lt h,fun k y hy j u hu=>by
 have hk:k=0:=by have:=(List.getElem?_eq_some_iff.1 hy).1;simp at this;omega
 subst hk
 simp only[List.getElem?_cons_zero,Option.some.injEq]at hy
 subst hy
 match j,hu with
 |0,hu=>simp[pairCells]at hu;simp[World.cell?,h,<-hu]
 |1,hu=>simp[pairCells]at hu;simp[World.cell?,h,<-hu]
 |j+2,hu=>simp[pairCells]at hu⟩
set_option maxRecDepth 100000 in
set_option maxHeartbeats 4000000 in
theorem marry_any (base b:Nat) (s:St) (la co:Int) (d:Deed) (B:Option Addr) (c:Nat) (w:World) (hW:WldAt base w b s la co) (hd:OkD d) (hk:d.kind=7) (hcap:d.to.length<=c) (hS:Sl w 3 RPart.cells B d.to) (hml:s.marriages.length<=1000):
 Calls Tryz.prog 121 #[.pointer (some ⟨b,0,none⟩),d.v B c] w (TakePost base b (marryP s d) la co w):=by
 obtain⟨hone,_⟩:=hd.one (.inr (.inr hk))
 obtain⟨q,hq⟩: ∃q,d.to=[q]:=List.length_eq_one_iff.1 hone
 have htn:toName d=q.name:=by unfold toName;rw[hq];rfl
 obtain⟨b',off,rfl,hb',hc'⟩:=hS.at (show 0<d.to.length by rw[hq];exact Nat.zero_lt_one)
 have i0:w.cell? ⟨b',off,none⟩=some (.string q.name):=by
  have:=hc' 0 (.string q.name) (by simp[hq,RPart.cells])
  simpa using this
 have hcap1:1<=c:=by rw[hq]at hcap;exact hcap
 clear hd hone hc' hS hcap
 have hW0:=hW
 obtain⟨Bk,dd,cc,pp,wl,rr,mv,tv,ps,hb0,hC,hP,hT⟩:=hW
 have hbl:=blk_lt hC
 obtain⟨kd,dy,pl,fr,ts,cl,yr⟩:=d
 simp only at*
 subst hq hk
 have HWP:Hid (marryP s ⟨7,dy,pl,fr,[q],cl,yr⟩=if isDeadP s fr||isDeadP s q.name then(s,28)else if !noB (spouseP s fr)||!noB (spouseP s q.name)then(s,13)else({s with marriages:=s.marriages++[(fr,q.name)]},0)):=by
  show _=_
  unfold marryP
  rw[htn]
 generalize marryP s ⟨7,dy,pl,fr,[q],cl,yr⟩=X at*
 obtain⟨MA,mc,rfl,_,_⟩:=hP.marr.sl pair_len
 have hmge:=hP.marr.ge
 have HC:=Lib.hid hC
 have HP:=Lib.hid hP
 have HT:=Lib.hid hT
 have HW:=Lib.hid hW0
 unfold WldC at hC
 have c0:w.cell? ⟨b,0,none⟩=some (.map (some dd)):=by simp only[World.cell?,hC];rfl
 have c3:w.cell? ⟨b,3,none⟩=some (.slice MA s.marriages.length mc):=by simp only[World.cell?,hC];rfl
 have f3:w.frozen? ⟨b,3,none⟩=false:=by simp only[World.frozen?,hC];rfl
 have hlk1: ∀W:World,Below w.heap.size w W-> ∀n,(Instr.lookup 104 (.map (some dd)) (.string n) false).run Tryz.prog W= .ok (.bool (isDeadP s n)) W:=fun W hB n=>look_dead (HP.out.keep hB) _
 have hk1:=hlk1 (w.alloc (.cells #[.int .i64 7, .int .i64 dy, .string pl, .string fr, .slice (some ⟨b',off,none⟩) 1 c, .int .i64 cl, .int .i64 yr] 90)) Bw fr
 have hk2:=hlk1 (w.alloc (.cells #[.int .i64 7, .int .i64 dy, .string pl, .string fr, .slice (some ⟨b',off,none⟩) 1 c, .int .i64 cl, .int .i64 yr] 90)) Bw q.name
 have HSP:=Lib.hid (fun W (hB:Below w.heap.size w W) n=>spouse_any base b s n W (hW0.peo.keep hB) (by omega))
 have HMG:=Lib.hid hmge
 clear hlk1 hC hP hT hW0 htn hmge
 unfold Deed.v
 simp only
 generalize isDeadP s fr=d1 at*
 generalize isDeadP s q.name=d2 at*
 have hb5:(0:Int)<(1:Int):=by decide
 go_enter Tryz.func121,Tryz.ntmps121
 cases d1
 ·cases d2
  ·cases hn1:noB (spouseP s fr)
   ·have e1:(spouseP s fr).toList.isEmpty=false:=hn1
    rw[hn1]at HWP
    go_wp2_with (go_at_call 134;refine(HSP.out _ Bw _).mono ?_;rintro e wq ⟨rfl,z,rfl⟩)
    go_ret
    exact take_same HW.out Bw (by rw[HWP.out];simp)
   ·cases hn2:noB (spouseP s q.name)
    ·have e1:(spouseP s fr).toList.isEmpty=true:=hn1
     have e2:(spouseP s q.name).toList.isEmpty=false:=hn2
     rw[hn1,hn2]at HWP
     go_wp2_with (go_at_call 134;refine(HSP.out _ Bw _).mono ?_;rintro e wq ⟨rfl,z,rfl⟩)
     go_ret
     exact take_same HW.out Bw (by rw[HWP.out];simp)
    ·have e1:(spouseP s fr).toList.isEmpty=true:=hn1
     have e2:(spouseP s q.name).toList.isEmpty=true:=hn2
     rw[hn1,hn2]at HWP
     go_wp2_with (first
      |(go_at_call 134;refine(HSP.out _ Bw _).mono ?_;rintro e wq ⟨rfl,z,rfl⟩)
      |(at_builtin
        go_loud(refine wpList_append_S (v:= .slice MA s.marriages.length mc) (n:=s.marriages.length) (m:=1) rfl _ _ rfl elPair pair_len pair_one rfl (HP.out.marr.keep (n:=w.heap.size) Bw) rfl rfl rfl (sl_pair (p:=(fr,q.name)) (J_new _ _ _ (by simp[ext_size]))) (by simp[maxLen];omega) (by omega) (by have:=HW.out.lt;simp[ext_size];omega) ?_)
        intro v3 w3 h1 h2 h3
        obtain⟨A6,c6,hv6,_,_⟩:=h1.sl pair_len
        rw[List.length_append]at hv6
        subst hv6
        obtain⟨hA,hC3⟩:=wld_marry hb0 (HC.out.keep (n:=w.heap.size) Bw) (HP.out.keep (n:=w.heap.size) Bw) (HT.out.keep (n:=w.heap.size) Bw) h1 h2
        have hC4:=hC3
        unfold WldC at hC4
        have c33:w3.cell? ⟨b,3,none⟩=some (.slice MA s.marriages.length mc):=by simp only[World.cell?,hC4];rfl
        have f33:w3.frozen? ⟨b,3,none⟩=false:=by simp only[World.frozen?,hC4];rfl
        have hb3:=blk_lt hC3
        have H2:=Lib.hid h2
        have HA:=Lib.hid hA
        have hkd:=((KeepD.below (w:=w) Bw).trans (KeepD.own (HP.out.marr.keep (n:=w.heap.size) Bw) h2 (by decide))).trans (KeepD.cells (grown_set w3 b 3 (.slice A6 (s.marriages.length+[(fr,q.name)].length) c6)) hC3 (by decide))
        have HKD:=Lib.hid hkd
        clear h1 h2 h3 hA hC3 hC4 hkd))
     go_ret
     have hX:=HWP.out
     simp only[Bool.or_self,Bool.not_true,Bool.false_eq_true,if_false]at hX
     rw[hX]
     have hbs:=HW.out.lt
     exact⟨rfl,HA.out,B_set (Below.grown (a:=w) (B:=base) Bw H2.out (by simp[ext_size];omega) (fun j hj=>(HMG.out j hj).1)) (by show base<=b;omega) _,HKD.out⟩
  ·go_wp2_with fail
   go_ret
   exact take_same HW.out Bw HWP.out
 ·go_wp2_with fail
  go_ret
  exact take_same HW.out Bw HWP.out
end Go.Proofs.YtkhkhnellekofaaGreatDoor
namespace Go.Proofs.YtkhkhnellekofaaGreatDoor
open Go.RowKit Go.Shelf
theorem mem_rows {m:List (ByteArray×Value)} {g:Nat}:g∈rowBlocks m↔ ∃e∈m,blkOf e.2=some g:=by
 unfold rowBlocks
 rw[List.mem_filterMap]
theorem rows_cons (e:ByteArray×Value) (m:List (ByteArray×Value)):rowBlocks (e::m)=(blkOf e.2).toList++rowBlocks m:=by
 unfold rowBlocks
 rw[List.filterMap_cons]
 cases h:blkOf e.2<;>simp
theorem rows_append (m l:List (ByteArray×Value)):rowBlocks (m++l)=rowBlocks m++rowBlocks l:=by
 unfold rowBlocks
 exact List.filterMap_append
theorem rows_put {k:ByteArray} {v:Value}: ∀ {m:List (ByteArray×Value)},(rowBlocks m).Nodup->(∀g,blkOf v=some g->(∃v0,mget eqS k m=some v0/\blkOf v0=some g)\/g∉rowBlocks m)->
 (rowBlocks (mput eqS k v m)).Nodup/\ ∀g∈rowBlocks (mput eqS k v m),g∈rowBlocks m\/blkOf v=some g
 | [],_,_=>by
   rw[mput,rows_cons]
   have e:rowBlocks []=[]:=rfl
   rw[e]
   cases h:blkOf v<;>simp
 |x::m,hn,hv=>by
  rw[rows_cons,List.nodup_append]at hn
  obtain⟨n1,n2,n3⟩:=hn
  rw[mput]
  cases hk:eqS k x.1
  ·rw[if_neg (by simp)]
   have hv': ∀g,blkOf v=some g->(∃v0,mget eqS k m=some v0/\blkOf v0=some g)\/g∉rowBlocks m:=fun g hg=>by
    rcases hv g hg with⟨v0,h1,h2⟩|h
    ·rw[mget,hk]at h1
     exact .inl ⟨v0,by simpa using h1,h2⟩
    ·exact .inr fun h'=>h (by rw[rows_cons];exact List.mem_append_right _ h')
   obtain⟨i1,i2⟩:=rows_put n2 hv'
   rw[rows_cons,List.nodup_append]
   refine⟨⟨n1,i1,fun a ha b hb e=> ?_⟩,fun g hg=> ?_⟩
   ·subst e
    rcases i2 _ hb with h|h
    ·exact n3 a ha a h rfl
    ·rcases hv a h with⟨v0,h1,h2⟩|h'
     ·rw[mget,hk]at h1
      have h1':mget eqS k m=some v0:=by simpa using h1
      exact n3 a ha a (mem_rows.2 ⟨_,mget_mem h1',h2⟩) rfl
     ·exact h' (by rw[rows_cons];exact List.mem_append_left _ ha)
   ·rw[List.mem_append]at hg
    rcases hg with hg|hg
    ·exact .inl (by rw[rows_cons];exact List.mem_append_left _ hg)
    ·rcases i2 g hg with h|h
     ·exact .inl (by rw[rows_cons];exact List.mem_append_right _ h)
     ·exact .inr h
  ·rw[if_pos rfl,rows_cons,List.nodup_append]
   have hx:mget eqS k (x::m)=some x.2:=by rw[mget,hk];rfl
   refine⟨⟨by cases h:blkOf v<;>simp,n2,fun a ha b hb e=> ?_⟩,fun g hg=> ?_⟩
   ·subst e
    have ha':blkOf v=some a:=by
     cases h:blkOf v with
     |none=>simp[h]at ha
     |some y=>simp[h]at ha;rw[ha]
    rcases hv a ha' with⟨v0,h1,h2⟩|h'
    ·rw[hx]at h1
     simp only[Option.some.injEq]at h1
     subst h1
     exact n3 a (by rw[h2];simp) a hb rfl
    ·exact h' (by rw[rows_cons];exact List.mem_append_right _ hb)
   ·rw[List.mem_append]at hg
    rcases hg with hg|hg
    ·cases h:blkOf v with
     |none=>simp[h]at hg
     |some y=>simp[h]at hg;exact .inr (by rw[hg])
    ·exact .inl (by rw[rows_cons];exact List.mem_append_right _ hg)
theorem rows_apart {k n:ByteArray} {v v0:Value} {g:Nat} (hne:sameB n k=false): ∀ {m:List (ByteArray×Value)},(rowBlocks m).Nodup->mget eqS n m=some v->mget eqS k m=some v0->blkOf v=some g->blkOf v0≠some g
 | [],_,h,_,_=>by cases h
 |x::m,hn,h1,h2,h3=>fun h4=>by
  rw[rows_cons,List.nodup_append]at hn
  obtain⟨n1,n2,n3⟩:=hn
  rw[mget]at h1 h2
  cases ha:eqS n x.1
  ·rw[ha]at h1
   simp only[Bool.false_eq_true,if_false]at h1
   cases hb:eqS k x.1
   ·rw[hb]at h2
    simp only[Bool.false_eq_true,if_false]at h2
    exact rows_apart hne n2 h1 h2 h3 h4
   ·rw[hb]at h2
    simp only[if_true,Option.some.injEq]at h2
    subst h2
    exact n3 g (by rw[h4];simp) g (mem_rows.2 ⟨_,mget_mem h1,h3⟩) rfl
  ·rw[ha]at h1
   simp only[if_true,Option.some.injEq]at h1
   subst h1
   cases hb:eqS k x.1
   ·rw[hb]at h2
    simp only[Bool.false_eq_true,if_false]at h2
    exact n3 g (by rw[h3];simp) g (mem_rows.2 ⟨_,mget_mem h2,h4⟩) rfl
   ·have e1:n=x.1:=same_iff.1 ha
    have e2:k=x.1:=same_iff.1 hb
    rw[e1,e2,same_refl]at hne
    cases hne
theorem kids_push (s:St) (f t n:ByteArray):childrenP {s with children:=s.children++[(f,t)]} n=childrenP s n++if sameB f n then[t]else[]:=by
 unfold childrenP
 simp only[List.filter_append,List.map_append,List.filter_cons,List.filter_nil]
 cases sameB f n<;>simp
theorem pars_push (s:St) (f t n:ByteArray):parentsP {s with children:=s.children++[(f,t)]} n=parentsP s n++if sameB t n then[f]else[]:=by
 unfold parentsP
 simp only[List.filter_append,List.map_append,List.filter_cons,List.filter_nil]
 cases sameB t n<;>simp
theorem row_own {W:World} {base:Nat} {m:List (ByteArray×Value)} {n:ByteArray} {xs:List ByteArray} (h:RowIs W base m n xs): ∃A c,(mget eqS n m).getD (.slice none 0 0)= .slice A xs.length c/\OwnS W base 9 1 sC (.slice A xs.length c) xs/\(∀g,blkOf (.slice A xs.length c)=some g->mget eqS n m=some (.slice A xs.length c)):=by
 rcases h with⟨h1,rfl⟩|⟨v,h1,h2⟩
 ·exact⟨none,0,by rw[h1];rfl,OwnS.nil,fun g hg=>by cases hg⟩
 ·obtain⟨A,c,rfl,_,_⟩:=h2.sl sC_len
  exact⟨A,c,by rw[h1];rfl,h2,fun _ _=>h1⟩
theorem same_sym (a b:ByteArray):sameB a b=sameB b a:=by rw[Bool.eq_iff_iff,same_iff,same_iff];exact⟨Eq.symm,Eq.symm⟩
theorem OwnS.same {α:Type} {W W':World} {base:Nat} {e:TypeId} {size:Nat} {f:α->List Value} {v:Value} {xs:List α} (h:OwnS W base e size f v xs) (hk: ∀g cur,blkOf v=some g->W.heap[g]?=some (.cells cur e (0,0))->W'.heap[g]?=W.heap[g]?):OwnS W' base e size f v xs:=by
 rcases h with h|⟨g,o,cap,cur,rfl,hb,hh,rest⟩
 ·exact .inl h
 ·exact .inr ⟨g,o,cap,cur,rfl,hb,(hk g cur rfl hh).trans hh,rest⟩
theorem own_str {W:World} {base:Nat} {v:Value} {xs:List ByteArray} (h:OwnS W base 9 1 sC v xs) {g:Nat} (hg:blkOf v=some g): ∃cur,W.heap[g]?=some (.cells cur 9 (0,0)):=by
 rcases h with⟨rfl,_⟩|⟨k,o,c,cur,rfl,_,hk,_⟩
 ·cases hg
 ·simp only[blkOf,Option.some.injEq]at hg
  subst hg
  exact⟨cur,hk⟩
theorem wld_child {base b:Nat} {W w9:World} {B ps:List Nat} {d c p wl r:Nat} {mv tv va vb v1 v2:Value} {s:St} {la co:Int} {mc mp:List (ByteArray×Value)} {fr tn:ByteArray} (hb:base<=b) (hC:WldC W b d c p wl r mv tv la co) (hP:PplAt base W B d c p wl r mv s) (hT:TombsAt base W B tv ps s.graves)
 (k1:MapS W c ekS (fun v:Value=>v) mc) (k2:MapS W p ekS (fun v:Value=>v) mp) (k3: ∀n,RowIs W base mc n (childrenP s n)) (k4: ∀n,RowIs W base mp n (parentsP s n)) (k5:B=rowBlocks (mc++mp)) (k6:B.Nodup/\(mc.map (·.1)).Nodup/\(mp.map (·.1)).Nodup)
 (ha:OwnS W base 9 1 sC va (childrenP s fr)) (ha': ∀g,blkOf va=some g->mget eqS fr mc=some va) (hv:OwnS W base 9 1 sC vb (parentsP s tn)) (hv': ∀g,blkOf vb=some g->mget eqS tn mp=some vb)
 (o1:OwnS w9 base 9 1 sC v1 (childrenP s fr++[tn])) (o2:OwnS w9 base 9 1 sC v2 (parentsP s tn++[fr])) (b1: ∀g,blkOf v1=some g->blkOf va=some g\/W.heap.size<=g) (b2: ∀g,blkOf v2=some g->blkOf vb=some g\/W.heap.size<=g) (b12: ∀g,blkOf v1=some g->blkOf v2≠some g)
 (m1:MapS w9 c ekS (fun v:Value=>v) (mput eqS fr v1 mc)) (m2:MapS w9 p ekS (fun v:Value=>v) (mput eqS tn v2 mp)) (hF: ∀k,k<W.heap.size->k≠c->k≠p->blkOf va≠some k->blkOf vb≠some k->w9.heap[k]?=W.heap[k]?):WldAt base w9 b {s with children:=s.children++[(fr,tn)]} la co:=by
 have hnd:=hP.nd
 simp only[List.nodup_cons,List.mem_cons,List.not_mem_nil,or_false,not_or]at hnd
 obtain⟨⟨n1,n2,n3,n4⟩,⟨n5,n6,n7⟩,⟨n8,n9⟩,n10,_⟩:=hnd
 obtain⟨ec,cc,hc⟩:=mapS_block k1
 obtain⟨ep,cp,hp⟩:=mapS_block k2
 have hcell: ∀ {k:Nat} {cur:Array Value} {t:TypeId} {f:Nat×Nat},W.heap[k]?=some (.cells cur t f)->t≠9->w9.heap[k]?=W.heap[k]?:=fun {k cur t f} hk ht=>by
  refine hF k (Array.getElem?_eq_some_iff.1 hk).1 (fun e=> ?_) (fun e=> ?_) (fun e=> ?_) (fun e=> ?_)
  ·subst e;rw[hc]at hk;simp at hk
  ·subst e;rw[hp]at hk;simp at hk
  ·obtain⟨cur',h'⟩:=own_str ha e
   rw[h']at hk
   simp only[Option.some.injEq,Obj.cells.injEq]at hk
   exact ht hk.2.1.symm
  ·obtain⟨cur',h'⟩:=own_str hv e
   rw[h']at hk
   simp only[Option.some.injEq,Obj.cells.injEq]at hk
   exact ht hk.2.1.symm
 have hmap: ∀ {k:Nat} {es:Array MapEntry} {x:Nat},W.heap[k]?=some (.map es x)->k≠c->k≠p->w9.heap[k]?=W.heap[k]?:=fun {k es x} hk h1 h2=>by
  refine hF k (Array.getElem?_eq_some_iff.1 hk).1 h1 h2 (fun e=> ?_) (fun e=> ?_)
  ·obtain⟨cur',h'⟩:=own_str ha e
   rw[h']at hk;simp at hk
  ·obtain⟨cur',h'⟩:=own_str hv e
   rw[h']at hk;simp at hk
 have hva: ∀g,blkOf va=some g->g∈rowBlocks mc:=fun g hg=>mem_rows.2 ⟨_,mget_mem (ha' g hg),hg⟩
 have hvb: ∀g,blkOf vb=some g->g∈rowBlocks mp:=fun g hg=>mem_rows.2 ⟨_,mget_mem (hv' g hg),hg⟩
 obtain⟨k6,kn1,kn2⟩:=k6
 rw[k5,rows_append,List.nodup_append]at k6
 obtain⟨q1,q2,q3⟩:=k6
 have hold: ∀ {m:List (ByteArray×Value)} {n:ByteArray} {v:Value} {xs:List ByteArray},mget eqS n m=some v->OwnS W base 9 1 sC v xs->(∀g,blkOf v=some g->blkOf va≠some g/\blkOf vb≠some g)->OwnS w9 base 9 1 sC v xs:=fun {m n v xs} hm ho hne=>
  ho.same fun g cur hg hh=>hF g (Array.getElem?_eq_some_iff.1 hh).1 (fun e=>by subst e;rw[hc]at hh;simp at hh) (fun e=>by subst e;rw[hp]at hh;simp at hh) (hne g hg).1 (hne g hg).2
 have hfr1: ∀g,W.heap.size<=g->g∉rowBlocks mc/\g∉rowBlocks mp:=fun g hg=>by
  have key: ∀ {m:List (ByteArray×Value)} {f:ByteArray->List ByteArray},(m.map (·.1)).Nodup->(∀n,RowIs W base m n (f n))->g∉rowBlocks m:=fun {m f} hk hr h=>by
   obtain⟨e,he,hge⟩:=mem_rows.1 h
   have h1:=mem_mget hk (show(e.1,e.2)∈m from he)
   rcases hr e.1 with⟨h2,_⟩|⟨v,h2,h3⟩
   ·rw[h2]at h1;cases h1
   ·rw[h2]at h1
    simp only[Option.some.injEq]at h1
    rw[h1]at h3
    have:=(h3.ge g hge).2
    omega
  exact⟨key kn1 k3,key kn2 k4⟩
 have R1:=rows_put (k:=fr) (v:=v1) q1 (fun g hg=>by
  rcases b1 g hg with h|h
  ·exact .inl ⟨va,ha' g h,h⟩
  ·exact .inr (hfr1 g h).1)
 have R2:=rows_put (k:=tn) (v:=v2) q2 (fun g hg=>by
  rcases b2 g hg with h|h
  ·exact .inl ⟨vb,hv' g h,h⟩
  ·exact .inr (hfr1 g h).2)
 have hB': ∀g∈rowBlocks (mput eqS fr v1 mc++mput eqS tn v2 mp),g∈B\/W.heap.size<=g:=fun g hg=>by
  rw[rows_append,List.mem_append]at hg
  rw[k5,rows_append]
  rcases hg with hg|hg
  ·rcases R1.2 g hg with h|h
   ·exact .inl (List.mem_append_left _ h)
   ·rcases b1 g h with h|h
    ·exact .inl (List.mem_append_left _ (hva g h))
    ·exact .inr h
  ·rcases R2.2 g hg with h|h
   ·exact .inl (List.mem_append_right _ h)
   ·rcases b2 g h with h|h
    ·exact .inl (List.mem_append_right _ (hvb g h))
    ·exact .inr h
 obtain⟨m,k7,k8⟩:=hP.wills
 refine⟨_,d,c,p,wl,r,mv,tv,ps,hb,?_,⟨hP.nd,hP.ge,?_,⟨_,_,m1,m2,fun n=> ?_,fun n=> ?_,rfl,?_⟩,?_,⟨m,?_,fun n=> ?_⟩,?_⟩,⟨?_,hT.len,hT.nd,fun i T g e1 e2=> ?_⟩⟩
 ·exact(hcell hC (by decide)).trans hC
 ·obtain⟨es,x,hx⟩:=mapS_block hP.dead
  exact hP.dead.keep (hmap hx n1 n2)
 ·rw[kids_push]
  unfold RowIs
  rw[mget_mput]
  cases hn:sameB n fr
  ·rw[same_sym fr n,hn]
   simp only[Bool.false_eq_true,if_false,List.append_nil]
   rcases k3 n with h|⟨v,h1,h2⟩
   ·exact .inl h
   ·refine .inr ⟨v,h1,hold h1 h2 fun g hg=>⟨fun e=> ?_,fun e=> ?_⟩⟩
    ·exact rows_apart hn q1 h1 (ha' g e) hg e
    ·exact q3 g (mem_rows.2 ⟨_,mget_mem h1,hg⟩) g (hvb g e) rfl
  ·rw[same_sym fr n,hn]
   have e:n=fr:=same_iff.1 hn
   subst e
   exact .inr ⟨v1,rfl,o1⟩
 ·rw[pars_push]
  unfold RowIs
  rw[mget_mput]
  cases hn:sameB n tn
  ·rw[same_sym tn n,hn]
   simp only[Bool.false_eq_true,if_false,List.append_nil]
   rcases k4 n with h|⟨v,h1,h2⟩
   ·exact .inl h
   ·refine .inr ⟨v,h1,hold h1 h2 fun g hg=>⟨fun e=> ?_,fun e=> ?_⟩⟩
    ·exact q3 g (hva g e) g (mem_rows.2 ⟨_,mget_mem h1,hg⟩) rfl
    ·exact rows_apart hn q2 h1 (hv' g e) hg e
  ·rw[same_sym tn n,hn]
   have e:n=tn:=same_iff.1 hn
   subst e
   exact .inr ⟨v2,rfl,o2⟩
 ·refine⟨?_,(mput_keys _ _ _ kn1).1,(mput_keys _ _ _ kn2).1⟩
  rw[rows_append,List.nodup_append]
  refine⟨R1.1,R2.1,fun g hg g' hg' e=> ?_⟩
  subst e
  rcases R1.2 g hg with h|h
  ·rcases R2.2 g hg' with h'|h'
   ·exact q3 g h g h' rfl
   ·rcases b2 g h' with h'|h'
    ·exact q3 g h g (hvb g h') rfl
    ·exact(hfr1 g h').1 h
  ·rcases R2.2 g hg' with h'|h'
   ·rcases b1 g h with h|h
    ·exact q3 g (hva g h) g h' rfl
    ·exact(hfr1 g h).2 h'
   ·exact b12 g h h'
 ·exact hP.marr.same fun g cur _ hh=>hcell hh (by decide)
 ·obtain⟨es,x,hx⟩:=mapS_block k7
  exact k7.keep (hmap hx (fun e=>n6 e.symm) (fun e=>n8 e.symm))
 ·rcases k8 n with h|⟨A,x,h1,h2⟩
  ·exact .inl h
  ·exact .inr ⟨A,x,h1,h2.same fun g cur f hh _=>hcell hh (by decide)⟩
 ·obtain⟨es,x,hx⟩:=mapS_block hP.ren
  exact hP.ren.keep (hmap hx (fun e=>n7 e.symm) (fun e=>n9 e.symm))
 ·exact hT.own.same fun g cur _ hh=>hcell hh (by decide)
 ·obtain⟨H,hh,D,dc,f',t1,t2,t3,t4,t5,t6,t7⟩:=hT.all i T g e1 e2
  refine⟨H,hh,D,dc,f',(hcell t1 (by decide)).trans t1,t2,t3,t4,t5.same fun g' cur f hx _=>hcell hx (by decide),?_,fun hl a ha1 hin=> ?_⟩
  ·intro hl
   obtain⟨g',off,cur,f,hA,hx,hy⟩:=t6 hl
   have hnB:=t7 hl ⟨g',off,none⟩ hA
   refine⟨g',off,cur,f,hA,?_,hy⟩
   rw[<-hx]
   refine hF g' (Array.getElem?_eq_some_iff.1 hx).1 (fun e=>by subst e;rw[hc]at hx;simp at hx) (fun e=>by subst e;rw[hp]at hx;simp at hx) (fun e=>hnB ?_) (fun e=>hnB ?_)
   ·rw[k5,rows_append];exact List.mem_append_left _ (hva g' e)
   ·rw[k5,rows_append];exact List.mem_append_right _ (hvb g' e)
  ·obtain⟨g',off,cur,f,hA,hx,hy⟩:=t6 hl
   rw[hA]at ha1
   simp only[Option.some.injEq]at ha1
   rcases hB' _ hin with h|h
   ·exact t7 hl a (by rw[hA,ha1]) h
   ·have:=(Array.getElem?_eq_some_iff.1 hx).1
    rw[<-ha1]at h
    simp at h
    omega
end Go.Proofs.YtkhkhnellekofaaGreatDoor
