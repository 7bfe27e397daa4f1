/- Walks of the reference's fractions: Gcd, Lowest, Add, Sub, Mul, quo. -/
import Derived.Test.YtmaidggpbihlgaaGreatDoorE2
import Derived.Test.YtmaidggpbihlgaaGreatDoorJE
import Derived.Test.YtmaidggpbihlgaaGreatDoorJQ
import Derived.Deep.RegionHeld3
import Derived.Test.YtmaidggpbihlgaaGreatDoorRD
import Derived.Test.YtmaidggpbihlgaaGreatDoorJ2
set_option linter.unusedSimpArgs false
set_option linter.unusedVariables false
namespace Go.Proofs.YtmaidggpbihlgaaGreatDoor
open Go.RowKit Go.Shelf
attribute [local go_sem] World.cell?_alloc_mark ext_size ext_cell ext_frozen lt_add_r lt_add_r2 lt_add_r3 lt_add_r4 lt_add_r5 lt_add_r6 lt_add_r7 lt_add_r8
attribute [local go_sem] ext_setCell alloc_setCell_lt
set_option maxRecDepth 100000 in
set_option maxHeartbeats 4000000 in
theorem will_any (base b:Nat) (s:St) (la co:Int) (d:Deed) (B:Option Addr) (c:Nat) (w:World) (hW:WldAt base w b s la co) (hd:OkD d) (hk:d.kind=4) (hS:Sl w 3 RPart.cells B d.to):
 Calls Tryz.prog 86 #[.pointer (some ⟨b,0,none⟩),d.v B c] w (TakePost base b (willP s d) la co w):=by
 obtain⟨hsh,_,_,_⟩:=parts_ok (hd.parts (.inr (.inr hk))).2
 have hdl:=hd.len
 have hSQ:=rat_cells (fun p hp=>(hsh p hp).2.2) hS
 clear hd hsh
 have hW0:=hW
 obtain⟨Bk,dd,cc,pp,wl,rr,mv,tv,ps,hb0,hC,hP,hT⟩:=hW
 have hbl:=blk_lt hC
 obtain⟨kd,dy,pl,fr,ts,cl,yr⟩:=d
 simp only at*
 subst hk
 have HWP:Hid (willP s ⟨4,dy,pl,fr,ts,cl,yr⟩=if isDeadP s fr then(s,28)else({s with wills:=s.wills++[(fr,ratParts ts)]},0)):=rfl
 generalize willP s ⟨4,dy,pl,fr,ts,cl,yr⟩=X at*
 have hlen:(ratParts ts).length=ts.length:=by unfold ratParts;rw[List.length_map]
 have HSQ:=Lib.hid hSQ
 have HC:=Lib.hid hC
 have HP:=Lib.hid hP
 have HT:=Lib.hid hT
 have HW:=Lib.hid hW0
 unfold WldC at hC
 have c0:w.cell? ⟨b,0,none⟩=some (.map (some dd)):=by simp only[World.cell?,hC];rfl
 have c4:w.cell? ⟨b,4,none⟩=some (.map (some wl)):=by simp only[World.cell?,hC];rfl
 have hlk1: ∀W:World,Below w.heap.size w W->(Instr.lookup 87 (.map (some dd)) (.string fr) false).run Tryz.prog W= .ok (.bool (isDeadP s fr)) W:=fun W hB=>look_dead (HP.out.keep hB) _
 have HLK:=Lib.hid hlk1
 generalize isDeadP s fr=dx at*
 have HLN:=Lib.hid hlen
 clear hlk1 hC hP hT hW0 hSQ hS hlen
 unfold Deed.v
 simp only
 have hlk:=HLK.out (w.alloc (.cells #[.int .i64 4, .int .i64 dy, .string pl, .string fr, .slice B ts.length c, .int .i64 cl, .int .i64 yr] 56)) Bw
 go_enter Tryz.func86,Tryz.ntmps86
 cases dx
 ·go_upto_region 5 with fail
  refine wp_region_held_drew (S:=(fun w'=>w'.cell? ⟨b,4,none⟩=some (.map (some wl))/\w'.cell? ⟨w.heap.size,4,none⟩=some (.slice B ts.length c))) (by kernel_rfl) ?hS ?hrest
  case hS=>((try dsimp only);refine⟨?_,?_⟩<;>(simp[go_sem,c4,hbl];done))
  case hrest=>
   intro hHeld
   refine TkH 0 ?_
   refine TkH 1 ?_
   refine TkH 2 ?_
   refine TkH 3 ?_
   refine TkH 4 ?_
   refine TkH 5 ?_
   refine TkH 6 ?_
   refine wpAnyH_ready (rs:=[7]) (by kernel_rfl) (by simp) (AllReadyH.cons (List.getElem?_toArray.trans rfl) (fun K hK=> ?_) AllReadyH.nil)
   go_simp
   refine(clonePart_any (ratParts ts) B ts.length c _ HLN.out.symm (by rw[HLN.out];omega) (HSQ.out.keep (n:=w.heap.size) Bw)).mono ?_
   rintro e w5 ⟨v,rfl,n1,n2⟩
   have hB5:Below w.heap.size w w5:=(Bw:Below w.heap.size w _).trans (n2.mono (by simp))
   have p4:w5.cell? ⟨b,4,none⟩=some (.map (some wl)):=(B_cell hB5 hbl).trans c4
   have q4:w5.cell? ⟨w.heap.size,4,none⟩=some (.slice B ts.length c):=(B_cell n2 (by simp)).trans (by simp[go_sem])
   have hs5:=n2.size
   simp only[World.size_drew,World.size_alloc]at hs5
   obtain⟨VA,vc,rfl,hvc,hro⟩:=n1.ro
   obtain⟨m,k7,k8⟩:=(HP.out.keep hB5).wills
   obtain⟨es,ec,hx⟩:=mapS_block k7
   have hge:=HP.out.ge
   have hwl:=k7.at.lt
   have hwl0:wl<w.heap.size:=by
    obtain⟨m0,k70,_⟩:=HP.out.wills
    exact k70.at.lt
   have hbw:b≠wl:=fun e=>by
    subst e
    have h1:=HC.out.keep hB5
    unfold WldC at h1
    rw[h1]at hx
    simp at hx
   have HRO:=Lib.hid hro
   have K7:=Lib.hid k7
   have K8:=Lib.hid k8
   have HX:=Lib.hid hx
   have HB5:=Lib.hid hB5
   clear n1 n2 hro k7 k8 hx hB5
   refine hK.out _ _ ?_ (fun hHeld=> ?_)
   focus((try dsimp only);refine⟨?_,?_⟩<;>assumption)
   clear hK K
   try simp only[Act.put,List.setIfInBounds_toArray,List.set_cons_zero,List.set_cons_succ]
   refine wpAnyH_ready (rs:=[8]) (by kernel_rfl) (by simp) (AllReadyH.cons (List.getElem?_toArray.trans rfl) (fun K hK=> ?_) AllReadyH.nil)
   obtain⟨w6,hrun,hm6,hg6,hs6⟩:=run_updateS mapSP K7.out fr (.slice VA (ratParts ts).length vc)
   refine step_update_run rfl _ _ _ rfl _ _ _ rfl rfl rfl w6 hrun ?_
   have p6:w6.cell? ⟨b,4,none⟩=some (.map (some wl)):=(G_cell hg6 (by omega) hbw).trans p4
   have q6:w6.cell? ⟨w.heap.size,4,none⟩=some (.slice B ts.length c):=(G_cell hg6 (by omega) (by omega)).trans q4
   have HM6:=Lib.hid hm6
   have HG6:=Lib.hid hg6
   clear hm6 hg6 hrun
   refine hK.out _ _ ?_ (fun hHeld=> ?_)
   focus((try dsimp only);refine⟨?_,?_⟩<;>assumption)
   clear hK K
   try simp only[Act.put,List.setIfInBounds_toArray,List.set_cons_zero,List.set_cons_succ]
   refine wpAnyH_done (by kernel_rfl) ?_ _
   go_wp2_with fail
   go_ret
   have hX:=HWP.out
   simp only[Bool.false_eq_true,if_false]at hX
   rw[hX]
   refine⟨rfl,wld_map hb0 (HC.out.keep HB5.out) (HT.out.keep HB5.out) HG6.out HX.out rfl (ppl_will (HP.out.keep HB5.out) HG6.out HM6.out fun n=> ?_),grown_below (HB5.out.mono (by omega)) HG6.out hge.2.2.2.1 (by omega),(KeepD.below HB5.out).trans (KeepD.map HG6.out HX.out)⟩
   rw[will_append]
   unfold WillIs
   rw[mget_mput]
   have hsy:sameB n fr=sameB fr n:=by rw[Bool.eq_iff_iff,same_iff,same_iff];exact⟨Eq.symm,Eq.symm⟩
   rw[hsy]
   cases hn:sameB fr n
   ·exact(K8.out n).keptM HG6.out HX.out
   ·exact .inr ⟨VA,vc,rfl,HRO.out.keptM HG6.out HX.out⟩
 ·go_wp2_with fail
  go_ret
  exact take_same HW.out Bw HWP.out
set_option maxRecDepth 100000 in
set_option maxHeartbeats 4000000 in
theorem renounce_any (base b:Nat) (s:St) (la co:Int) (d:Deed) (B:Option Addr) (c:Nat) (w:World) (hW:WldAt base w b s la co) (hd:OkD d) (hk:d.kind=5) (hcap:d.to.length<=c) (hS:Sl w 3 RPart.cells B d.to):
 Calls Tryz.prog 86 #[.pointer (some ⟨b,0,none⟩),d.v B c] w (TakePost base b (renounceP s d) la co w):=by
 obtain⟨hone,_⟩:=hd.one (.inl hk)
 obtain⟨q,hq⟩: ∃q,d.to=[q]:=List.length_eq_one_iff.1 hone
 have htn:toName d=q.name:=by unfold toName;rw[hq];rfl
 obtain⟨b',off,rfl,hb',hc'⟩:=hS.at (show 0<d.to.length by rw[hq];exact Nat.zero_lt_one)
 have i0:w.cell? ⟨b',off,none⟩=some (.string q.name):=by
  have:=hc' 0 (.string q.name) (by simp[hq,RPart.cells])
  simpa using this
 have hcap1:1<=c:=by rw[hq]at hcap;exact hcap
 clear hd hone hc' hS hcap
 have hW0:=hW
 obtain⟨Bk,dd,cc,pp,wl,rr,mv,tv,ps,hb0,hC,hP,hT⟩:=hW
 have hbl:=blk_lt hC
 obtain⟨kd,dy,pl,fr,ts,cl,yr⟩:=d
 simp only at*
 subst hq hk
 have HWP:Hid (renounceP s ⟨5,dy,pl,fr,[q],cl,yr⟩=if isDeadP s fr||isDeadP s q.name then(s,28)else if s.renounce.any (fun r=>sameB r.1 fr&&sameB r.2 q.name)then(s,5)else({s with renounce:=s.renounce++[(fr,q.name)]},0)):=by
  show _=_
  unfold renounceP
  rw[htn]
 generalize renounceP s ⟨5,dy,pl,fr,[q],cl,yr⟩=X at*
 have HC:=Lib.hid hC
 have HP:=Lib.hid hP
 have HT:=Lib.hid hT
 have HW:=Lib.hid hW0
 unfold WldC at hC
 have c0:w.cell? ⟨b,0,none⟩=some (.map (some dd)):=by simp only[World.cell?,hC];rfl
 have c5:w.cell? ⟨b,5,none⟩=some (.map (some rr)):=by simp only[World.cell?,hC];rfl
 have hlk1: ∀W:World,Below w.heap.size w W-> ∀n,(Instr.lookup 87 (.map (some dd)) (.string n) false).run Tryz.prog W= .ok (.bool (isDeadP s n)) W:=fun W hB n=>look_dead (HP.out.keep hB) _
 have hlk2: ∀W:World,Below w.heap.size w W->(Instr.lookup 90 (.map (some rr)) (.agg #[.string fr, .string q.name]) false).run Tryz.prog W= .ok (.bool (s.renounce.any fun r=>sameB r.1 fr&&sameB r.2 q.name)) W:=fun W hB=>look_ren (HP.out.keep hB) _ _
 have hmn:=mget_true (eq:=eqP) (k:=(fr,q.name)) (l:=s.renounce)
 rw[ren_get]at hmn
 have HLK:=Lib.hid hlk1
 have HL2:=Lib.hid hlk2
 have HMN:=Lib.hid hmn
 clear hlk1 hlk2 hmn hC hP hT hW0 htn
 unfold Deed.v
 simp only
 obtain⟨W1,hW1⟩: ∃W1,W1=w.alloc (.cells #[.int .i64 5, .int .i64 dy, .string pl, .string fr, .slice (some ⟨b',off,none⟩) 1 c, .int .i64 cl, .int .i64 yr] 56):=⟨_,rfl⟩
 have hB1:Below w.heap.size w W1:=by rw[hW1];repeat(first|exact B_refl|exact Below.refl _ _|assumption|with_reducible refine B_alloc ?_ _|with_reducible refine B_ext ?_ _|with_reducible refine B_drew ?_|with_reducible refine B_drewN ?_ _|with_reducible refine B_set ?_ (by simp;omega) _)
 have k1:=HLK.out W1 hB1 fr
 have k2:=HLK.out W1 hB1 q.name
 have k3:=HL2.out W1 hB1
 have hren:=(HP.out.keep hB1).ren
 have HB1:=Lib.hid hB1
 rw[hW1]at k1 k2 k3
 have HREN:=Lib.hid hren
 have HW1:=Lib.hid hW1
 clear hren hB1 hW1
 generalize isDeadP s fr=d1 at*
 generalize isDeadP s q.name=d2 at*
 generalize(s.renounce.any fun r=>sameB r.1 fr&&sameB r.2 q.name)=rx at*
 have hb5:(0:Int)<(1:Int):=by decide
 go_enter Tryz.func86,Tryz.ntmps86
 cases d1
 ·cases d2
  ·cases rx
   ·obtain⟨es,ec,hx⟩:=mapS_block HREN.out
    have HX:=Lib.hid hx
    clear hx
    go_wp2_with (at_mapUpdate;obtain⟨w6,hrun,hm6,hg6,hs6⟩:=run_updateS mapPB HREN.out (fr,q.name) true;rw[HW1.out]at hrun;go_loud(refine wpList_update_run rfl _ _ _ rfl _ _ _ rfl rfl rfl w6 hrun ?_))
    go_ret
    have hX:=HWP.out
    simp only[Bool.or_self,Bool.false_eq_true,if_false]at hX
    rw[hX]
    have hge:=HP.out.ge
    have hm7:MapS w6 rr ekP evB ((s.renounce++[(fr,q.name)]).map fun x=>(x,true)):=by
     rw[mput_new (HMN.out (by first|rfl|trivial))]at hm6
     simpa using hm6
    have hbs:=HW.out.lt
    exact⟨rfl,wld_map hb0 (HC.out.keep HB1.out) (HT.out.keep HB1.out) hg6 HX.out rfl (ppl_ren (HP.out.keep HB1.out) hg6 hm7),grown_below (HB1.out.mono (by omega)) hg6 hge.2.2.2.2 (by omega),(KeepD.below HB1.out).trans (KeepD.map hg6 HX.out)⟩
   ·go_wp2_with fail
    go_ret
    exact take_same HW.out Bw HWP.out
  ·go_wp2_with fail
   go_ret
   exact take_same HW.out Bw HWP.out
 ·go_wp2_with fail
  go_ret
  exact take_same HW.out Bw HWP.out
theorem sl_pair {w:World} {b:Nat} {p:ByteArray×ByteArray} {t:TypeId} {fr:Nat×Nat} (h:w.heap[b]?=some (.cells #[.string p.1, .string p.2] t fr)):Sl w 2 pairCells (some ⟨b,0,none⟩) [p]:=fun _=>⟨b,0,rfl,blk_lt h,fun k y hy j u hu=>by
 have hk:k=0:=by have:=(List.getElem?_eq_some_iff.1 hy).1;simp at this;omega
 subst hk
 simp only[List.getElem?_cons_zero,Option.some.injEq]at hy
 subst hy
 match j,hu with
 |0,hu=>simp[pairCells]at hu;simp[World.cell?,h,<-hu]
 |1,hu=>simp[pairCells]at hu;simp[World.cell?,h,<-hu]
 |j+2,hu=>simp[pairCells]at hu⟩
set_option maxRecDepth 100000 in
set_option maxHeartbeats 4000000 in
theorem marry_any (base b:Nat) (s:St) (la co:Int) (d:Deed) (B:Option Addr) (c:Nat) (w:World) (hW:WldAt base w b s la co) (hd:OkD d) (hk:d.kind=7) (hcap:d.to.length<=c) (hS:Sl w 3 RPart.cells B d.to) (hml:s.marriages.length<=1000):
 Calls Tryz.prog 86 #[.pointer (some ⟨b,0,none⟩),d.v B c] w (TakePost base b (marryP s d) la co w):=by
 obtain⟨hone,_⟩:=hd.one (.inr (.inr hk))
 obtain⟨q,hq⟩: ∃q,d.to=[q]:=List.length_eq_one_iff.1 hone
 have htn:toName d=q.name:=by unfold toName;rw[hq];rfl
 obtain⟨b',off,rfl,hb',hc'⟩:=hS.at (show 0<d.to.length by rw[hq];exact Nat.zero_lt_one)
 have i0:w.cell? ⟨b',off,none⟩=some (.string q.name):=by
  have:=hc' 0 (.string q.name) (by simp[hq,RPart.cells])
  simpa using this
 have hcap1:1<=c:=by rw[hq]at hcap;exact hcap
 clear hd hone hc' hS hcap
 have hW0:=hW
 obtain⟨Bk,dd,cc,pp,wl,rr,mv,tv,ps,hb0,hC,hP,hT⟩:=hW
 have hbl:=blk_lt hC
 obtain⟨kd,dy,pl,fr,ts,cl,yr⟩:=d
 simp only at*
 subst hq hk
 have HWP:Hid (marryP s ⟨7,dy,pl,fr,[q],cl,yr⟩=if isDeadP s fr||isDeadP s q.name then(s,28)else if !noB (spouseP s fr)||!noB (spouseP s q.name)then(s,13)else({s with marriages:=s.marriages++[(fr,q.name)]},0)):=by
  show _=_
  unfold marryP
  rw[htn]
 generalize marryP s ⟨7,dy,pl,fr,[q],cl,yr⟩=X at*
 obtain⟨MA,mc,rfl,_,_⟩:=hP.marr.sl pair_len
 have hmge:=hP.marr.ge
 have HC:=Lib.hid hC
 have HP:=Lib.hid hP
 have HT:=Lib.hid hT
 have HW:=Lib.hid hW0
 unfold WldC at hC
 have c0:w.cell? ⟨b,0,none⟩=some (.map (some dd)):=by simp only[World.cell?,hC];rfl
 have c3:w.cell? ⟨b,3,none⟩=some (.slice MA s.marriages.length mc):=by simp only[World.cell?,hC];rfl
 have f3:w.frozen? ⟨b,3,none⟩=false:=by simp only[World.frozen?,hC];rfl
 have hlk1: ∀W:World,Below w.heap.size w W-> ∀n,(Instr.lookup 87 (.map (some dd)) (.string n) false).run Tryz.prog W= .ok (.bool (isDeadP s n)) W:=fun W hB n=>look_dead (HP.out.keep hB) _
 have hk1:=hlk1 (w.alloc (.cells #[.int .i64 7, .int .i64 dy, .string pl, .string fr, .slice (some ⟨b',off,none⟩) 1 c, .int .i64 cl, .int .i64 yr] 56)) Bw fr
 have hk2:=hlk1 (w.alloc (.cells #[.int .i64 7, .int .i64 dy, .string pl, .string fr, .slice (some ⟨b',off,none⟩) 1 c, .int .i64 cl, .int .i64 yr] 56)) Bw q.name
 have HSP:=Lib.hid (fun W (hB:Below w.heap.size w W) n=>spouse_any base b s n W (hW0.peo.keep hB) (by omega))
 have HMG:=Lib.hid hmge
 clear hlk1 hC hP hT hW0 htn hmge
 unfold Deed.v
 simp only
 generalize isDeadP s fr=d1 at*
 generalize isDeadP s q.name=d2 at*
 have hb5:(0:Int)<(1:Int):=by decide
 go_enter Tryz.func86,Tryz.ntmps86
 cases d1
 ·cases d2
  ·cases hn1:noB (spouseP s fr)
   ·have e1:(spouseP s fr).toList.isEmpty=false:=hn1
    rw[hn1]at HWP
    go_wp2_with (go_at_call 71;refine(HSP.out _ Bw _).mono ?_;rintro e wq ⟨rfl,z,rfl⟩)
    go_ret
    exact take_same HW.out Bw (by rw[HWP.out];simp)
   ·cases hn2:noB (spouseP s q.name)
    ·have e1:(spouseP s fr).toList.isEmpty=true:=hn1
     have e2:(spouseP s q.name).toList.isEmpty=false:=hn2
     rw[hn1,hn2]at HWP
     go_wp2_with (go_at_call 71;refine(HSP.out _ Bw _).mono ?_;rintro e wq ⟨rfl,z,rfl⟩)
     go_ret
     exact take_same HW.out Bw (by rw[HWP.out];simp)
    ·have e1:(spouseP s fr).toList.isEmpty=true:=hn1
     have e2:(spouseP s q.name).toList.isEmpty=true:=hn2
     rw[hn1,hn2]at HWP
     go_wp2_with (first
      |(go_at_call 71;refine(HSP.out _ Bw _).mono ?_;rintro e wq ⟨rfl,z,rfl⟩)
      |(at_builtin
        go_loud(refine wpList_append_S (v:= .slice MA s.marriages.length mc) (n:=s.marriages.length) (m:=1) rfl _ _ rfl elPair pair_len pair_one rfl (HP.out.marr.keep (n:=w.heap.size) Bw) rfl rfl rfl (sl_pair (p:=(fr,q.name)) (J_new _ _ _ (by simp[ext_size]))) (by simp[maxLen];omega) (by omega) (by have:=HW.out.lt;simp[ext_size];omega) ?_)
        intro v3 w3 h1 h2 h3
        obtain⟨A6,c6,hv6,_,_⟩:=h1.sl pair_len
        rw[List.length_append]at hv6
        subst hv6
        obtain⟨hA,hC3⟩:=wld_marry hb0 (HC.out.keep (n:=w.heap.size) Bw) (HP.out.keep (n:=w.heap.size) Bw) (HT.out.keep (n:=w.heap.size) Bw) h1 h2
        have hC4:=hC3
        unfold WldC at hC4
        have c33:w3.cell? ⟨b,3,none⟩=some (.slice MA s.marriages.length mc):=by simp only[World.cell?,hC4];rfl
        have f33:w3.frozen? ⟨b,3,none⟩=false:=by simp only[World.frozen?,hC4];rfl
        have hb3:=blk_lt hC3
        have H2:=Lib.hid h2
        have HA:=Lib.hid hA
        have hkd:=((KeepD.below (w:=w) Bw).trans (KeepD.own (HP.out.marr.keep (n:=w.heap.size) Bw) h2 (by decide))).trans (KeepD.cells (grown_set w3 b 3 (.slice A6 (s.marriages.length+[(fr,q.name)].length) c6)) hC3 (by decide))
        have HKD:=Lib.hid hkd
        clear h1 h2 h3 hA hC3 hC4 hkd))
     go_ret
     have hX:=HWP.out
     simp only[Bool.or_self,Bool.not_true,Bool.false_eq_true,if_false]at hX
     rw[hX]
     have hbs:=HW.out.lt
     exact⟨rfl,HA.out,B_set (Below.grown (a:=w) (B:=base) Bw H2.out (by simp[ext_size];omega) (fun j hj=>(HMG.out j hj).1)) (by show base<=b;omega) _,HKD.out⟩
  ·go_wp2_with fail
   go_ret
   exact take_same HW.out Bw HWP.out
 ·go_wp2_with fail
  go_ret
  exact take_same HW.out Bw HWP.out
end Go.Proofs.YtmaidggpbihlgaaGreatDoor
namespace Go.Proofs.YtmaidggpbihlgaaGreatDoor
open Go.RowKit Go.Shelf
attribute [local go_sem] World.cell?_alloc_mark ext_size ext_cell ext_frozen lt_add_r lt_add_r2 lt_add_r3 lt_add_r4 lt_add_r5 lt_add_r6 lt_add_r7 lt_add_r8
attribute [local go_sem] ext_setCell alloc_setCell_lt
def pairAt:List Rec->List Rec->Bool
 |_,[]=>false
 |pre,a::r=>pre.any (fun b=>againstP a b)||pairAt (pre++[a]) r
theorem pairAt_eq: ∀(l pre:List Rec),pairAt pre l=((l.any fun a=>pre.any fun b=>againstP a b)||pairP l)
 | [],pre=>by simp[pairAt,pairP]
 |a::r,pre=>by
  rw[pairAt,pairAt_eq r (pre++[a]),pairP,List.any_cons]
  have h:(r.any fun a'=>(pre++[a]).any fun b=>againstP a' b)=((r.any fun a'=>pre.any fun b=>againstP a' b)||r.any fun y=>againstP y a):=by
   induction r with
   |nil=>rfl
   |cons x r ih=>
    rw[List.any_cons,List.any_cons,List.any_cons,ih,List.any_append,List.any_cons,List.any_nil,Bool.or_false]
    cases pre.any (fun b=>againstP x b)<;>cases againstP x a<;>cases(r.any fun a'=>pre.any fun b=>againstP a' b)<;>rfl
  rw[h]
  cases pre.any (fun b=>againstP a b)<;>cases(r.any fun a'=>pre.any fun b=>againstP a' b)<;>cases(r.any fun y=>againstP y a)<;>simp
theorem sl_take5 {α:Type} {w:World} {size:Nat} {f:α->List Value} {A:Option Addr} {xs:List α} (h:Sl w size f A xs) (k:Nat):Sl w size f A (xs.take k):=fun hl=>by
 obtain⟨b,off,hA,hb,hc⟩:=h (by rw[List.length_take]at hl;omega)
 refine⟨b,off,hA,hb,fun j x hx=>hc j x ?_⟩
 rw[List.getElem?_take]at hx
 split at hx
 ·exact hx
 ·cases hx
set_option maxRecDepth 100000 in
set_option maxHeartbeats 2000000 in
theorem conC_any (a b:Rec) (P:Nat) (w:World) (ha:0<=a.kind/\a.kind<=4) (hb:0<=b.kind/\b.kind<=4) (hP:w.heap[P]?=some (recO a)):Calls Tryz.prog 97 #[b.v, .pointer (some ⟨P,0,none⟩)] w (Ret w (.bool (againstP a b))):=by
 have HA:=Lib.hid (fun W=>against_any a b W ha hb)
 generalize againstP a b=r at*
 obtain⟨kd,nm,ot,pl,dy,tl,nu,de⟩:=a
 obtain⟨kd2,nm2,ot2,pl2,dy2,tl2,nu2,de2⟩:=b
 have hl:=blk_lt hP
 have hn:P≠w.heap.size:=by omega
 unfold recO at hP
 have c0:w.cell? ⟨P,0,none⟩=some (.int .i64 kd):=by simp only[World.cell?,hP];rfl
 have c1:w.cell? ⟨P,1,none⟩=some (.string nm):=by simp only[World.cell?,hP];rfl
 have c2:w.cell? ⟨P,2,none⟩=some (.string ot):=by simp only[World.cell?,hP];rfl
 have c3:w.cell? ⟨P,3,none⟩=some (.string pl):=by simp only[World.cell?,hP];rfl
 have c4:w.cell? ⟨P,4,none⟩=some (.int .i64 dy):=by simp only[World.cell?,hP];rfl
 have c5:w.cell? ⟨P,5,none⟩=some (.int .i64 tl):=by simp only[World.cell?,hP];rfl
 have c6:w.cell? ⟨P,6,none⟩=some (.int .i64 nu):=by simp only[World.cell?,hP];rfl
 have c7:w.cell? ⟨P,7,none⟩=some (.int .i64 de):=by simp only[World.cell?,hP];rfl
 clear hP ha hb
 unfold Rec.v at HA⊢
 go_enter Tryz.func97,Tryz.ntmps97
 go_wp2_with (go_at_call 98;go_must(refine(HA.out _).mono ?_);rintro e wq ⟨rfl,z,rfl⟩)
 go_ret
 exact Ret.of rfl Bw
set_option maxRecDepth 100000 in
set_option maxHeartbeats 2000000 in
theorem contradicts_of (l:List Rec) (A:Option Addr) (c:Nat) (ci tm:Bool) (w:World) (hc:l.length<=c) (hl:l.length<=1000) (hk: ∀x∈l,0<=x.kind/\x.kind<=4) (hS:Sl w 8 Rec.cells A l)
 (hci: ∀W,Below w.heap.size w W->Calls Tryz.prog 99 #[.slice A l.length c] W (Ret W (.bool ci))) (htm: ∀W,Below w.heap.size w W->Calls Tryz.prog 100 #[.slice A l.length c] W (Ret W (.bool tm))):
 Calls Tryz.prog 53 #[.slice A l.length c] w (Ret w (.bool (pairP l||ci||tm))):=by
 have eg: ∀args w,(callFunc 97 args).run Tryz.prog w= .ok (.enter 97 args) w:=enters_of Tryz.func97 (by kernel_rfl) rfl
 have HEG:=Lib.hid eg
 have HS:=Lib.hid hS
 have HK:=Lib.hid hk
 have HCI:=Lib.hid hci
 have HTM:=Lib.hid htm
 have hp0:pairP l=pairAt (l.take 0) (l.drop 0):=by rw[List.take_zero,List.drop_zero,pairAt_eq];simp
 generalize pairP l=R at*
 have HP:=Lib.hid hp0
 clear hS hk hci htm eg hp0
 go_enter Tryz.func53,Tryz.ntmps53
 go_wp2_with fail
 go_loopw [7] (fun i wr=> ∃k:Nat,k<=l.length/\i= .int .i64 k/\Hid (R=pairAt (l.take k) (l.drop k))/\Below w.heap.size w wr) (fun i _=>l.length-(intOf i).toNat)
 case atStart=>exact⟨0,Nat.zero_le _,rfl,HP.out,Below.refl _ _⟩
 case round=>
  obtain⟨k,hk,rfl,HX,hB⟩:=hrel
  have HB:=Lib.hid hB
  have hbs:=hB.size
  by_cases hlt:k<l.length
  ·have hx:=HX.out
   rw[List.drop_eq_getElem_cons hlt,pairAt,<-List.take_succ_eq_append_getElem hlt]at hx
   have hcf: ∀W,Below wr.heap.size wr W->W.heap[wr.heap.size]?=some (recO l[k])->Calls Tryz.prog 96 #[.slice A k c, .func (.func 97) #[] #[.pointer (some ⟨wr.heap.size,0,none⟩)]] W (Ret W (.bool ((l.take k).any fun b=>againstP l[k] b))):=fun W hW hP=>by
    refine cfRec_any 97 _ HEG.out _ A k c (l.take k) W (by rw[List.length_take];omega) (by rw[List.length_take];omega) ((sl_take5 HS.out k).keep (HB.out.trans (hW.mono hbs))) fun x hx W' hW'=> ?_
    refine(conC_any l[k] x wr.heap.size W' (HK.out _ (List.getElem_mem hlt)) (HK.out x (List.mem_of_mem_take hx)) ((hW'.block _ (blk_lt hP)).trans hP)).mono ?_
    rintro e wq ⟨rfl,z,rfl⟩
    exact⟨rfl,hW'.trans ((below_ext W' z).mono hW'.size)⟩
   obtain⟨b,off,hA,hb,hcc⟩:=(HS.out.keep hB).at hlt
   have HX2:=Lib.hid hx
   have HCF:=Lib.hid hcf
   have HLT:=Lib.hid hlt
   generalize l[k]=x at*
   generalize((l.take k).any fun b=>againstP x b)=an at*
   obtain⟨kd,nm,ot,pl,dy,tl,nu,de⟩:=x
   have i0:wr.cell? ⟨b,off+k*8,none⟩=some (.int .i64 kd):=hcc 0 _ rfl
   have i1:wr.cell? ⟨b,off+k*8+1,none⟩=some (.string nm):=hcc 1 _ rfl
   have i2:wr.cell? ⟨b,off+k*8+2,none⟩=some (.string ot):=hcc 2 _ rfl
   have i3:wr.cell? ⟨b,off+k*8+3,none⟩=some (.string pl):=hcc 3 _ rfl
   have i4:wr.cell? ⟨b,off+k*8+4,none⟩=some (.int .i64 dy):=hcc 4 _ rfl
   have i5:wr.cell? ⟨b,off+k*8+5,none⟩=some (.int .i64 tl):=hcc 5 _ rfl
   have i6:wr.cell? ⟨b,off+k*8+6,none⟩=some (.int .i64 nu):=hcc 6 _ rfl
   have i7:wr.cell? ⟨b,off+k*8+7,none⟩=some (.int .i64 de):=hcc 7 _ rfl
   have hki:(k:Int)<(l.length:Int):=by omega
   have hk0:(0:Int)<=(k:Int):=by omega
   have hkc:(k:Int)<=(c:Int):=by omega
   subst hA
   clear hcc hx hcf HX hB
   cases an
   ·go_wp2_with (go_at_call 96;go_must(refine(HCF.out _ Bw (J_new _ _ _ rfl)).mono ?_);rintro e wq ⟨rfl,z,rfl⟩)
    go_round
    case rel=>exact⟨k+1,HLT.out,by go_num,by show _=_;rw[HX2.out,Bool.false_or],HB.out.trans (Below.mono (B:=wr.heap.size) Bw hbs)⟩
    case measure=>have:=HLT.out;simp only[intOf];omega
   ·have HRX:Hid (R=true):=by show _=_;rw[HX2.out,Bool.true_or]
    go_wp2_with (go_at_call 96;go_must(refine(HCF.out _ Bw (J_new _ _ _ rfl)).mono ?_);rintro e wq ⟨rfl,z,rfl⟩)
    go_ret
    exact Ret.of (bool_eq (by rw[HRX.out];rfl)) (HB.out.trans (Below.mono (B:=wr.heap.size) Bw hbs))
  ·have hki: ¬(k:Int)<(l.length:Int):=by omega
   have hx:=HX.out
   rw[List.drop_eq_nil_of_le (by omega),pairAt]at hx
   have HRX:Hid (R=false):=hx
   clear hx
   have hci:=fun W (hW:Below wr.heap.size wr W)=>HCI.out W (hB.trans (hW.mono hbs))
   have htm:=fun W (hW:Below wr.heap.size wr W)=>HTM.out W (hB.trans (hW.mono hbs))
   have HC2:=Lib.hid hci
   have HT2:=Lib.hid htm
   clear hci htm hB HCI HTM
   cases ci
   ·go_wp2_with (first
     |(go_at_call 99;go_must(refine(HC2.out _ Bw).mono ?_);rintro e wq ⟨rfl,z,rfl⟩)
     |(go_at_call 100;go_must(refine(HT2.out _ Bw).mono ?_);rintro e wq2 ⟨rfl,z2,rfl⟩))
    go_ret
    exact Ret.of (bool_eq (by rw[HRX.out];rfl)) (HB.out.trans (Below.mono (B:=wr.heap.size) Bw hbs))
   ·go_wp2_with (go_at_call 99;go_must(refine(HC2.out _ Bw).mono ?_);rintro e wq ⟨rfl,z,rfl⟩)
    go_ret
    exact Ret.of (bool_eq (by rw[HRX.out];rfl)) (HB.out.trans (Below.mono (B:=wr.heap.size) Bw hbs))
end Go.Proofs.YtmaidggpbihlgaaGreatDoor
namespace Go.Proofs.YtmaidggpbihlgaaGreatDoor
open Go.RowKit
attribute [local go_sem] World.cell?_alloc_mark ext_size ext_cell ext_frozen lt_add_r lt_add_r2 lt_add_r3 lt_add_r4 lt_add_r5 lt_add_r6 lt_add_r7 lt_add_r8
attribute [local go_sem] ext_setCell alloc_setCell_lt
set_option maxRecDepth 100000 in
set_option maxHeartbeats 2000000 in
theorem rAbs_any (n:Int) (w:World) (h:n.natAbs<=4611686018427387904):Calls Tryz.prog 135 #[.int .i64 n] w (Ret0 w (.int .i64 (n.natAbs:Int))):=by
 have h0: -4611686018427387904<=n:=by omega
 have h1:n<=4611686018427387904:=by omega
 have hw:IntKind.i64.wrap (-n)= -n:=by rw[IntKind.wrap_i64];omega
 clear h
 go_enter Tryz.func135,Tryz.ntmps135
 by_cases h:n<0
 ·go_wp2_with fail
  go_ret
  exact⟨by rw[show((n.natAbs:Nat):Int)= -n by omega];first|rfl|(show Ending.returned (Value.int .i64 (max n (-n)))=_;rw[show max n (-n)= -n by omega]),rfl⟩
 ·by_cases h2:n=0
  ·subst h2
   go_wp2_with fail
   go_ret
   exact⟨rfl,rfl⟩
  ·go_wp2_with fail
   go_ret
   exact⟨by rw[show((n.natAbs:Nat):Int)=n by omega];first|rfl|(show Ending.returned (Value.int .i64 (max n (-n)))=_;rw[show max n (-n)=n by omega]),rfl⟩
set_option maxRecDepth 100000 in
set_option maxHeartbeats 2000000 in
theorem rGcd_any (a b:Int) (w:World) (ha:a.natAbs<=4611686018427387904) (hb:b.natAbs<=4611686018427387904):Calls Tryz.prog 88 #[.int .i64 a, .int .i64 b] w (Ret w (.int .i64 (Int.gcd a b))):=by
 go_enter Tryz.func88,Tryz.ntmps88
 go_wp2_with fail
 go_loopw [0,1] (fun x y wr=> ∃p q:Int,x= .int .i64 p/\y= .int .i64 q/\p.natAbs<=4611686018427387904/\q.natAbs<=4611686018427387904/\Hid (Int.gcd a b=Int.gcd p q)/\ ∃z,wr=w.ext z) (fun _ y _=>(intOf y).natAbs)
 case atStart=>exact⟨a,b,rfl,rfl,ha,hb,rfl,ext_below (Below.refl _ _)⟩
 case round=>
  obtain⟨p,q,rfl,rfl,hp,hq,HG,z,rfl⟩:=hrel
  by_cases hz:q=0
  ·subst hz
   have HP:=Lib.hid hp
   clear hp hq
   go_wp2_with (go_at_call 135;go_must(refine(rAbs_any _ _ HP.out).mono ?_);rintro e wq ⟨rfl,rfl⟩)
   go_ret
   exact Ret.of (int_eq (by rw[HG.out];simp[Int.gcd])) Bw
  ·have hq2:(q==0)=false:=by simp[hz]
   have hm:=tmod_lt p q hz
   have hG:=Lib.hid (gcd_tmod p q)
   have hwr:IntKind.i64.wrap (p.tmod q)=p.tmod q:=IntWalk.i64_in _ (by omega)
   go_wp2_with fail
   go_quiet (fail)
   go_wp2_with fail
   all_goals(first
    |(go_round
      case rel=>exact⟨q,p.tmod q,rfl,rfl,hq,by omega,by show _=_;rw[HG.out,hG.out],ext_below Bw⟩
      case measure=>simp only[intOf];omega))
set_option maxRecDepth 100000 in
set_option maxHeartbeats 2000000 in
theorem rLowest_any (a b:Int) (w:World) (ha:a.natAbs<=4611686018427387904) (hb0:0<b) (hb:b<=4611686018427387904):Calls Tryz.prog 43 #[.int .i64 a, .int .i64 b] w (Ret w (fracV (Rat.divInt a b))):=by
 have hg:=gcd_pos5 (a:=a) hb0
 obtain⟨g,HG⟩: ∃g:Int,g=(Int.gcd a b:Int):=⟨_,rfl⟩
 have hg0:0<g:=by omega
 have hgz:(g==0)=false:=by simp;omega
 have e1:a.tdiv g=(Rat.divInt a b).num:=by rw[divInt_num hb0,HG,tdiv_exact (Int.gcd_dvd_left ..)]
 have e2:b.tdiv g=((Rat.divInt a b).den:Int):=by rw[divInt_den hb0,HG,tdiv_exact (Int.gcd_dvd_right ..)]
 have n1:(a.tdiv g).natAbs<=4611686018427387904:=Nat.le_trans (Int.natAbs_tdiv_le_natAbs _ _) ha
 have n2:(b.tdiv g).natAbs<=4611686018427387904:=Nat.le_trans (Int.natAbs_tdiv_le_natAbs _ _) (by omega)
 have w1:wrap64 (a.tdiv g)=a.tdiv g:=by unfold wrap64;omega
 have w2:wrap64 (b.tdiv g)=b.tdiv g:=by unfold wrap64;omega
 have HA:=Lib.hid ha
 have hbn:b.natAbs<=4611686018427387904:=by omega
 have hbp: ¬b<0:=by omega
 have HB:=Lib.hid hbn
 have E1:=Lib.hid e1
 have E2:=Lib.hid e2
 clear ha hb hb0 hg e1 e2 n1 n2 hbn
 go_enter Tryz.func43,Tryz.ntmps43
 go_wp2_with (go_at_call 88;refine(rGcd_any _ _ _ HA.out HB.out).mono ?_;rintro e w1 ⟨rfl,z1,rfl⟩;rw[<-HG])
 go_region
 go_wp2_with fail
 refine bodyPost_ret (v:=fracV (Rat.divInt a b)) ?_ rfl ?_
 ·refine results_frac rfl _ _ w.heap.size _ _ rfl ?_ ?_
  ·rw[<-E1.out];simp[go_sem];rw[<-HG];exact w1
  ·rw[<-E2.out];simp[go_sem];rw[<-HG];exact w2
 ·exact Ret.of rfl Bw
set_option maxRecDepth 100000 in
set_option maxHeartbeats 2000000 in
theorem rAddI (a b c d:Int) (w:World) (ha:a.natAbs<=1000000000) (hb:b.natAbs<=1000000000) (hc:c.natAbs<=1000000000) (hd:d.natAbs<=1000000000) (hb0:0<b) (hd0:0<d) (_h:True):Calls Tryz.prog 35 #[.agg #[.int .i64 a, .int .i64 b], .agg #[.int .i64 c, .int .i64 d]] w (Ret w (fracV (Rat.divInt (a*d+c*b) (b*d)))):=by
 have m1:=mul_small ha hd
 have m2:=mul_small hc hb
 have m3:=mul_small hb hd
 have m4:0<b*d:=Int.mul_pos hb0 hd0
 obtain⟨m1,n1⟩:=m1
 obtain⟨m2,n2⟩:=m2
 obtain⟨m3,n3⟩:=m3
 have w1:IntKind.i64.wrap (a*d)=a*d:=IntWalk.i64_in _ (by omega)
 have w2:IntKind.i64.wrap (c*b)=c*b:=IntWalk.i64_in _ (by omega)
 have w3:IntKind.i64.wrap (b*d)=b*d:=IntWalk.i64_in _ (by omega)
 have m5:=mul_small ha hc
 obtain⟨m5,n5⟩:=m5
 have m6:=mul_small hb hc
 obtain⟨m6,n6⟩:=m6
 have w5:IntKind.i64.wrap (a*c)=a*c:=IntWalk.i64_in _ (by omega)
 have w6:IntKind.i64.wrap (b*c)=b*c:=IntWalk.i64_in _ (by omega)
 have hs:(a*d+c*b).natAbs<=4611686018427387904:=by omega
 have hl:(b*d)<=4611686018427387904:=by omega
 have h4:0<(b*d):=m4
 have HS:=Lib.hid hs
 have HL:=Lib.hid hl
 have H4:=Lib.hid h4
 clear hs hl m4 h4 ha hb hc hd
 go_enter Tryz.func35,Tryz.ntmps35
 go_wp2_with (go_at_call 43;go_must(refine(rLowest_any _ _ _ HS.out H4.out HL.out).mono ?_);rintro e w1 ⟨rfl,z1,rfl⟩;simp only[fracV])
 refine bodyPost_ret (v:=fracV (Rat.divInt (a*d+c*b) (b*d))) ?_ rfl ?_
 ·refine results_frac rfl _ _ _ _ _ rfl ?_ ?_
  ·simp[go_sem]
  ·simp[go_sem]
 ·exact Ret.of rfl Bw
theorem rAdd_any (p q:Rat) (w:World) (hsp:small5 p) (hsq:small5 q):Calls Tryz.prog 35 #[fracV p,fracV q] w (Ret w (fracV (p+q))):=by
 rw[add_divInt]
 exact rAddI _ _ _ _ _ hsp.1 (by have:=hsp.2;omega) hsq.1 (by have:=hsq.2;omega) (den_pos' p) (den_pos' q) trivial
set_option maxRecDepth 100000 in
set_option maxHeartbeats 2000000 in
theorem rSubI (a b c d:Int) (w:World) (ha:a.natAbs<=1000000000) (hb:b.natAbs<=1000000000) (hc:c.natAbs<=1000000000) (hd:d.natAbs<=1000000000) (hb0:0<b) (hd0:0<d) (_h:True):Calls Tryz.prog 16 #[.agg #[.int .i64 a, .int .i64 b], .agg #[.int .i64 c, .int .i64 d]] w (Ret w (fracV (Rat.divInt (a*d-c*b) (b*d)))):=by
 have m1:=mul_small ha hd
 have m2:=mul_small hc hb
 have m3:=mul_small hb hd
 have m4:0<b*d:=Int.mul_pos hb0 hd0
 obtain⟨m1,n1⟩:=m1
 obtain⟨m2,n2⟩:=m2
 obtain⟨m3,n3⟩:=m3
 have w1:IntKind.i64.wrap (a*d)=a*d:=IntWalk.i64_in _ (by omega)
 have w2:IntKind.i64.wrap (c*b)=c*b:=IntWalk.i64_in _ (by omega)
 have w3:IntKind.i64.wrap (b*d)=b*d:=IntWalk.i64_in _ (by omega)
 have m5:=mul_small ha hc
 obtain⟨m5,n5⟩:=m5
 have m6:=mul_small hb hc
 obtain⟨m6,n6⟩:=m6
 have w5:IntKind.i64.wrap (a*c)=a*c:=IntWalk.i64_in _ (by omega)
 have w6:IntKind.i64.wrap (b*c)=b*c:=IntWalk.i64_in _ (by omega)
 have hs:(a*d-c*b).natAbs<=4611686018427387904:=by omega
 have hl:(b*d)<=4611686018427387904:=by omega
 have h4:0<(b*d):=m4
 have HS:=Lib.hid hs
 have HL:=Lib.hid hl
 have H4:=Lib.hid h4
 clear hs hl m4 h4 ha hb hc hd
 go_enter Tryz.func16,Tryz.ntmps16
 go_wp2_with (go_at_call 43;go_must(refine(rLowest_any _ _ _ HS.out H4.out HL.out).mono ?_);rintro e w1 ⟨rfl,z1,rfl⟩;simp only[fracV])
 refine bodyPost_ret (v:=fracV (Rat.divInt (a*d-c*b) (b*d))) ?_ rfl ?_
 ·refine results_frac rfl _ _ _ _ _ rfl ?_ ?_
  ·simp[go_sem]
  ·simp[go_sem]
 ·exact Ret.of rfl Bw
theorem rSub_any (p q:Rat) (w:World) (hsp:small5 p) (hsq:small5 q):Calls Tryz.prog 16 #[fracV p,fracV q] w (Ret w (fracV (p-q))):=by
 rw[sub_divInt]
 exact rSubI _ _ _ _ _ hsp.1 (by have:=hsp.2;omega) hsq.1 (by have:=hsq.2;omega) (den_pos' p) (den_pos' q) trivial
set_option maxRecDepth 100000 in
set_option maxHeartbeats 2000000 in
theorem rZero_any (w:World):Calls Tryz.prog 42 #[] w (Ret w (.agg #[.int .i64 0, .int .i64 1])):=by
 go_enter Tryz.func42,Tryz.ntmps42
 go_wp2_with fail
 refine bodyPost_ret (v:= .agg #[.int .i64 0, .int .i64 1]) ?_ rfl ?_
 ·refine results_frac rfl _ _ w.heap.size _ _ rfl ?_ ?_
  ·simp[go_sem]
  ·simp[go_sem]
 ·exact Ret.of rfl Bw
end Go.Proofs.YtmaidggpbihlgaaGreatDoor
