/- Walk of chapter 5's death. -/
import Derived.Test.YtmaidggpbihlgaaGreatDoorE1
import Derived.Test.YtmaidggpbihlgaaGreatDoorE3
import Derived.Test.YtmaidggpbihlgaaGreatDoorEA
import Derived.Test.YtmaidggpbihlgaaGreatDoorJ4
set_option linter.unusedSimpArgs false
set_option linter.unusedVariables false
namespace Go.Proofs.YtmaidggpbihlgaaGreatDoor
open Go.RowKit Go.Shelf
attribute [local go_sem] World.cell?_alloc_mark ext_size ext_cell ext_frozen lt_add_r lt_add_r2 lt_add_r3 lt_add_r4 lt_add_r5 lt_add_r6 lt_add_r7 lt_add_r8
attribute [local go_sem] ext_setCell alloc_setCell_lt
theorem B_drop {w W:World} (h:Below w.drew.heap.size w.drew W):Below w.heap.size w W:=⟨h.os,h.tape,h.output,h.size,h.block⟩
theorem W_one (w:World) (o:Obj):Below w.heap.size w (w.alloc o):=B_alloc (Below.refl _ _) _
set_option maxRecDepth 100000 in
set_option maxHeartbeats 4000000 in
theorem death_any (base b:Nat) (s:St) (la co last:Int) (laws:List Law) (LA:Option Addr) (lc:Nat) (d:Deed) (B:Option Addr) (c:Nat) (w:World) (hW:WldAt base w b s la co) (hGS:GoodSt s last) (hl:last<=d.day) (hk:d.kind=8) (hlaw:isShareP 16 (lawOnP laws d.day).num (lawOnP laws d.day).den=true) (hll:laws.length<=10) (hLS:Sl w 4 Law.cells LA laws)
 (hgn:s.graves.length<=1000) (hkl:s.children.length<=1000) (hml:s.marriages.length<=1000) (hwl:(willOf s d.frm).length<=1000) (hgl: ∀g∈s.graves,g.holders.length<=70000/\g.died.length<=1000):
 Calls Tryz.prog 85 #[.pointer (some ⟨b,0,none⟩), .slice LA laws.length lc,d.v B c] w (TakePost base b (deathP laws s d) la co w):=by
 have hq:=deathP_eq hGS hl hlaw
 have hEB:=estate_bd (s:=s) (law:=lawOnP laws d.day) (hGS.wills d.frm) hlaw
 have hW0:=hW
 obtain⟨Bk,dd,cc,pp,wl,rr,mv,tv,ps,hb0,hC,hP,hT⟩:=hW
 have hbl:=blk_lt hC
 obtain⟨kd,dy,pl,fr,ts,cl,yr⟩:=d
 simp only at*
 clear hk
 have HX:Hid (deathP laws s ⟨kd,dy,pl,fr,ts,cl,yr⟩=_):=hq
 generalize deathP laws s ⟨kd,dy,pl,fr,ts,cl,yr⟩=X at*
 obtain⟨TA,tc,rfl,_,htc⟩:=hT.own.sl ptrC_len
 have hTS:=hT.own
 have HPL:=Lib.hid hT.len
 have HC:=Lib.hid hC
 have HP:=Lib.hid hP
 have HT:=Lib.hid hT
 have HW:=Lib.hid hW0
 have HGS:=Lib.hid hGS
 have HGL:=Lib.hid hgl
 have HLS:=Lib.hid hLS
 have HEB:=Lib.hid hEB
 unfold WldC at hC
 have c0:w.cell? ⟨b,0,none⟩=some (.map (some dd)):=by simp only[World.cell?,hC];rfl
 have c6:w.cell? ⟨b,6,none⟩=some (.slice TA ps.length tc):=by simp only[World.cell?,hC];rfl
 have HLK:=Lib.hid (fun W (hB:Below w.heap.size w W)=>look_dead (HP.out.keep hB) fr)
 have hk0: ∀q',_:=fun q'=>HLK.out ((w.alloc (.cells #[.int .i64 kd, .int .i64 dy, .string pl, .string fr, .slice B ts.length c, .int .i64 cl, .int .i64 yr] 56)).drewN q') (B_drewN Bw _)
 generalize hdx:isDeadP s fr=dx at*
 clear hC hP hT hW0 hGS hgl hLS hq hEB
 unfold Deed.v
 simp only
 go_enter Tryz.func85,Tryz.ntmps85
 go_upto_region 1 with fail
 cases dx
 ·go_quiet (fail)
  go_upto_block 0 with fail
  have hB2:Below w.heap.size w (((w.alloc (.cells #[.int .i64 kd, .int .i64 dy, .string pl, .string fr, .slice B ts.length c, .int .i64 cl, .int .i64 yr] 56)).drewN nq).alloc (.cells #[.bool false] 97)):=B_alloc (B_drewN Bw _) _
  have D2:(((w.alloc (.cells #[.int .i64 kd, .int .i64 dy, .string pl, .string fr, .slice B ts.length c, .int .i64 cl, .int .i64 yr] 56)).drewN nq).alloc (.cells #[.bool false] 97)).heap[w.heap.size]?=some (.cells #[.int .i64 kd, .int .i64 dy, .string pl, .string fr, .slice B ts.length c, .int .i64 cl, .int .i64 yr] 56):=J_alloc (J_new _ _ _ rfl)
  have M2:MarkAt (((w.alloc (.cells #[.int .i64 kd, .int .i64 dy, .string pl, .string fr, .slice B ts.length c, .int .i64 cl, .int .i64 yr] 56)).drewN nq).alloc (.cells #[.bool false] 97)) (w.heap.size+1) false:=J_new _ _ _ (by simp[World.drewN])
  have s2:(((w.alloc (.cells #[.int .i64 kd, .int .i64 dy, .string pl, .string fr, .slice B ts.length c, .int .i64 cl, .int .i64 yr] 56)).drewN nq).alloc (.cells #[.bool false] 97)).heap.size=w.heap.size+1+1:=by simp[World.drewN]
  generalize(((w.alloc (.cells #[.int .i64 kd, .int .i64 dy, .string pl, .string fr, .slice B ts.length c, .int .i64 cl, .int .i64 yr] 56)).drewN nq).alloc (.cells #[.bool false] 97))=W2 at*
  have HB2:=Lib.hid hB2
  have HD2:=Lib.hid D2
  have HM2:=Lib.hid M2
  have S2:=Lib.hid s2
  clear D2 M2 s2 hk0
  have hs2:=hB2.size
  clear hB2
  go_cut [8,10,35]from 36 (fun v8 _ _ wc=> ∃A n,v8= .slice A (heldPs fr dy ps s.graves).length n/\OwnS wc W2.heap.size 83 1 ptrC v8 (heldPs fr dy ps s.graves)/\Below W2.heap.size W2 wc)
  case first=>
   go_wp2_with fail
   go_loopw [8,35] (fun v i wr=> ∃(k:Nat),k<=ps.length/\i= .int .i64 k/\OwnS wr W2.heap.size 83 1 ptrC v (heldPs fr dy ps (s.graves.take k))/\Below W2.heap.size W2 wr) (fun _ i _=>ps.length-(intOf i).toNat)
   case atStart=>exact⟨0,Nat.zero_le _,rfl,OwnS.nil,Below.refl _ _⟩
   case round=>
    obtain⟨k,hk,rfl,hown,hB⟩:=hrel
    obtain⟨VA,vc,rfl,_,hvc⟩:=hown.sl ptrC_len
    have hbw:Below w.heap.size w wr:=HB2.out.trans (hB.mono hs2)
    have hsz:=hB.size
    have HO:=Lib.hid hown
    have HB:=Lib.hid hB
    have e1:wr.cell? ⟨w.heap.size,1,none⟩=some (.int .i64 dy):=(B_cell hB (by have:=S2.out;omega)).trans (by simp only[World.cell?,HD2.out];rfl)
    have e3:wr.cell? ⟨w.heap.size,3,none⟩=some (.string fr):=(B_cell hB (by have:=S2.out;omega)).trans (by simp only[World.cell?,HD2.out];rfl)
    have hdl:w.heap.size<wr.heap.size:=by have:=S2.out;omega
    by_cases hlt:k<ps.length
    ·have hgk:k<s.graves.length:=by have:=HPL.out;omega
     have hTk:=(HT.out.keep hbw).all k ps[k] s.graves[k] (List.getElem?_eq_getElem hlt) (List.getElem?_eq_getElem hgk)
     have hgg:=HGS.out.graves s.graves[k] (List.getElem_mem hgk)
     have hgln:=HGL.out s.graves[k] (List.getElem_mem hgk)
     obtain⟨TB,toff,hTe,hTb,hTc⟩:=(show Sl wr 1 ptrC TA ps from by
      obtain⟨A',c',e',h',_⟩:=(hTS.keep hbw).sl ptrC_len
      simp only[Value.slice.injEq]at e'
      rw[e'.1];exact h').at hlt
     subst hTe
     have hsn:=held_snoc fr dy s.graves hgk
     have hpd:ps.getD k 0=ps[k]:=by rw[List.getD_eq_getElem?_getD,List.getElem?_eq_getElem hlt];rfl
     have i0:wr.cell? ⟨TB,toff+k,none⟩=some (.pointer (some ⟨ps[k],0,none⟩)):=by have:=hTc 0 _ rfl;simpa using this
     have hhp:heldPs fr dy ps (s.graves.take (k+1))=heldPs fr dy ps (s.graves.take k)++if heldQ fr dy s.graves[k]then[ps[k]]else[]:=by
      unfold heldPs
      rw[hsn,List.map_append]
      cases heldQ fr dy s.graves[k]
      ·rfl
      ·show _++[ps.getD k 0]=_
       rw[hpd]
       rfl
     generalize ps[k]=T at*
     generalize s.graves[k]=g at*
     have hqd:heldQ fr dy g=(inForceP g dy&&decide (0<(shareP g.holders fr).num)):=rfl
     obtain⟨H,hc',D,dc,frm,t1,t2,t3,t4,t5,t6,t7⟩:=hTk
     have hTl:=blk_lt t1
     unfold TombC at t1
     have g3:wr.cell? ⟨T,3,none⟩=some (.int .i64 g.fin):=by simp only[World.cell?,t1];rfl
     have g4:wr.cell? ⟨T,4,none⟩=some (.slice H g.holders.length hc'):=by simp only[World.cell?,t1];rfl
     have HIF:=Lib.hid (fun W (hW:Below wr.heap.size wr W)=>inForce_any g H hc' T dy W ((B_cell hW hTl).trans g3) ((B_cell hW hTl).trans g4))
     have HSH:=Lib.hid (fun W (hW:Below wr.heap.size wr W)=>share_any g.holders H hc' T fr W ((B_cell hW hTl).trans g4) (Nat.lt_of_lt_of_le hTl hW.size) (by omega) hgg.good.asc (Ro.sl part_len (t5.keep hW)))
     have HHP:=Lib.hid hhp
     have HQD:=Lib.hid hqd
     generalize inForceP g dy=fi at*
     generalize shareP g.holders fr=q at*
     unfold fracV at HSH
     have hki:(k:Int)<(ps.length:Int):=by omega
     have hk0:(0:Int)<=(k:Int):=by omega
     have hkc:(k:Int)<=(tc:Int):=by omega
     have hlk:(heldPs fr dy ps (s.graves.take k)).length<=1000:=by
      unfold heldPs
      rw[List.length_map,held_len]
      refine Nat.le_trans (List.length_filter_le _ _) ?_
      rw[List.length_take]
      omega
     generalize heldPs fr dy ps (s.graves.take k)=hps at*
     have HLN:=Lib.hid hlk
     clear hgg hgln hsn hhp hqd t1 t5 t6 t7 t2 t3 t4 hTc hown hB hbw hlk hpd g3 g4
     have hff:=field_frac q.num q.den
     cases fi
     ·rw[Bool.false_and]at HQD
      go_wp2_with (go_at_call 66;refine(HIF.out _ Bw).mono ?_;rintro e wq ⟨rfl,z,rfl⟩)
      go_round
      case rel=>exact⟨k+1,by omega,by go_num,by rw[HHP.out,HQD.out];simpa using HO.out.keep (n:=wr.heap.size) Bw,HB.out.trans ((Bw:Below wr.heap.size wr _).mono hsz)⟩
      case measure=>simp[intOf];omega
     ·by_cases hq:0<q.num
      ·have HQ2:Hid (heldQ fr dy g=true):=by show _=_;rw[HQD.out];simpa using hq
       go_wp2_with (first
        |(go_at_call 66;refine(HIF.out _ Bw).mono ?_;rintro e wq ⟨rfl,z,rfl⟩)
        |(go_at_call 132;refine(HSH.out _ Bw).mono ?_;rintro e wq2 ⟨rfl,z2,rfl⟩)
        |(at_builtin;go_loud(refine wpList_append_S (v:= .slice VA hps.length vc) (n:=hps.length) (m:=1) rfl _ _ rfl elTomb ptrC_len ptrC_one rfl (HO.out.keep (n:=wr.heap.size) Bw) rfl rfl rfl (sl_ptr (T:=T) (J_new _ _ _ (by simp[ext_size]))) (by have:=HLN.out;simp[maxLen];omega) (by have:=HLN.out;omega) (by simp[ext_size];omega) ?_);intro v3 w3 h1 h2 h3))
       have hb3:Below W2.heap.size W2 w3:=Below.grown (a:=W2) (B:=W2.heap.size) (HB.out.trans ((Bw:Below wr.heap.size wr _).mono hsz)) h2 (by simp[ext_size];omega) (fun j hj=>(HO.out.ge j hj).1)
       have HB3:=Lib.hid hb3
       have H1:=Lib.hid h1
       clear h1 h2 h3 hb3
       go_wp2_with fail
       go_round
       case rel=>exact⟨k+1,by omega,by go_num,by rw[HHP.out,HQ2.out];exact H1.out,HB3.out⟩
       case measure=>simp[intOf];omega
      ·have HQ2:Hid (heldQ fr dy g=false):=by show _=_;rw[HQD.out];simpa using hq
       go_wp2_with (first
        |(go_at_call 66;refine(HIF.out _ Bw).mono ?_;rintro e wq ⟨rfl,z,rfl⟩)
        |(go_at_call 132;refine(HSH.out _ Bw).mono ?_;rintro e wq2 ⟨rfl,z2,rfl⟩))
       go_round
       case rel=>exact⟨k+1,by omega,by go_num,by rw[HHP.out,HQ2.out];simpa using HO.out.keep (n:=wr.heap.size) Bw,HB.out.trans ((Bw:Below wr.heap.size wr _).mono hsz)⟩
       case measure=>simp[intOf];omega
    ·have hki: ¬(k:Int)<(ps.length:Int):=by omega
     have hte:heldPs fr dy ps (s.graves.take k)=heldPs fr dy ps s.graves:=by rw[List.take_of_length_le (by have:=HPL.out;omega)]
     have HTE:=Lib.hid hte
     clear hte hown hB hbw
     go_wp2_with fail
     go_meet
     have hO:=HO.out
     rw[HTE.out]at hO⊢
     exact⟨VA,vc,rfl,hO,HB.out⟩
  case rest=>
   obtain⟨HA,hn,rfl,hown,hB⟩:=hcut
   have hbw:Below w.heap.size w wc:=HB2.out.trans (hB.mono hs2)
   have hD:wc.heap[w.heap.size]?=some (.cells #[.int .i64 kd, .int .i64 dy, .string pl, .string fr, .slice B ts.length c, .int .i64 cl, .int .i64 yr] 56):=(hB.block _ (by have:=S2.out;omega)).trans HD2.out
   have hM:MarkAt wc (w.heap.size+1) false:=(hB.block _ (by have:=S2.out;omega)).trans HM2.out
   have hany:(heldPs fr dy ps s.graves).length=0->s.graves.any (heldQ fr dy)=false:=fun h=>by
    unfold heldPs at h
    rw[List.length_map,held_len]at h
    rw[List.any_eq_false]
    intro g hg hq
    have:g∈s.graves.filter (heldQ fr dy):=List.mem_filter.2 ⟨hg,hq⟩
    rw[List.eq_nil_of_length_eq_zero h]at this
    cases this
   have HANY:=Lib.hid hany
   have HO:=Lib.hid hown
   have HBW:=Lib.hid hbw
   have HD:=Lib.hid hD
   have HM:=Lib.hid hM
   clear hany hown hbw hD hM
   go_upto_if 58 with fail
   go_cut [11,12,14,15,16,18,19,20,21,58]from 59 (fun _ _ _ _ _ _ _ _ _ _ W=> ∃gs,Hid (X=({s with graves:=gs,dead:=s.dead++[fr]},0))/\WldAt base W b {s with graves:=gs} la co/\Below base w W/\W.heap[w.heap.size]?=some (.cells #[.int .i64 kd, .int .i64 dy, .string pl, .string fr, .slice B ts.length c, .int .i64 cl, .int .i64 yr] 56)/\KeepD w W)
   case first=>
    by_cases hz:(heldPs fr dy ps s.graves).length=0
    ·have hz1: ¬(0:Int)<((heldPs fr dy ps s.graves).length:Int):=by omega
     have hX:=HX.out
     rw[HANY.out hz]at hX
     have HX2:=Lib.hid hX
     clear hz hX
     go_wp2_with fail
     go_meet
     refine⟨s.graves,?_,HW.out.keep HBW.out,HBW.out.mono (by have:=HW.out.lt;omega),HD.out,KeepD.below HBW.out⟩
     show _=_
     rw[HX2.out]
     simp
    ·have hz1:(0:Int)<((heldPs fr dy ps s.graves).length:Int):=by omega
     have HZ:=Lib.hid hz
     have d1:wc.cell? ⟨w.heap.size,1,none⟩=some (.int .i64 dy):=by simp only[World.cell?,HD.out];rfl
     have d3:wc.cell? ⟨w.heap.size,3,none⟩=some (.string fr):=by simp only[World.cell?,HD.out];rfl
     have hdl:w.heap.size<wc.heap.size:=blk_lt HD.out
     have hbs:=HBW.out.size
     have HEF:=Lib.hid (show∃EF,EF=estateF s (lawOnP laws dy) fr from⟨_,rfl⟩)
     obtain⟨EF,hEF⟩:=HEF.out
     rw[<-hEF]at HEB HX
     have hel:EF.1.length<=3000:=by
      have h1:=HEB.out.good
      have h2:=heirs_len (s:=s) (law:=lawOnP laws dy) (n:=fr) (by rw[<-hEF];exact h1)
      rw[<-hEF]at h2
      omega
     have HEL:=Lib.hid hel
     have HE:=Lib.hid hEF
     clear hz hEF HEF hel
     go_upto_region 12 with fail
     clear hz1
     go_cut [11,58]from 59 (fun v11 _ W=> ∃A n,v11= .slice A EF.1.length n/\OwnS W (w.heap.size+1+1) 49 3 partCells v11 EF.1/\MarkAt W (w.heap.size+1) EF.2/\wc.grownBy W (some (w.heap.size+1)))
     case first=>
      refine wp_region_held_drew (S:=(fun w'=>w'.cell? ⟨w.heap.size,1,none⟩=some (.int .i64 dy)/\w'.cell? ⟨w.heap.size,3,none⟩=some (.string fr))) (by kernel_rfl) ?hS ?hrest
      case hS=>exact⟨d1,d3⟩
      case hrest=>
       intro hHeld
       refine TkH 0 ?_
       refine TkH 1 ?_
       refine TkH 2 ?_
       refine TkH 3 ?_
       refine TkH 4 ?_
       refine TkH 5 ?_
       refine TkH 7 ?_
       refine TkH 8 ?_
       refine wpAnyH_ready (rs:=[6]) (by kernel_rfl) (by simp) (AllReadyH.cons (List.getElem?_toArray.trans rfl) (fun K hK=> ?_) AllReadyH.nil)
       go_simp
       refine(lawOn5_any laws LA lc dy _ hll (HLS.out.keep (HBW.out.trans ((B_drew (Below.refl _ _)).mono hbs)))).mono ?_
       rintro e w5 ⟨rfl,z,rfl⟩
       refine hK.out _ _ ?_ (fun hHeld=> ?_)
       focus((try dsimp only);exact⟨(ext_cell _ _ _ _ hdl).trans d1,(ext_cell _ _ _ _ hdl).trans d3⟩)
       clear hK K
       try simp only[Act.put,List.setIfInBounds_toArray,List.set_cons_zero,List.set_cons_succ]
       refine wpAnyH_ready (rs:=[9]) (by kernel_rfl) (by simp) (AllReadyH.cons (List.getElem?_toArray.trans rfl) (fun K hK=> ?_) AllReadyH.nil)
       go_simp
       refine(estate_any base b (w.heap.size+1) s last (lawOnP laws dy) fr _ ?q1 HGS.out ?q2 hkl hml hwl hlaw).mono ?_
       case q1=>exact fun W hW=>HW.out.peo.keep (grown_below (HBW.out.trans ((B_ext (B_drew (Below.refl _ _)) z).mono hbs)) hW (by omega))
       case q2=>exact HM.out.drew.ext z
       rintro e w6 ⟨v,rfl,n1,n2,n3⟩
       rw[<-HE.out]at n1 n2
       have n3':wc.grownBy w6 (some (w.heap.size+1)):=⟨n3.os,n3.tape,n3.output,Nat.le_trans (by simp[ext_size]) n3.size,fun k hk hne=>(n3.block k (by simp[ext_size];omega) hne).trans (ext_heap_lt _ _ _ hk)⟩
       have N1:=Lib.hid n1
       have N2:=Lib.hid n2
       have N3:=Lib.hid n3'
       clear n1 n2 n3 n3'
       refine hK.out _ _ ?_ (fun hHeld=> ?_)
       focus((try dsimp only);exact⟨(G_cell N3.out hdl (by omega)).trans d1,(G_cell N3.out hdl (by omega)).trans d3⟩)
       clear hK K
       try simp only[Act.put,List.setIfInBounds_toArray,List.set_cons_zero,List.set_cons_succ]
       refine wpAnyH_ready (rs:=[10]) (by kernel_rfl) (by simp) (AllReadyH.cons (List.getElem?_toArray.trans rfl) (fun K hK=> ?_) AllReadyH.nil)
       go_simp
       refine hK.out _ _ ?_ (fun hHeld=> ?_)
       focus((try dsimp only);exact⟨(G_cell N3.out hdl (by omega)).trans d1,(G_cell N3.out hdl (by omega)).trans d3⟩)
       clear hK K
       try simp only[Act.put,List.setIfInBounds_toArray,List.set_cons_zero,List.set_cons_succ]
       refine wpAnyH_done (by kernel_rfl) ?_ _
       go_wp2_with fail
       go_meet
       obtain⟨A9,n9,rfl,_,_⟩:=N1.out.sl part_len
       exact⟨A9,n9,rfl,OwnS.base_le N1.out (by have:=S2.out;have:=hB.size;simp[ext_size];omega),N2.out,N3.out⟩
     case rest=>
      obtain⟨EA,en,rfl,n1,n2,n3⟩:=hcut
      have hFw:Below w.heap.size w wc:=grown_below HBW.out n3 (by omega) (by have:=HBW.out.size;omega)
      have hD5:wc.heap[w.heap.size]?=some (.cells #[.int .i64 kd, .int .i64 dy, .string pl, .string fr, .slice B ts.length c, .int .i64 cl, .int .i64 yr] 56):=(n3.block _ hdl (by simp)).trans HD.out
      have hO5:OwnS wc (w.heap.size+1+1) 83 1 ptrC (.slice HA (heldPs fr dy ps s.graves).length hn) (heldPs fr dy ps s.graves):=(OwnS.base_le HO.out (by have:=S2.out;omega)).grown n3 (by
       cases hb:blkOf (.slice HA (heldPs fr dy ps s.graves).length hn)with
       |none=>exact .inl rfl
       |some g=>exact .inr fun e=>by have:=(HO.out.ge g hb).1;have:=S2.out;simp at e;omega)
      have HO5:=Lib.hid hO5
      have HE5:=Lib.hid n1
      have HM5:=Lib.hid n2
      have HD5:=Lib.hid hD5
      have HF5:=Lib.hid hFw
      have hs5:=n3.size
      have hHL:(heldPs fr dy ps s.graves).length<=1000:=by
       unfold heldPs
       rw[List.length_map,held_len]
       exact Nat.le_trans (List.length_filter_le _ _) hgn
      have hfl:(heldPs fr dy ps s.graves).length=(s.graves.filter (heldQ fr dy)).length:=by
       unfold heldPs
       rw[List.length_map,held_len]
      have HFL:=Lib.hid hfl
      have HHT:=Lib.hid (fun(W:World) (hB:Below w.heap.size w W) j hj=>held_tomb (n:=fr) (day:=dy) (HT.out.keep hB) (j:=j) hj)
      have hGQ: ∀g∈s.graves.filter (heldQ fr dy),GoodG g/\g.holders.length<=70000/\g.died.length<=1000:=fun g hg=>⟨HGS.out.graves g (List.mem_filter.1 hg).1,HGL.out g (List.mem_filter.1 hg).1⟩
      have HGQ:=Lib.hid hGQ
      clear n1 n2 n3 hO5 hD5 hFw d1 d3 hdl hfl hGQ
      generalize hHs:heldPs fr dy ps s.graves=HL at*
      generalize hgs2:s.graves.filter (heldQ fr dy)=hgs at*
      have HHS:=Lib.hid hHs
      have HGS2:=Lib.hid hgs2
      clear hHs hgs2
      go_upto_block 2 with fail
      go_cut [12,14,15,16,18,19,71]from 72 (fun v12 _ _ _ _ _ _ W=> ∃A n es,v12= .slice A HL.length n/\OwnS W (w.heap.size+1+1) 86 6 tmC v12 es/\es.map (·.1)=(nextF fr EF.1 hgs EF.2).1/\(∀e∈es,TmOk W w.heap.size e)/\MarkAt W (w.heap.size+1) (nextF fr EF.1 hgs EF.2).2/\Below w.heap.size w W/\W.heap[w.heap.size]?=some (.cells #[.int .i64 kd, .int .i64 dy, .string pl, .string fr, .slice B ts.length c, .int .i64 cl, .int .i64 yr] 56)/\OwnS W (w.heap.size+1+1) 83 1 ptrC (.slice HA HL.length hn) HL)
      case first=>
       go_wp2_with fail
       go_loopw [12,71] (fun v i wr=> ∃(j:Nat) (es:List Tm),j<=HL.length/\i= .int .i64 j/\OwnS wr (w.heap.size+1+1) 86 6 tmC v es/\Hid (es.map (·.1)=(nextF fr EF.1 (hgs.take j) EF.2).1)/\Hid (∀e∈es,TmOk wr w.heap.size e)/\MarkAt wr (w.heap.size+1) (nextF fr EF.1 (hgs.take j) EF.2).2/\Below w.heap.size w wr/\wr.heap[w.heap.size]?=some (.cells #[.int .i64 kd, .int .i64 dy, .string pl, .string fr, .slice B ts.length c, .int .i64 cl, .int .i64 yr] 56)/\OwnS wr (w.heap.size+1+1) 83 1 ptrC (.slice HA HL.length hn) HL/\OwnS wr (w.heap.size+1+1) 49 3 partCells (.slice EA EF.1.length en) EF.1/\w.heap.size+1+1<=wr.heap.size) (fun _ i _=>HL.length-(intOf i).toNat)
       case atStart=>exact⟨0,[],Nat.zero_le _,rfl,OwnS.nil,rfl,fun e he=>by(cases he),HM5.out,HF5.out,HD5.out,HO5.out,HE5.out,by have:=S2.out;have:=hB.size;omega⟩
       case round=>
        obtain⟨j,es,hj,rfl,hown,HES,HOK,hm,hF,hD,hO,hE,hsz⟩:=hrel
        obtain⟨NA,nc,rfl,_,hnc⟩:=hown.sl tm_len
        have hfl:=HFL.out
        have hesl:es.length=j:=by
         have h1:=congrArg List.length HES.out
         rw[List.length_map,next_len,List.length_take]at h1
         omega
        have HN:=Lib.hid hown
        have HM:=Lib.hid hm
        have HF:=Lib.hid hF
        have HDX:=Lib.hid hD
        have HOX:=Lib.hid hO
        have HEX:=Lib.hid hE
        have e3:wr.cell? ⟨w.heap.size,3,none⟩=some (.string fr):=by simp only[World.cell?,hD];rfl
        have hdl:=blk_lt hD
        by_cases hlt:j<HL.length
        ·obtain⟨i,g,hi,hpi,hgi,hgj,hTA⟩:=HHT.out wr hF j hlt
         obtain⟨hgg,hgh,hgd⟩:=HGQ.out g (List.mem_of_getElem? hgj)
         obtain⟨hb',hoff,hHe,hbl',hHc⟩:=(show Sl wr 1 ptrC HA HL from by
          obtain⟨A',c',e',h',_⟩:=hO.sl ptrC_len
          simp only[Value.slice.injEq]at e'
          rw[e'.1];exact h').at hlt
         subst hHe
         have i0:wr.cell? ⟨hb',hoff+j,none⟩=some (.pointer (some ⟨HL[j],0,none⟩)):=by have:=hHc 0 _ rfl;simpa using this
         have hsn:=next_snoc fr EF.1 hgs EF.2 (k:=j) (by omega)
         have hgj2:hgs[j]'(by omega)=g:=by
          have:=List.getElem?_eq_getElem (l:=hgs) (i:=j) (by omega)
          rw[hgj]at this
          exact(Option.some.inj this).symm
         rw[hgj2]at hsn
         have HSN:=Lib.hid hsn
         generalize HL[j]=T at*
         obtain⟨H,hc',D,dc,frm,t1,t2,t3,t4,t5,t6,t7⟩:=hTA
         have hTl:=blk_lt t1
         unfold TombC at t1
         have m0:wr.cell? ⟨T,0,none⟩=some (.string g.place):=by simp only[World.cell?,t1];rfl
         have m1:wr.cell? ⟨T,1,none⟩=some (.int .i64 g.cls):=by simp only[World.cell?,t1];rfl
         have m2:wr.cell? ⟨T,2,none⟩=some (.int .i64 frm):=by simp only[World.cell?,t1];rfl
         have m3:wr.cell? ⟨T,3,none⟩=some (.int .i64 g.fin):=by simp only[World.cell?,t1];rfl
         have m4:wr.cell? ⟨T,4,none⟩=some (.slice H g.holders.length hc'):=by simp only[World.cell?,t1];rfl
         have m5:wr.cell? ⟨T,5,none⟩=some (.slice D g.died.length dc):=by simp only[World.cell?,t1];rfl
         have HT1:=Lib.hid t1
         have HT6:=Lib.hid t6
         have HCL:=Lib.hid (fun W (hW:Below wr.heap.size wr W)=>clonePart_any g.holders H g.holders.length hc' W rfl (by omega) (Ro.sl part_len (t5.keep hW)))
         have hTn:T≠wr.heap.size:=by omega
         have hwn:w.heap.size≠wr.heap.size:=by omega
         have hki:(j:Int)<(HL.length:Int):=by omega
         have hk0:(0:Int)<=(j:Int):=by omega
         have hHn:(HL.length:Int)<=(hn:Int):=by
          obtain⟨A',c',e',_,h'⟩:=hO.sl ptrC_len
          simp only[Value.slice.injEq]at e'
          omega
         generalize nextF fr EF.1 (hgs.take j) EF.2=nx at*
         have HFLAG:=Lib.hid hfl
         have HES2:=Lib.hid hesl
         clear hfl hesl hown hm hF hD hO hE hHc hsn hgj2 hgj hgi hpi hi t1 t5 t6 t7 t2 t3 t4
         go_upto_region 18 with fail
         have hBA:Below wr.heap.size wr (wr.alloc (.cells #[.string g.place, .int .i64 g.cls, .int .i64 frm, .int .i64 g.fin, .slice H g.holders.length hc', .slice D g.died.length dc] 86)):=Bw
         have hXA:(wr.alloc (.cells #[.string g.place, .int .i64 g.cls, .int .i64 frm, .int .i64 g.fin, .slice H g.holders.length hc', .slice D g.died.length dc] 86)).heap[wr.heap.size]?=some (.cells #[.string g.place, .int .i64 g.cls, .int .i64 frm, .int .i64 g.fin, .slice H g.holders.length hc', .slice D g.died.length dc] 86):=J_new _ _ _ rfl
         have hSA:(wr.alloc (.cells #[.string g.place, .int .i64 g.cls, .int .i64 frm, .int .i64 g.fin, .slice H g.holders.length hc', .slice D g.died.length dc] 86)).heap.size=wr.heap.size+1:=by simp
         generalize wr.alloc (.cells #[.string g.place, .int .i64 g.cls, .int .i64 frm, .int .i64 g.fin, .slice H g.holders.length hc', .slice D g.died.length dc] 86)=WA at*
         have y4:=(B_cell (o:=4) hBA hTl).trans m4
         have HXA:=Lib.hid hXA
         have HBA:=Lib.hid hBA
         have HSA:=Lib.hid hSA
         have hcl:=HCL.out WA hBA
         have HCL2:=Lib.hid hcl
         clear hXA hBA hSA hcl HCL
         have hslx:Below wr.heap.size wr WA:=HBA.out
         go_cut [83]from 78 to 124 (fun _ W=> ∃A1 c1,TombC W wr.heap.size g.place g.cls frm g.fin (.slice A1 g.holders.length c1) (.slice D g.died.length dc)/\OwnS W wr.heap.size 49 3 partCells (.slice A1 g.holders.length c1) g.holders/\Below wr.heap.size wr W)
         case first=>
          clear HHT HGQ HOK HES HM HFLAG HES2 HSN HN HEX HOX HDX HF HT6 HT1 HO5 HE5 HM5 HD5 HF5 HHS HGS2 HO HBW HD HANY HB2 HD2 HM2 S2 HLK HEB HLS HGL HGS HW HT HP HC HPL
          go_wp2_with (go_at_call 87
                       go_must(refine HCL2.out.mono ?_)
                       rintro e wq ⟨hv,rfl,o1,o2⟩
                       obtain⟨A1,c1,hv1,_,_⟩:=o1.sl part_len
                       subst hv1
                       have x1:=(o2.block wr.heap.size (by have:=HSA.out;omega)).trans HXA.out
                       have x3:=blk_lt x1
                       have x4:wq.frozen? ⟨wr.heap.size,4,none⟩=false:=(by simp only[World.frozen?,x1];rfl)
                       have x5:wq.cell? ⟨wr.heap.size,4,none⟩=some (.slice H g.holders.length hc'):=(by simp only[World.cell?,x1];rfl)
                       have X1:=Lib.hid x1
                       have O1:=Lib.hid o1
                       have O2:=Lib.hid o2
                       clear x1 o1 o2)
          go_meet
          refine⟨A1,c1,tomb_set4 (show TombC wq wr.heap.size g.place g.cls frm g.fin (.slice H g.holders.length hc') (.slice D g.died.length dc) from X1.out) _,?_,B_set (HBA.out.trans (O2.out.mono (by have:=HSA.out;omega))) (by simp) _⟩
          refine OwnS.base_le (OwnS.grown O1.out (grown_set _ _ _ _) (.inr fun e=> ?_)) (by have:=HSA.out;omega)
          have:=(O1.out.ge _ e).1
          have:=HSA.out
          omega
         case rest=>
          obtain⟨A1,c1,htx,hox,hBx⟩:=hcut
          have hsx:=hBx.size
          have hxl:=blk_lt htx
          have d3:wc.cell? ⟨w.heap.size,3,none⟩=some (.string fr):=(B_cell hBx hdl).trans e3
          have q5:wc.cell? ⟨T,5,none⟩=some (.slice D g.died.length dc):=(B_cell hBx hTl).trans m5
          have HCS:=Lib.hid (fun W (hW:Below wc.heap.size wc W)=>cloneStr_any g.died D g.died.length dc W rfl (by omega) (Ro.sl sC_len ((HT6.out.keep hBx).keep hW)))
          have HTX:=Lib.hid htx
          have HOXX:=Lib.hid hox
          have HBX:=Lib.hid hBx
          clear htx hox hBx
          go_upto_region 19 with fail
          go_cut [93]from 84 to 124 (fun _ W=> ∃A2 c2,TombC W wr.heap.size g.place g.cls frm g.fin (.slice A1 g.holders.length c1) (.slice A2 (g.died.length+[fr].length) c2)/\OwnS W wr.heap.size 9 1 sC (.slice A2 (g.died.length+[fr].length) c2) (g.died++[fr])/\OwnS W wr.heap.size 49 3 partCells (.slice A1 g.holders.length c1) g.holders/\Below wr.heap.size wr W)
          case first=>
           clear HHT HGQ HOK HES HM HFLAG HES2 HSN HN HEX HOX HDX HF HT6 HT1 HO5 HE5 HM5 HD5 HF5 HHS HGS2 HO HBW HD HANY HB2 HD2 HM2 S2 HLK HEB HLS HGL HGS HW HT HP HC HPL HCL2 HXA HBA HSA
           refine wp_region_held_drew (S:=(fun w'=>w'.cell? ⟨w.heap.size,3,none⟩=some (.string fr)/\w'.cell? ⟨T,5,none⟩=some (.slice D g.died.length dc))) (by kernel_rfl) ?hS ?hrest
           case hS=>exact⟨d3,q5⟩
           case hrest=>
            intro hHeld
            refine TkH 0 ?_
            refine TkH 1 ?_
            refine TkH 2 ?_
            refine TkH 3 ?_
            refine TkH 5 ?_
            refine TkH 6 ?_
            refine wpAnyH_ready (rs:=[4,7]) (by kernel_rfl) (by simp) (AllReadyH.cons (List.getElem?_toArray.trans rfl) (fun K hK=> ?_) (AllReadyH.cons (List.getElem?_toArray.trans rfl) (fun K hK=> ?_) AllReadyH.nil))
            ·go_simp
             refine(HCS.out _ Bw).mono ?_
             rintro e w5 ⟨hv,rfl,o1,o2⟩
             obtain⟨A5,c5,hv1,_,_⟩:=o1.sl sC_len
             subst hv1
             have z0:=o2.size
             have z1:w.heap.size<w5.heap.size:=by simp at z0;omega
             have z2:T<w5.heap.size:=by simp at z0;omega
             have z3:w5.cell? ⟨w.heap.size,3,none⟩=some (.string fr):=(B_cell o2 (by simp;omega)).trans d3
             have z5:w5.cell? ⟨T,5,none⟩=some (.slice D g.died.length dc):=(B_cell o2 (by simp;omega)).trans q5
             refine hK.out _ _ ?_ (fun hHeld=> ?_)
             focus((try dsimp only);exact⟨z3,z5⟩)
             clear hK K
             try simp only[Act.put,List.setIfInBounds_toArray,List.set_cons_zero,List.set_cons_succ]
             refine wpAnyH_ready (rs:=[7]) (by kernel_rfl) (by simp) (AllReadyH.cons (List.getElem?_toArray.trans rfl) (fun K hK=> ?_) AllReadyH.nil)
             go_simp
             refine hK.out _ _ ?_ (fun hHeld=> ?_)
             focus((try dsimp only);exact⟨(B_cell (B_alloc (Below.refl _ _) _) z1).trans z3,(B_cell (B_alloc (Below.refl _ _) _) z2).trans z5⟩)
             clear hK K
             try simp only[Act.put,List.setIfInBounds_toArray,List.set_cons_zero,List.set_cons_succ]
             refine wpAnyH_ready (rs:=[8]) (by kernel_rfl) (by simp) (AllReadyH.cons (List.getElem?_toArray.trans rfl) (fun K hK=> ?_) AllReadyH.nil)
             have oK:Below wc.drew.heap.size wc.drew (w5.alloc (.cells #[.string fr] 9)):=(B_alloc o2 _)
             refine step_append_S (v:= .slice A5 g.died.length c5) (n:=g.died.length) (m:=1) rfl _ _ rfl elStr5 sC_len sC_one rfl (xs:=g.died) (ys:=[fr]) (o1.keep (n:=w5.heap.size) Bw) rfl rfl rfl (sl_one (J_new w5 _ _ (by simp))) (by simp[maxLen];omega) (by omega) (by have:=z0;simp at this⊢;omega) ?_
             intro v6 w6 h1 h2 h3
             obtain⟨A6,c6,hv6,_,_⟩:=h1.sl sC_len
             rw[List.length_append]at hv6
             subst hv6
             have hge5:=o1.ge
             have hlow: ∀k,k<wc.heap.size->w6.heap[k]?=wc.heap[k]?:=fun k hk=>(h2.block k (by have:=oK.size;simp at this⊢;omega) (fun e=>by have:=(hge5 k e.symm).1;simp at this;omega)).trans (oK.block k (by simpa using hk))
             have htx6:TombC w6 wr.heap.size g.place g.cls frm g.fin (.slice A1 g.holders.length c1) (.slice D g.died.length dc):=(hlow _ hxl).trans HTX.out
             have hs6:wc.heap.size<=w6.heap.size:=by have a:=oK.size;have b:=h2.size;simp at a b⊢;omega
             have y3:w6.cell? ⟨w.heap.size,3,none⟩=some (.string fr):=(World.cell?_of_block (w:=wc) (hlow w.heap.size (by omega))).trans d3
             have y5:w6.cell? ⟨T,5,none⟩=some (.slice D g.died.length dc):=(World.cell?_of_block (w:=wc) (hlow T (by omega))).trans q5
             have htx7:=htx6
             unfold TombC at htx7
             have u5:w6.cell? ⟨wr.heap.size,5,none⟩=some (.slice D g.died.length dc):=by simp only[World.cell?,htx7];rfl
             have fu5:w6.frozen? ⟨wr.heap.size,5,none⟩=false:=by simp only[World.frozen?,htx7];rfl
             have hx6:=blk_lt htx6
             refine hK.out _ _ ?_ (fun hHeld=> ?_)
             focus((try dsimp only);exact⟨y3,y5⟩)
             clear hK K
             try simp only[Act.put,List.setIfInBounds_toArray,List.set_cons_zero,List.set_cons_succ]
             refine TkH 9 ?_
             refine wpAnyH_ready (rs:=[10]) (by kernel_rfl) (by simp) (AllReadyH.cons (List.getElem?_toArray.trans rfl) (fun K hK=> ?_) AllReadyH.nil)
             go_simp
             refine hK.out _ _ ?_ (fun hHeld=> ?_)
             focus((try dsimp only);exact⟨(World.cell?_setCell_far _ _ _ _ (by show wr.heap.size≠w.heap.size;omega)).trans y3,(World.cell?_setCell_far _ _ _ _ (by show wr.heap.size≠T;omega)).trans y5⟩)
             clear hK K
             try simp only[Act.put,List.setIfInBounds_toArray,List.set_cons_zero,List.set_cons_succ]
             refine wpAnyH_done (by kernel_rfl) ?_ _
             go_wp2_with fail
             go_meet
             have hb6:Below wc.heap.size wc w6:=Below.grown (a:=wc) (B:=wc.heap.size) (B_drop oK) h2 (by have:=oK.size;simp at this⊢;omega) (fun j hj=>by have:=(hge5 j hj).1;simp at this;omega)
             have hbt:blkOf (.slice A1 g.holders.length c1)≠some wr.heap.size:=own_neS HOXX.out HTX.out (by decide)
             exact⟨A6,c6,tomb_set5 htx6 _,OwnS.base_le (h1.grown (grown_set _ _ _ _) (.inr fun e=>by have:=(h1.ge _ e).1;simp at this;omega)) (by simp;omega),(HOXX.out.keep hb6).grown (grown_set _ _ _ _) (.inr hbt),B_set (HBX.out.trans (hb6.mono (by omega))) (by simp) _⟩
            ·go_simp
             have hBN:Below wc.heap.size wc (wc.drew.alloc (.cells #[.string fr] 9)):=B_alloc (B_drew (Below.refl _ _)) _
             refine hK.out _ _ ?_ (fun hHeld=> ?_)
             focus((try dsimp only);exact⟨(B_cell hBN (by omega)).trans d3,(B_cell hBN (by omega)).trans q5⟩)
             clear hK K
             try simp only[Act.put,List.setIfInBounds_toArray,List.set_cons_zero,List.set_cons_succ]
             refine wpAnyH_ready (rs:=[4]) (by kernel_rfl) (by simp) (AllReadyH.cons (List.getElem?_toArray.trans rfl) (fun K hK=> ?_) AllReadyH.nil)
             go_simp
             have D3:=d3
             have Q5:=q5
             have d3:=(B_cell hBN (by omega)).trans D3
             have q5:=(B_cell hBN (by omega)).trans Q5
             refine(HCS.out _ Bw).mono ?_
             rintro e w5 ⟨hv,rfl,o1,o2⟩
             obtain⟨A5,c5,hv1,_,_⟩:=o1.sl sC_len
             subst hv1
             have z0:=o2.size
             have z1:w.heap.size<w5.heap.size:=by simp at z0;omega
             have z2:T<w5.heap.size:=by simp at z0;omega
             have z3:w5.cell? ⟨w.heap.size,3,none⟩=some (.string fr):=(B_cell o2 (by simp;omega)).trans d3
             have z5:w5.cell? ⟨T,5,none⟩=some (.slice D g.died.length dc):=(B_cell o2 (by simp;omega)).trans q5
             have d3:=D3
             have q5:=Q5
             have hBO:=hBN.trans (o2.mono (by simp))
             have hNW:=(o2.block wc.heap.size (by simp)).trans (J_new wc.drew _ _ rfl)
             refine hK.out _ _ ?_ (fun hHeld=> ?_)
             focus((try dsimp only);exact⟨z3,z5⟩)
             clear hK K
             try simp only[Act.put,List.setIfInBounds_toArray,List.set_cons_zero,List.set_cons_succ]
             refine wpAnyH_ready (rs:=[8]) (by kernel_rfl) (by simp) (AllReadyH.cons (List.getElem?_toArray.trans rfl) (fun K hK=> ?_) AllReadyH.nil)
             have oK:Below wc.drew.heap.size wc.drew (w5):=⟨hBO.os,hBO.tape,hBO.output,hBO.size,hBO.block⟩
             refine step_append_S (v:= .slice A5 g.died.length c5) (n:=g.died.length) (m:=1) rfl _ _ rfl elStr5 sC_len sC_one rfl (xs:=g.died) (ys:=[fr]) (o1.keep (n:=w5.heap.size) Bw) rfl rfl rfl (sl_one hNW) (by simp[maxLen];omega) (by omega) (by have:=z0;simp at this⊢;omega) ?_
             intro v6 w6 h1 h2 h3
             obtain⟨A6,c6,hv6,_,_⟩:=h1.sl sC_len
             rw[List.length_append]at hv6
             subst hv6
             have hge5:=o1.ge
             have hlow: ∀k,k<wc.heap.size->w6.heap[k]?=wc.heap[k]?:=fun k hk=>(h2.block k (by have:=oK.size;simp at this⊢;omega) (fun e=>by have:=(hge5 k e.symm).1;simp at this;omega)).trans (oK.block k (by simpa using hk))
             have htx6:TombC w6 wr.heap.size g.place g.cls frm g.fin (.slice A1 g.holders.length c1) (.slice D g.died.length dc):=(hlow _ hxl).trans HTX.out
             have hs6:wc.heap.size<=w6.heap.size:=by have a:=oK.size;have b:=h2.size;simp at a b⊢;omega
             have y3:w6.cell? ⟨w.heap.size,3,none⟩=some (.string fr):=(World.cell?_of_block (w:=wc) (hlow w.heap.size (by omega))).trans d3
             have y5:w6.cell? ⟨T,5,none⟩=some (.slice D g.died.length dc):=(World.cell?_of_block (w:=wc) (hlow T (by omega))).trans q5
             have htx7:=htx6
             unfold TombC at htx7
             have u5:w6.cell? ⟨wr.heap.size,5,none⟩=some (.slice D g.died.length dc):=by simp only[World.cell?,htx7];rfl
             have fu5:w6.frozen? ⟨wr.heap.size,5,none⟩=false:=by simp only[World.frozen?,htx7];rfl
             have hx6:=blk_lt htx6
             refine hK.out _ _ ?_ (fun hHeld=> ?_)
             focus((try dsimp only);exact⟨y3,y5⟩)
             clear hK K
             try simp only[Act.put,List.setIfInBounds_toArray,List.set_cons_zero,List.set_cons_succ]
             refine TkH 9 ?_
             refine wpAnyH_ready (rs:=[10]) (by kernel_rfl) (by simp) (AllReadyH.cons (List.getElem?_toArray.trans rfl) (fun K hK=> ?_) AllReadyH.nil)
             go_simp
             refine hK.out _ _ ?_ (fun hHeld=> ?_)
             focus((try dsimp only);exact⟨(World.cell?_setCell_far _ _ _ _ (by show wr.heap.size≠w.heap.size;omega)).trans y3,(World.cell?_setCell_far _ _ _ _ (by show wr.heap.size≠T;omega)).trans y5⟩)
             clear hK K
             try simp only[Act.put,List.setIfInBounds_toArray,List.set_cons_zero,List.set_cons_succ]
             refine wpAnyH_done (by kernel_rfl) ?_ _
             go_wp2_with fail
             go_meet
             have hb6:Below wc.heap.size wc w6:=Below.grown (a:=wc) (B:=wc.heap.size) (B_drop oK) h2 (by have:=oK.size;simp at this⊢;omega) (fun j hj=>by have:=(hge5 j hj).1;simp at this;omega)
             have hbt:blkOf (.slice A1 g.holders.length c1)≠some wr.heap.size:=own_neS HOXX.out HTX.out (by decide)
             exact⟨A6,c6,tomb_set5 htx6 _,OwnS.base_le (h1.grown (grown_set _ _ _ _) (.inr fun e=>by have:=(h1.ge _ e).1;simp at this;omega)) (by simp;omega),(HOXX.out.keep hb6).grown (grown_set _ _ _ _) (.inr hbt),B_set (HBX.out.trans (hb6.mono (by omega))) (by simp) _⟩
          case rest=>
           obtain⟨A2,c2,htx,hds,hox,hBx⟩:=hcut
           obtain⟨W3,rfl⟩: ∃x,x=wc:=⟨_,rfl⟩
           obtain⟨WR,rfl⟩: ∃x,x=wr:=⟨_,rfl⟩
           have hsx:=hBx.size
           have hxl:=blk_lt htx
           have d3:W3.cell? ⟨w.heap.size,3,none⟩=some (.string fr):=(B_cell hBx hdl).trans e3
           have hx4:W3.cell? ⟨WR.heap.size,4,none⟩=some (.slice A1 g.holders.length c1):=by unfold TombC at htx;simp only[World.cell?,htx];rfl
           obtain⟨ho0,hosm,ho1,hbd⟩:=death_bd (n:=fr) (hs:=EF.1) hgg HEB.out
           have hsv: ∀W,Below W3.heap.size W3 W->_:=fun W hB=>share_any g.holders A1 c1 WR.heap.size fr W ((B_cell hB hxl).trans hx4) (Nat.lt_of_lt_of_le hxl hB.size) (by omega) hgg.good.asc (Ro.sl part_len (hox.ro'.keep hB))
           have hset: ∀W,TombC W WR.heap.size g.place g.cls frm g.fin (.slice A1 g.holders.length c1) (.slice A2 (g.died.length+[fr].length) c2)->OwnS W WR.heap.size 49 3 partCells (.slice A1 g.holders.length c1) g.holders->Calls Tryz.prog 131 #[.pointer (some ⟨WR.heap.size,0,none⟩), .string fr, .agg #[.int .i64 0, .int .i64 1]] W (SetPost W WR.heap.size WR.heap.size g.place g.cls frm g.fin (.slice A2 (g.died.length+[fr].length) c2) (.slice A1 g.holders.length c1) (setP g.holders fr 0)):=fun W h1 h2=>set_any WR.heap.size WR.heap.size g.holders _ g.place g.cls frm g.fin _ fr 0 W h1 (Nat.le_refl _) h2 hgg.good.asc (by omega)
           obtain⟨own,hown⟩: ∃own,own=shareP g.holders fr:=⟨_,rfl⟩
           rw[<-hown]at hsv ho0 hosm ho1 hbd
           have HSV:=Lib.hid hsv
           have HSET:=Lib.hid hset
           have HBD:=Lib.hid hbd
           have HOW:=Lib.hid hown
           have HTX:=Lib.hid htx
           have HOXX:=Lib.hid hox
           have HDS:=Lib.hid hds
           have HBX:=Lib.hid hBx
           clear hsv hset hbd hown htx hox hds hBx hx4
           unfold fracV at HSV
           go_upto_region 22 with(first
            |(go_at_call 132
              go_must(refine(HSV.out _ Bw).mono ?_)
              rintro e wq ⟨rfl,z,hz⟩
              have hq1:Below W3.heap.size W3 wq:=(by rw[hz];repeat(first|exact B_refl|exact Below.refl _ _|assumption|with_reducible refine B_alloc ?_ _|with_reducible refine B_ext ?_ _|with_reducible refine B_drew ?_|with_reducible refine B_drewN ?_ _|with_reducible refine B_set ?_ (by simp;omega) _))
              have d3q:=(B_cell hq1 (show w.heap.size<W3.heap.size by omega)).trans d3
              have dlq:=hq1.size
              have hwl:w.heap.size<wq.heap.size:=(by omega)
              have HQ1:=Lib.hid hq1
              clear hz hq1)
            |(go_at_call 131
              go_must(refine(HSET.out _ ?q1 ?q2).mono ?_)
              case q1=>exact J_alloc ((HQ1.out.block _ hxl).trans HTX.out)
              case q2=>exact HOXX.out.keep (n:=W3.heap.size) (B_alloc HQ1.out _)
              rintro e wz ⟨rfl,v',t1,t2,t3,t4⟩
              have T1:=Lib.hid t1
              have T2:=Lib.hid t2
              have T3:=Lib.hid t3
              have T4:=Lib.hid t4
              clear t1 t2 t3 t4))
           have hBz:Below WR.heap.size WR wz:=(HBX.out.trans ((B_alloc HQ1.out _).mono (by omega))).trans T3.out
           have hzl:=hBz.size
           have hTx1:(wq.alloc (fracB own)).heap[WR.heap.size]?=some (.cells #[.string g.place, .int .i64 g.cls, .int .i64 frm, .int .i64 g.fin, .slice A1 g.holders.length c1, .slice A2 (g.died.length+[fr].length) c2] 86):=J_alloc ((HQ1.out.block _ hxl).trans HTX.out)
           have hOx1:=HOXX.out.keep (n:=W3.heap.size) (B_alloc HQ1.out (fracB own))
           have hDx1:=HDS.out.keep (n:=W3.heap.size) (B_alloc HQ1.out (fracB own))
           have hkeep: ∀(j:Nat) (cur:Array Value) (t:TypeId) (f:Nat×Nat),(wq.alloc (fracB own)).heap[j]?=some (.cells cur t f)->t≠86->t≠49->wz.heap[j]?=(wq.alloc (fracB own)).heap[j]?:=fun j cur t f hj n1 n2=>
            T4.out j (blk_lt hj) (fun e=>by rw[e,hTx1]at hj;simp only[Option.some.injEq,Obj.cells.injEq]at hj;exact n1 hj.2.1.symm) (own_neS hOx1 hj n2)
           have hDz:OwnS wz WR.heap.size 9 1 sC (.slice A2 (g.died.length+[fr].length) c2) (g.died++[fr]):=hDx1.same (fun j cur _ hj=>hkeep j cur _ _ hj (by decide) (by decide))
           have hFz:wz.heap[wq.heap.size]?=some (fracB own):=(hkeep _ _ _ _ (J_new wq (fracB own) _ rfl) (by decide) (by decide)).trans (J_new wq (fracB own) _ rfl)
           have hMz:MarkAt wz (w.heap.size+1) nx.2:=HM.out.keep hBz (blk_lt HM.out)
           have hgz:WR.grownBy wz (some (w.heap.size+1)):=⟨hBz.os,hBz.tape,hBz.output,hBz.size,fun k hk _=>hBz.block k hk⟩
           have hln0:=len_set (n:=fr) (q:=0) (l:=g.holders)
           have hOq:WR.heap.size<wq.heap.size:=by have:=HQ1.out.size;omega
           have hml:=blk_lt HM.out
           obtain⟨O,hO⟩: ∃O,O=wq.heap.size:=⟨_,rfl⟩
           rw[<-hO]at hFz hOq⊢
           have hOz:=blk_lt hFz
           have HBZ:=Lib.hid hBz
           have HDZ:=Lib.hid hDz
           have HFZ:=Lib.hid hFz
           have HMZ:=Lib.hid hMz
           have HGZ:=Lib.hid hgz
           have HL0:=Lib.hid hln0
           clear hBz hDz hFz hMz hgz hkeep hTx1 hOx1 hDx1 hln0 d3q dlq hO d3 HQ1 T3 T4 HSV HSET hwl
           go_upto_block 4 with fail
           go_cut [18,19,103]from 104 to 124 (fun _ _ _ W=> ∃v out fl,Hid ((out,fl)=heirOf fr EF.1 g nx.2)/\MarkAt W (w.heap.size+1) fl/\TombC W WR.heap.size g.place g.cls frm g.fin v (.slice A2 (g.died.length+[fr].length) c2)/\OwnS W WR.heap.size 49 3 partCells v out/\OwnS W WR.heap.size 9 1 sC (.slice A2 (g.died.length+[fr].length) c2) (g.died++[fr])/\WR.grownBy W (some (w.heap.size+1)))
           case first=>
            clear HPL HC HP HT HW HGS HGL HLS c0 c6 HB2 HM2 S2 hs2 HBW hbs HE HE5 HM5 HF5 hs5 HANY HZ HGQ HFL HHS HGS2 HO HO5 hki hk0 hHn HES HFLAG HES2 y4 HCL2 d3 q5 HOK HN HF e3 i0 m0 m1 m2 m3 m4 m5 HT6 hTn hwn HBA HSA hslx HDS HBX HOX hTS
            go_wp2_with fail
            go_loopw [103] (fun i W=> ∃(k:Nat) (v:Value) (out:Parts) (fl:Bool),k<=EF.1.length/\i= .int .i64 k/\Hid ((out,fl)=gainF own (EF.1.take k) (setP g.holders fr 0,nx.2))/\Hid (out.length<=g.holders.length+1+k)/\MarkAt W (w.heap.size+1) fl/\TombC W WR.heap.size g.place g.cls frm g.fin v (.slice A2 (g.died.length+[fr].length) c2)/\OwnS W WR.heap.size 49 3 partCells v out/\OwnS W WR.heap.size 9 1 sC (.slice A2 (g.died.length+[fr].length) c2) (g.died++[fr])/\WR.grownBy W (some (w.heap.size+1))/\W.heap[O]?=some (fracB own)) (fun i _=>EF.1.length-(intOf i).toNat)
            case atStart=>exact⟨0,v',setP g.holders fr 0,nx.2,Nat.zero_le _,rfl,rfl,HL0.out,HMZ.out,T1.out,T2.out,HDZ.out,HGZ.out,HFZ.out⟩
            case round=>
             obtain⟨k,v,out,fl,hk,rfl,HX9,HLN,hm,htx,hox,hds,hgr,hfo⟩:=hrel
             clear HL0 HMZ T1 T2 HDZ HGZ HFZ HBZ
             obtain⟨A3,c3,rfl,hOS,hc3⟩:=hox.sl part_len
             have hbd:Bd out 1:=by have:=HBD.out nx.2 k;rw[<-HX9.out]at this;exact this
             have hE3:=HEX.out.grown hgr (.inr fun e=>by have:=(HEX.out.ge _ e).1;omega)
             have hxl3:=blk_lt htx
             have hOl:=blk_lt hfo
             have hml3:=blk_lt hm
             have hx4:wr.cell? ⟨WR.heap.size,4,none⟩=some (.slice A3 out.length c3):=by unfold TombC at htx;simp only[World.cell?,htx];rfl
             have HD:=Lib.hid hbd
             have HM3:=Lib.hid hm
             have HTX3:=Lib.hid htx
             have HOX3:=Lib.hid hox
             have HDS3:=Lib.hid hds
             have HGR:=Lib.hid hgr
             have HFO:=Lib.hid hfo
             have HOS:=Lib.hid hOS
             have HE3:=Lib.hid hE3
             clear hbd hm htx hox hds hfo hOS hgr
             by_cases hlt3:k<EF.1.length
             ·obtain⟨b',off,rfl,hb',hc⟩:=(hE3.sl' part_len).at hlt3
              obtain⟨hp0,hp1,hps⟩:=heir_small HEB.out (List.getElem_mem hlt3)
              have hgs:=gainH_snoc own EF.1 (setP g.holders fr 0,nx.2) hlt3
              rw[<-HX9.out]at hgs
              have hec:EF.1.length<=en:=by
               obtain⟨A',c',e',_,h'⟩:=hE3.sl part_len
               simp only[Value.slice.injEq]at e'
               omega
              generalize EF.1[k]=p at*
              obtain⟨pn,q⟩:=p
              simp only at hp0 hp1 hps
              have i0:wr.cell? ⟨b',off+k*3,none⟩=some (.string pn):=hc 0 _ rfl
              have i1:wr.cell? ⟨b',off+k*3+1,none⟩=some (.int .i64 q.num):=hc 1 _ rfl
              have i2:wr.cell? ⟨b',off+k*3+2,none⟩=some (.int .i64 q.den):=hc 2 _ rfl
              have o0:wr.cell? ⟨O,0,none⟩=some (.int .i64 own.num):=by simp only[World.cell?,HFO.out,fracB];rfl
              have o1:wr.cell? ⟨O,1,none⟩=some (.int .i64 own.den):=by simp only[World.cell?,HFO.out,fracB];rfl
              have hgq:small5 (seenQ (own*q)):=small_q (seen_nonneg (Rat.mul_nonneg ho0 (Rat.le_of_lt hp0))) (Rat.le_trans (seen_le (Rat.mul_nonneg ho0 (Rat.le_of_lt hp0))) (mul_le_one ho0 ho1 (Rat.le_of_lt hp0) hp1)) (seen_big _)
              have HGS:=Lib.hid hgs
              have HGQ8:=Lib.hid hgq
              have HLT3:=Lib.hid hlt3
              have hw9:wrap64 ((k:Int)+1)=(k:Int)+1:=by
               have:=HEL.out
               unfold wrap64
               omega
              have HW9:=Lib.hid hw9
              clear hw9
              have hmul: ∀W,MarkAt W (w.heap.size+1) fl->Calls Tryz.prog 122 #[.pointer (some ⟨w.heap.size+1,0,none⟩), .agg #[.int .i64 own.num, .int .i64 own.den], .agg #[.int .i64 q.num, .int .i64 q.den]] W (MarkPost W (w.heap.size+1) fl (own*q)):=fun W h=>mulM_any (w.heap.size+1) fl W h own q hosm hps
              have HMUL:=Lib.hid hmul
              have hki3:(k:Int)<(EF.1.length:Int):=by omega
              have hk03:(0:Int)<=(k:Int):=by omega
              have hkc3:(k:Int)<=(en:Int):=by omega
              have hOn:O≠wr.heap.size:=by omega
              have hl9:out.length<=90000:=by have:=HLN.out;have:=HEL.out;omega
              have hmn:w.heap.size+1≠wr.heap.size:=by omega
              clear hc hgs hgq hp0 hp1 hmul hec hE3
              go_wp2_with (go_at_call 122
                           go_must(refine(HMUL.out _ (HM3.out.alloc _)).mono ?_)
                           rintro e wq ⟨rfl,m1,m2⟩
                           have hws:=m2.size
                           have y0:wq.heap[wr.heap.size]?=some (.cells #[.string pn, .int .i64 q.num, .int .i64 q.den] 49):=(m2.block _ (by simp) (by simp;omega)).trans (J_new _ _ _ rfl)
                           have y1:wq.cell? ⟨wr.heap.size,0,none⟩=some (.string pn):=(by simp only[World.cell?,y0];rfl)
                           have y3:wr.heap.size<wq.heap.size:=blk_lt y0
                           have M1:=Lib.hid m1
                           have M2:=Lib.hid m2
                           clear m1 m2 y0
                           simp only[fracV])
              have hOQ:OwnS wq WR.heap.size 49 3 partCells (.slice A3 out.length c3) out:=OwnS.grown (W:=wr.alloc _) (HOX3.out.keep (n:=wr.heap.size) (B_alloc (Below.refl _ _) _)) M2.out (.inr fun e=>by have:=(HOX3.out.ge _ e).1;omega)
              have hTQ:TombC wq WR.heap.size g.place g.cls frm g.fin (.slice A3 out.length c3) (.slice A2 (g.died.length+[fr].length) c2):=(M2.out.block _ (by simp;omega) (by simp;omega)).trans (J_alloc HTX3.out)
              have hxq:wq.cell? ⟨WR.heap.size,4,none⟩=some (.slice A3 out.length c3):=by unfold TombC at hTQ;simp only[World.cell?,hTQ];rfl
              have hxs:WR.heap.size<wq.heap.size:=blk_lt hTQ
              have OQ:=Lib.hid hOQ
              have TQ:=Lib.hid hTQ
              have hshs:small5 (shareP out pn):=HD.out.share Rat.le_refl pn
              generalize hgt:seenQ (own*q)=gt at*
              generalize hsv2:shareP out pn=sv at*
              have HGT:=Lib.hid hgt
              have HSV2:=Lib.hid hsv2
              have HSS:=Lib.hid hshs
              have hwn8:wr.heap.size≠wq.heap.size:=by omega
              have hxn:WR.heap.size≠wq.heap.size:=by omega
              clear hOQ hTQ hshs hgt hsv2 i0 i1 i2 o0 o1
              go_region_held3 (fun w'=>w'.cell? ⟨wr.heap.size,0,none⟩=some (.string pn)/\w'.cell? ⟨wq.heap.size,0,none⟩=some (.int .i64 gt.num)/\w'.cell? ⟨wq.heap.size,1,none⟩=some (.int .i64 gt.den))
               ((refine⟨?_,?_,?_⟩<;>first|assumption|(simp[go_sem,y1,y3];done)))
               (first
                 |(go_at_call 132
                   go_loud(refine(share_any out A3 c3 WR.heap.size pn _ ?q1 ?q2 (by omega) HD.out.good.asc (Sl.keep (OQ.out.sl' part_len) (n:=wq.heap.size) Bw)).mono ?_)
                   case q1=>simp[go_sem,hxq,hxs]
                   case q2=>simp;omega
                   rintro e w5 ⟨rfl,zs,rfl⟩
                   rw[HSV2.out]
                   simp only[fracV])
                 |(go_at_call 119
                   go_loud(refine(addM_any (w.heap.size+1) (fl||bigQ (own*q)) _ ?q3 sv gt HSS.out HGQ8.out).mono ?_)
                   case q3=>(repeat(first|exact M1.out|refine MarkAt.ext ?_ _|refine MarkAt.drew ?_|refine MarkAt.alloc ?_ _))
                   rintro e w6 ⟨rfl,n1,n2⟩
                   have p3:w6.cell? ⟨wr.heap.size,0,none⟩=some (.string pn):=(by rw[G_cell n2 (by simp[ext_size];omega) (by omega)];simp[go_sem,y1,y3])
                   have p0:w6.cell? ⟨wq.heap.size,0,none⟩=some (.int .i64 gt.num):=(by rw[G_cell n2 (by simp[ext_size];omega) (by omega)];simp[go_sem])
                   have p1:w6.cell? ⟨wq.heap.size,1,none⟩=some (.int .i64 gt.den):=(by rw[G_cell n2 (by simp[ext_size];omega) (by omega)];simp[go_sem])
                   have N1:=Lib.hid n1
                   have N2:=Lib.hid n2
                   clear n1 n2
                   simp only[fracV])
                 |(go_at_call 131
                   go_loud(refine(set_any WR.heap.size WR.heap.size out (.slice A3 out.length c3) g.place g.cls frm g.fin (.slice A2 (g.died.length+[fr].length) c2) pn (seenQ (sv+gt)) _ ?q4 (Nat.le_refl _) ?q5 HD.out.good.asc hl9).mono ?_)
                   case q4=>exact(N2.out.block _ (by simp[ext_size];omega) (by simp;omega)).trans (by repeat(first|exact TQ.out|refine J_ext ?_|refine J_drew ?_|refine J_alloc ?_))
                   case q5=>exact OwnS.grown (OQ.out.keep (n:=wq.heap.size) Bw) N2.out (.inr fun e=>by have:=(OQ.out.ge _ e).1;omega)
                   rintro e wz ⟨rfl,v',t1,t2,t3,t4⟩
                   have s3:wz.cell? ⟨wr.heap.size,0,none⟩=some (.string pn):=(World.cell?_of_block (w:=w6) (t4 wr.heap.size (by have:=N2.out.size;simp[ext_size]at this;omega) (by omega) (fun e=>by have:=(HOX3.out.ge _ e).2;omega))).trans p3
                   have s0:wz.cell? ⟨wq.heap.size,0,none⟩=some (.int .i64 gt.num):=(World.cell?_of_block (w:=w6) (t4 wq.heap.size (by have:=N2.out.size;simp[ext_size]at this;omega) (by omega) (fun e=>by have:=(HOX3.out.ge _ e).2;omega))).trans p0
                   have s1:wz.cell? ⟨wq.heap.size,1,none⟩=some (.int .i64 gt.den):=(World.cell?_of_block (w:=w6) (t4 wq.heap.size (by have:=N2.out.size;simp[ext_size]at this;omega) (by omega) (fun e=>by have:=(HOX3.out.ge _ e).2;omega))).trans p1
                   have T1:=Lib.hid t1
                   have T2:=Lib.hid t2
                   have T3:=Lib.hid t3
                   have T4:=Lib.hid t4
                   clear t1 t2 t3 t4))
              have HG9:Hid (gain1 own (pn,q) (out,fl)=(setP out pn (seenQ (sv+gt)),fl||bigQ (own*q)||bigQ (sv+gt))):=by
               show _=_
               unfold gain1
               simp only[HGT.out,HSV2.out]
              have hn1:MarkAt wz (w.heap.size+1) (fl||bigQ (own*q)||bigQ (sv+gt)):=N1.out.keep T3.out (by omega)
              have hlen2:=len_set (n:=pn) (q:=seenQ (sv+gt)) (l:=out)
              have h6:wr.grownBy w6 (some (w.heap.size+1)):=grown_trans (below_then (B_alloc (Below.refl wr.heap.size wr) _) (Nat.le_refl _) M2.out) (below_then (n:=wq.heap.size) (W:=((wq.alloc (fracB gt)).drew).ext zs) Bw (Nat.le_refl _) N2.out)
              have hs6:=h6.size
              have ht6:w6.heap[WR.heap.size]?=some (.cells #[.string g.place, .int .i64 g.cls, .int .i64 frm, .int .i64 g.fin, .slice A3 out.length c3, .slice A2 (g.died.length+[fr].length) c2] 86):=(h6.block _ hxl3 (by simp;omega)).trans HTX3.out
              have ho6:OwnS w6 WR.heap.size 49 3 partCells (.slice A3 out.length c3) out:=HOX3.out.grown h6 (.inr fun e=>by have:=(HOX3.out.ge _ e).1;omega)
              have hd6:=HDS3.out.grown h6 (.inr fun e=>by have:=(HDS3.out.ge _ e).1;omega)
              have hf6:w6.heap[O]?=some (fracB own):=(h6.block O hOl (by simp;omega)).trans HFO.out
              have hkeep: ∀(j:Nat) (cur:Array Value) (t:TypeId) (f:Nat×Nat),w6.heap[j]?=some (.cells cur t f)->t≠86->t≠49->wz.heap[j]?=w6.heap[j]?:=fun j cur t f hj n1 n2=>
               T4.out j (blk_lt hj) (fun e=>by rw[e,ht6]at hj;simp only[Option.some.injEq,Obj.cells.injEq]at hj;exact n1 hj.2.1.symm) (own_neS ho6 hj n2)
              have hdz:=hd6.same (W':=wz) (fun j cur _ hj=>hkeep j cur _ _ hj (by decide) (by decide))
              have hfz:wz.heap[O]?=some (fracB own):=(hkeep _ _ _ _ hf6 (by decide) (by decide)).trans hf6
              have hgz:WR.grownBy wz (some (w.heap.size+1)):=grown_then (grown_trans HGR.out h6) T3.out (Nat.le_refl _)
              have HN1:=Lib.hid hn1
              have HL2:=Lib.hid hlen2
              have HDZ:=Lib.hid hdz
              have HFZ:=Lib.hid hfz
              have HGZ:=Lib.hid hgz
              clear hn1 hlen2 h6 ht6 ho6 hd6 hf6 hkeep hdz hfz hgz p3 p0 p1 s3 s0 s1 y1
              go_wp2_with fail
              go_round
              case rel=>
               have hel:=HEL.out
               have hlt3:=HLT3.out
               have hgx:=HG9.out.symm.trans HGS.out.symm
               have hlx:(setP out pn (seenQ (sv+gt))).length<=g.holders.length+1+(k+1):=by have:=HL2.out;have:=HLN.out;omega
               exact⟨k+1,v',setP out pn (seenQ (sv+gt)),_,HLT3.out,by rw[HW9.out];rfl,hgx,hlx,HN1.out,T1.out,T2.out,HDZ.out,HGZ.out,HFZ.out⟩
              case measure=>rw[HW9.out];have:=HLT3.out;simp only[intOf];omega
             ·have hki: ¬(k:Int)<(EF.1.length:Int):=by omega
              have hxe:(out,fl)=heirOf fr EF.1 g nx.2:=by
               rw[HX9.out,List.take_of_length_le (by omega)]
               unfold heirOf
               rw[<-HOW.out]
              have HXE:=Lib.hid hxe
              clear hxe HX9 HBD
              go_wp2_with fail
              go_meet
              exact⟨_,out,fl,HXE.out,HM3.out,HTX3.out,HOX3.out,HDS3.out,HGR.out⟩
           case rest=>
            obtain⟨v9,out,fl,HXE,hm,htx,hox,hds,hgr⟩:=hcut
            obtain⟨W4,rfl⟩: ∃x,x=wc:=⟨_,rfl⟩
            obtain⟨A3,c3,rfl,_,hc3⟩:=hox.sl part_len
            have hdc:(g.died++[fr]).length<=c2:=by
             obtain⟨A',c',e',_,h'⟩:=hds.sl sC_len
             simp only[Value.slice.injEq]at e'
             omega
            have hg4:=hgr.size
            have htx7:=htx
            unfold TombC at htx7
            have m0:W4.cell? ⟨WR.heap.size,0,none⟩=some (.string g.place):=by simp only[World.cell?,htx7];rfl
            have m1:W4.cell? ⟨WR.heap.size,1,none⟩=some (.int .i64 g.cls):=by simp only[World.cell?,htx7];rfl
            have m2:W4.cell? ⟨WR.heap.size,2,none⟩=some (.int .i64 frm):=by simp only[World.cell?,htx7];rfl
            have m3:W4.cell? ⟨WR.heap.size,3,none⟩=some (.int .i64 g.fin):=by simp only[World.cell?,htx7];rfl
            have m4:W4.cell? ⟨WR.heap.size,4,none⟩=some (.slice A3 out.length c3):=by simp only[World.cell?,htx7];rfl
            have m5:W4.cell? ⟨WR.heap.size,5,none⟩=some (.slice A2 (g.died.length+[fr].length) c2):=by simp only[World.cell?,htx7];rfl
            obtain⟨E,hE⟩: ∃E:Tm,E=(⟨g.place,g.cls,g.fin,out,g.died++[fr]⟩,frm,(A3,c3),(A2,c2)):=⟨_,rfl⟩
            have hEc:(tmC E).toArray= #[.string g.place, .int .i64 g.cls, .int .i64 frm, .int .i64 g.fin, .slice A3 out.length c3, .slice A2 (g.died.length+[fr].length) c2]:=by rw[hE];simp[tmC]
            have hN4:=HN.out.grown hgr (.inr fun e=>by have:=(HN.out.ge _ e).1;omega)
            have hen:es.length<=1000:=by have:=HES2.out;omega
            have HN4:=Lib.hid hN4
            have HEC:=Lib.hid hEc
            have HEE:=Lib.hid hE
            have HM4:=Lib.hid hm
            have HOX4:=Lib.hid hox
            have HDS4:=Lib.hid hds
            have HG4:=Lib.hid hgr
            have HDC:=Lib.hid hdc
            clear hN4 hEc hE hm htx hox hds hgr htx7 HBD HL0 HDZ HFZ HMZ HGZ HBZ T1 T2 HTX HOXX HDS HBX d3 q5 HCL2 HXA HBA HSA hdc
            go_upto_region 28 with fail
            go_wp2_with (at_builtin
                         go_loud(refine wpList_append_S (v:= .slice NA es.length nc) (n:=es.length) (m:=1) rfl _ _ rfl elTm tm_len tm_one rfl (xs:=es) (ys:=[E]) (HN4.out.keep (n:=W4.heap.size) Bw) rfl rfl rfl (sl_tm (by rw[HEC.out];exact J_new _ _ _ (by simp))) (by simp[maxLen];omega) (by omega) (by simp;omega) ?_)
                         intro v5 w5 h1 h2 h3
                         have H1:=Lib.hid h1
                         have H2:=Lib.hid h2
                         clear h1 h2 h3)
            have hw9:wrap64 ((j:Int)+1)=(j:Int)+1:=by
             unfold wrap64
             omega
            have HW9:=Lib.hid hw9
            have HLT:=Lib.hid hlt
            clear hw9
            go_wp2_with fail
            go_round
            case rel=>
             have hs5':=H2.out.size
             simp only[World.size_alloc]at hs5'
             have hNo:=HN4.out
             have hmt:=HM.out
             unfold MarkAt at hmt
             have hkR: ∀(k:Nat) (cur:Array Value) (t:TypeId) (f:Nat×Nat),WR.heap[k]?=some (.cells cur t f)->t≠97->W4.heap[k]?=WR.heap[k]?:=fun k cur t f hk n1=>
              HG4.out.block k (blk_lt hk) (fun e=>by
               simp only[Option.some.injEq]at e
               rw[e,hmt]at hk
               simp only[Option.some.injEq,Obj.cells.injEq]at hk
               exact n1 hk.2.1.symm)
             have hk4: ∀(k:Nat) (cur:Array Value) (t:TypeId) (f:Nat×Nat),W4.heap[k]?=some (.cells cur t f)->t≠86->w5.heap[k]?=W4.heap[k]?:=fun k cur t f hk n1=>by
              have hl:=blk_lt hk
              have a1:=H2.out.block k (by simp;omega) (fun e=>own_neS hNo hk n1 e.symm)
              exact a1.trans (Below.heap_alloc _ _ _ hl)
             have hkk: ∀(k:Nat) (cur:Array Value) (t:TypeId) (f:Nat×Nat),WR.heap[k]?=some (.cells cur t f)->t≠97->t≠86->w5.heap[k]?=WR.heap[k]?:=fun k cur t f hk n1 n2=>by
              have a1:=hkR k cur t f hk n1
              exact(hk4 k cur t f (a1.trans hk) n2).trans a1
             have hbel:Below w.heap.size w w5:=Below.grown (a:=w) (B:=w.heap.size) (B_alloc (grown_below HF.out HG4.out (by omega)) _ (by omega)) H2.out (by simp;omega) (fun k hk=>by have:=(HN4.out.ge k hk).1;omega)
             refine⟨j+1,es++[E],HLT.out,by go_num,H1.out,?_,?_,?_,hbel,?_,?_,?_,by omega⟩
             ·show _=_
              rw[HSN.out,<-HXE.out,List.map_append,HES.out,HEE.out]
              rfl
             ·show∀e∈es++[E],TmOk w5 w.heap.size e
              intro e he
              rcases List.mem_append.1 he with he|he
              ·refine(HOK.out e he).same fun k cur t f hk ht=>hkk k cur t f hk ?_ ?_
               ·rcases ht with rfl|rfl<;>decide
               ·rcases ht with rfl|rfl<;>decide
              ·rw[List.mem_singleton.1 he,HEE.out]
               refine⟨HOX4.out.ro'.same fun k cur f hk _=>hk4 k cur _ f hk (by decide),hc3,HDS4.out.ro'.same fun k cur f hk _=>hk4 k cur _ f hk (by decide),HDC.out,fun a ha=> ?_⟩
               have ha:A2=some a:=ha
               have:=(HDS4.out.ge a.block (by rw[ha];rfl)).1
               omega
             ·rw[HSN.out,<-HXE.out]
              exact(hk4 _ _ _ _ HM4.out (by decide)).trans HM4.out
             ·exact(hkk _ _ _ _ HDX.out (by decide) (by decide)).trans HDX.out
             ·exact HOX.out.same fun k cur _ hk=>hkk k cur _ _ hk (by decide) (by decide)
             ·exact HEX.out.same fun k cur _ hk=>hkk k cur _ _ hk (by decide) (by decide)
            case measure=>have:=HLT.out;simp only[intOf];omega
        ·have hki: ¬(j:Int)<(HL.length:Int):=by omega
         have hjl:hgs.take j=hgs:=List.take_of_length_le (by omega)
         have hej:es.length=HL.length:=by omega
         rw[hjl]at HES HM
         have HEJ:=Lib.hid hej
         clear hjl hej hesl hown hm hF hD hO hE hfl
         go_wp2_with fail
         go_meet
         exact⟨NA,nc,es,by rw[HEJ.out],HN.out,HES.out,HOK.out,HM.out,HF.out,HDX.out,HOX.out⟩
      case rest=>
       obtain⟨NA,nn,es,rfl,hnx,hes,hok,hm,hF,hD,hO⟩:=hcut
       obtain⟨W6,rfl⟩: ∃x,x=wc:=⟨_,rfl⟩
       have hsd:=setAll_dies fr dy EF.1 s.graves [] EF.2
       have hcl:W6.cell? ⟨w.heap.size+1,0,none⟩=some (.bool (nextF fr EF.1 hgs EF.2).2):=(mark_cells hm).1
       have hml6:=blk_lt hm
       have hes2:es.length=HL.length:=by
        have h1:=congrArg List.length hes
        rw[List.length_map,next_len]at h1
        have:=HFL.out
        omega
       have hany:s.graves.any (heldQ fr dy)=true:=by
        cases hc:s.graves.any (heldQ fr dy)
        ·have h1:=HGS2.out
         rw[List.filter_eq_nil_iff.2 (fun x hx=>by have:=List.any_eq_false.1 hc x hx;simpa using this)]at h1
         have:=HFL.out
         rw[<-h1]at this
         exact absurd this HZ.out
        ·rfl
       rw[List.nil_append,List.nil_append,List.length_nil,HGS2.out]at hsd
       have hX:=HX.out
       rw[hany,<-hsd.1,<-hsd.2,<-hes]at hX
       simp only[Bool.false_eq_true,if_false,if_true]at hX
       have HX3:=Lib.hid hX
       generalize(nextF fr EF.1 hgs EF.2).2=fl at*
       have HES:=Lib.hid hes
       have HES2:=Lib.hid hes2
       have HOK:=Lib.hid hok
       have HF6:=Lib.hid hF
       have HD6:=Lib.hid hD
       have HO6:=Lib.hid hO
       have HN6:=Lib.hid hnx
       have HHT2:=Lib.hid (fun j hj=>HHT.out w (Below.refl _ _) j hj)
       have HGSL:Hid ((s.graves.filter (heldQ fr dy)).length=HL.length):=by show _=_;rw[HGS2.out,HFL.out]
       clear hsd hany hX hes hok hm hF hD hO hnx hes2 HX HHT HANY HM HBW HO HD HO5 HE5 HM5 HD5 HF5 HGQ HEB HEL HE HHS HGS2
       cases fl
       ·have hX4:=HX3.out
        simp only[Bool.false_eq_true,if_false]at hX4
        have HX4:=Lib.hid hX4
        clear hX4 HX3
        have hs6:=HF6.out.size
        have HEIX: ∃HI,HI=heldFrom fr dy 0 s.graves:=⟨_,rfl⟩
        obtain⟨HI,hHI⟩:=HEIX
        rw[<-hHI]at HX4 HHT2
        have hhl:HI.length=HL.length:=by
         rw[hHI,held_len,HGSL.out]
        have hnn:HL.length<=nn:=by
         obtain⟨A',c',e',_,h'⟩:=HN6.out.sl tm_len
         simp only[Value.slice.injEq]at e'
         have:=HES2.out
         omega
        have hhn:HL.length<=hn:=by
         obtain⟨A',c',e',_,h'⟩:=HO6.out.sl ptrC_len
         simp only[Value.slice.injEq]at e'
         omega
        have HHL:=Lib.hid hhl
        have HNN:=Lib.hid hnn
        have HHN:=Lib.hid hhn
        clear hHI hhl hnn hhn HGSL
        go_wp2_with fail
        go_loopw [129] (fun i wr=> ∃j:Nat,j<=HL.length/\i= .int .i64 j/\Hid (WldC wr b dd cc pp wl rr mv (.slice TA ps.length tc) la co)/\Hid (PplAt base wr Bk dd cc pp wl rr mv s)/\Hid (TombsAt base wr Bk (.slice TA ps.length tc) ps (setAll s.graves (HI.take j) ((es.map (·.1)).take j)))/\Hid (Below base w wr)/\wr.heap[w.heap.size]?=some (.cells #[.int .i64 kd, .int .i64 dy, .string pl, .string fr, .slice B ts.length c, .int .i64 cl, .int .i64 yr] 56)/\Hid (KeepD w wr)/\OwnS wr (w.heap.size+1+1) 83 1 ptrC (.slice HA HL.length hn) HL/\OwnS wr (w.heap.size+1+1) 86 6 tmC (.slice NA HL.length nn) es/\Hid (∀e∈es,TmOk wr w.heap.size e)/\w.heap.size<=wr.heap.size) (fun i _=>HL.length-(intOf i).toNat)
        case atStart=>exact⟨0,Nat.zero_le _,rfl,HC.out.keep HF6.out,HP.out.keep HF6.out,HT.out.keep HF6.out,HF6.out.mono (by omega),HD6.out,KeepD.below HF6.out,HO6.out,by rw[<-HES2.out]at*;exact HN6.out,HOK.out,hs6⟩
        case round=>
         obtain⟨j,hj,rfl,HC7,HP7,HT7,HB7,hD7,HK7,hO7,hN7,HOK7,hs7⟩:=hrel
         have HD7:=Lib.hid hD7
         have HO7:=Lib.hid hO7
         have HN7:=Lib.hid hN7
         by_cases hlt:j<HL.length
         ·have hlt6:j<es.length:=by have:=HES2.out;omega
          obtain⟨i,g,hi,hpi,hgi,_,hTA⟩:=HHT2.out j hlt
          have hTw:HL[j]<w.heap.size:=by obtain⟨_,_,_,_,_,t1,_⟩:=hTA;exact blk_lt t1
          obtain⟨hb',hoff,hHe,hbl',hHc⟩:=(hO7.sl' ptrC_len).at hlt
          subst hHe
          have i0:wr.cell? ⟨hb',hoff+j,none⟩=some (.pointer (some ⟨HL[j],0,none⟩)):=by have:=hHc 0 _ rfl;simpa using this
          obtain⟨nb,noff,hNe,hnl,hNc⟩:=(hN7.sl' tm_len).at hlt6
          subst hNe
          have hok:=HOK7.out es[j] (List.getElem_mem hlt6)
          have hil:i<(setAll s.graves (HI.take j) ((es.map (·.1)).take j)).length:=by rw[setAll_len];exact(List.getElem?_eq_some_iff.1 hgi).1
          obtain⟨H,hc',D,dc,frm,t1,t2,_⟩:=HT7.out.all i _ _ hpi (List.getElem?_eq_getElem hil)
          have hsn:setAll s.graves (HI.take (j+1)) ((es.map (·.1)).take (j+1))=(setAll s.graves (HI.take j) ((es.map (·.1)).take j)).set i es[j].1:=by
           have hjI:j<HI.length:=by have:=HHL.out;omega
           have hjE:j<(es.map (·.1)).length:=by rw[List.length_map];exact hlt6
           have hIi:HI[j]=i:=by
            rw[List.getElem?_eq_getElem hjI]at hi
            exact Option.some.inj hi
           rw[List.take_succ_eq_append_getElem hjI,List.take_succ_eq_append_getElem hjE,List.getElem_map,hIi]
           exact setAll_snoc _ _ _ _ _ (by rw[List.length_take,List.length_take];omega)
          have HSN:=Lib.hid hsn
          have HPI:=Lib.hid hpi
          have HOK8:=Lib.hid hok
          generalize HL[j]=T at*
          generalize hE:es[j]=E at*
          obtain⟨⟨gp,gc,gf,gh,gd⟩,efr,⟨EH,ehc⟩,⟨ED,edc⟩⟩:=E
          have n0:wr.cell? ⟨nb,noff+j*6,none⟩=some (.string gp):=hNc 0 _ rfl
          have n1:wr.cell? ⟨nb,noff+j*6+1,none⟩=some (.int .i64 gc):=hNc 1 _ rfl
          have n2:wr.cell? ⟨nb,noff+j*6+2,none⟩=some (.int .i64 efr):=hNc 2 _ rfl
          have n3:wr.cell? ⟨nb,noff+j*6+3,none⟩=some (.int .i64 gf):=hNc 3 _ rfl
          have n4:wr.cell? ⟨nb,noff+j*6+4,none⟩=some (.slice EH gh.length ehc):=hNc 4 _ rfl
          have n5:wr.cell? ⟨nb,noff+j*6+5,none⟩=some (.slice ED gd.length edc):=hNc 5 _ rfl
          have hTl:=blk_lt t1
          have HT1:=Lib.hid t1
          unfold TombC at t1
          generalize hgg:(setAll s.graves (HI.take j) ((es.map (·.1)).take j))[i]=gg at*
          have z0:wr.cell? ⟨T,0,none⟩=some (.string gg.place):=by simp only[World.cell?,t1];rfl
          have z1:wr.cell? ⟨T,1,none⟩=some (.int .i64 gg.cls):=by simp only[World.cell?,t1];rfl
          have z2:wr.cell? ⟨T,2,none⟩=some (.int .i64 frm):=by simp only[World.cell?,t1];rfl
          have z3:wr.cell? ⟨T,3,none⟩=some (.int .i64 gg.fin):=by simp only[World.cell?,t1];rfl
          have z4:wr.cell? ⟨T,4,none⟩=some (.slice H gg.holders.length hc'):=by simp only[World.cell?,t1];rfl
          have z5:wr.cell? ⟨T,5,none⟩=some (.slice D gg.died.length dc):=by simp only[World.cell?,t1];rfl
          have fz: ∀j,wr.frozen? ⟨T,j,none⟩=false:=fun j=>by simp only[World.frozen?,t1];rfl
          have hki:(j:Int)<(HL.length:Int):=by omega
          have hk0:(0:Int)<=(j:Int):=by omega
          have hkh:(j:Int)<=(hn:Int):=by have:=HHN.out;omega
          have hkn:(j:Int)<=(nn:Int):=by have:=HNN.out;omega
          have hnT:nb≠T:=by
           have:=(hN7.ge nb rfl).1
           omega
          have HLT:=Lib.hid hlt
          have HTW:=Lib.hid hTw
          clear hgg hE hsn hpi hok hHc hNc hi hgi hTA t1 hD7 hO7 hN7 hil hlt6
          go_wp2_with fail
          go_round
          case rel=>
           have hg:=grown_tomb6 wr T (.string gp) (.int .i64 gc) (.int .i64 efr) (.int .i64 gf) (.slice EH gh.length ehc) (.slice ED gd.length edc)
           have hT6:=tomb_set6 (show wr.heap[T]?=some (.cells #[.string gg.place, .int .i64 gg.cls, .int .i64 frm, .int .i64 gg.fin, .slice H gg.holders.length hc', .slice D gg.died.length dc] 86) from HT1.out) (.string gp) (.int .i64 gc) (.int .i64 efr) (.int .i64 gf) (.slice EH gh.length ehc) (.slice ED gd.length edc)
           have hTw:=HTW.out
           have hkT: ∀(k:Nat) (cur:Array Value) (t:TypeId) (f:Nat×Nat),wr.heap[k]?=some (.cells cur t f)->t=49\/t=9->((((((wr.setCell ⟨T,0,none⟩ (.string gp)).setCell ⟨T,1,none⟩ (.int .i64 gc)).setCell ⟨T,2,none⟩ (.int .i64 efr)).setCell ⟨T,3,none⟩ (.int .i64 gf)).setCell ⟨T,4,none⟩ (.slice EH gh.length ehc)).setCell ⟨T,5,none⟩ (.slice ED gd.length edc)).heap[k]?=wr.heap[k]?:=fun k cur t f hk ht=>
            hg.block k (blk_lt hk) (fun e=>by
             simp only[Option.some.injEq]at e
             rw[e,show wr.heap[T]?=_ from HT1.out]at hk
             simp only[Option.some.injEq,Obj.cells.injEq]at hk
             rw[<-hk.2.1]at ht
             revert ht
             decide)
           have hN:TombAt ((((((wr.setCell ⟨T,0,none⟩ (.string gp)).setCell ⟨T,1,none⟩ (.int .i64 gc)).setCell ⟨T,2,none⟩ (.int .i64 efr)).setCell ⟨T,3,none⟩ (.int .i64 gf)).setCell ⟨T,4,none⟩ (.slice EH gh.length ehc)).setCell ⟨T,5,none⟩ (.slice ED gd.length edc)) base Bk T ⟨gp,gc,gf,gh,gd⟩:=
            ⟨EH,ehc,ED,edc,efr,hT6,t2,HOK8.out.hc,HOK8.out.dc,HOK8.out.hs.kept hg HT1.out (by decide),HOK8.out.ds.kept hg HT1.out (by decide),fun _ a ha hb=>by
              have h1:=HOK8.out.ge a ha
              have h2:=ppl_rows HP.out _ hb
              omega⟩
           refine⟨j+1,HLT.out,by go_num,wldC_tomb HC7.out HT1.out hg,HP7.out.kept hg HT1.out (by decide) (by decide) (by decide),?_,grown_below HB7.out hg t2 (by omega),(hg.block _ (blk_lt HD7.out) (by simp;omega)).trans HD7.out,HK7.out.trans (KeepD.cells hg HT1.out (by decide)),HO7.out.kept hg HT1.out (by decide),HN7.out.grown hg (.inr fun e=>by have:=(HN7.out.ge _ e).1;omega),fun e he=>(HOK7.out e he).same hkT,Nat.le_trans hs7 hg.size⟩
           show TombsAt _ _ _ _ _ _
           rw[HSN.out]
           exact tombs_store HT7.out HPI.out HT1.out hg hN
          case measure=>have:=HLT.out;simp only[intOf];omega
         ·have hki: ¬(j:Int)<(HL.length:Int):=by omega
          have h1:HI.take j=HI:=List.take_of_length_le (by have:=HHL.out;omega)
          have h2:(es.map (·.1)).take j=es.map (·.1):=List.take_of_length_le (by have:=HES2.out;rw[List.length_map];omega)
          rw[h1,h2]at HT7
          clear h1 h2 hD7 hO7 hN7
          go_wp2_with fail
          go_meet
          exact⟨_,HX4.out,⟨Bk,dd,cc,pp,wl,rr,mv,_,ps,hb0,HC7.out,⟨HP7.out.nd,HP7.out.ge,HP7.out.dead,HP7.out.rows,HP7.out.marr,HP7.out.wills,HP7.out.ren⟩,HT7.out⟩,HB7.out,HD7.out,HK7.out⟩
       ·have hX4:=HX3.out
        simp only[if_true]at hX4
        have HX4:=Lib.hid hX4
        clear hX4 HX3
        go_wp2_with fail
        go_ret
        exact take_same HW.out HF6.out HX4.out
   case rest=>
    obtain⟨gs,HX2,hWx,hBx,hDx,hKx⟩:=hcut
    have HK9:=Lib.hid hKx
    obtain⟨W9,rfl⟩: ∃x,x=wc:=⟨_,rfl⟩
    obtain⟨Bk',d',c',p',wl',r',mv',tv',ps',hb0',hC',hP',hT'⟩:=hWx
    have hbl':=blk_lt hC'
    have hdl:=blk_lt hDx
    have HC9:=Lib.hid hC'
    have HP9:=Lib.hid hP'
    have HT9:=Lib.hid hT'
    have HB9:=Lib.hid hBx
    unfold WldC at hC'
    have z0:W9.cell? ⟨b,0,none⟩=some (.map (some d')):=by simp only[World.cell?,hC'];rfl
    have z3:W9.cell? ⟨w.heap.size,3,none⟩=some (.string fr):=by simp only[World.cell?,hDx];rfl
    obtain⟨es,ec,hx⟩:=mapS_block hP'.dead
    have HX9:=Lib.hid hx
    have hdd:=hP'.dead.at.lt
    have hbd:b≠d':=fun e=>by subst e;rw[hC']at hx;simp at hx
    have hwd:w.heap.size≠d':=fun e=>by rw[<-e,hDx]at hx;simp at hx
    clear hC' hP' hT' hBx hDx hx
    go_upto_region 37 with fail
    refine wp_region_held_drew (S:=(fun w'=>w'.cell? ⟨b,0,none⟩=some (.map (some d'))/\w'.cell? ⟨w.heap.size,3,none⟩=some (.string fr))) (by kernel_rfl) ?hS ?hrest
    case hS=>exact⟨z0,z3⟩
    case hrest=>
     intro hHeld
     refine TkH 0 ?_
     refine TkH 1 ?_
     refine TkH 2 ?_
     refine TkH 3 ?_
     refine TkH 4 ?_
     refine TkH 5 ?_
     refine TkH 6 ?_
     refine wpAnyH_ready (rs:=[7]) (by kernel_rfl) (by simp) (AllReadyH.cons (List.getElem?_toArray.trans rfl) (fun K hK=> ?_) AllReadyH.nil)
     obtain⟨w6,hrun,hm6,hg6,hs6⟩:=run_updateS (w:=W9.drew) mapSB (HP9.out.dead.keep (w':=W9.drew) rfl) fr true
     refine step_update_run rfl _ _ _ rfl _ _ _ rfl rfl rfl w6 hrun ?_
     have hg6':W9.grownBy w6 (some d'):=⟨hg6.os,hg6.tape,hg6.output,hg6.size,hg6.block⟩
     have p6:w6.cell? ⟨b,0,none⟩=some (.map (some d')):=(G_cell hg6' hbl' hbd).trans z0
     have q6:w6.cell? ⟨w.heap.size,3,none⟩=some (.string fr):=(G_cell hg6' hdl hwd).trans z3
     have HM6:=Lib.hid hm6
     have HG6:=Lib.hid hg6'
     clear hm6 hg6 hg6' hrun
     refine hK.out _ _ ?_ (fun hHeld=> ?_)
     focus((try dsimp only);refine⟨?_,?_⟩<;>assumption)
     clear hK K
     try simp only[Act.put,List.setIfInBounds_toArray,List.set_cons_zero,List.set_cons_succ]
     refine wpAnyH_done (by kernel_rfl) ?_ _
     go_wp2_with fail
     go_ret
     rw[HX2.out]
     have hge:=HP9.out.ge
     have hmn:mput eqS fr true (s.dead.map fun n=>(n,true))=(s.dead++[fr]).map fun n=>(n,true):=by
      have hz:=mget_true (eq:=eqS) (k:=fr) (l:=s.dead) (by rw[dead_get];exact hdx)
      rw[mput_new hz]
      simp
     have hm7:MapS w6 d' ekS evB ((s.dead++[fr]).map fun n=>(n,true)):=by
      rw[<-hmn];exact HM6.out
     exact⟨rfl,wld_map hb0' HC9.out HT9.out HG6.out HX9.out rfl (ppl_dead HP9.out HG6.out hm7),grown_below HB9.out HG6.out hge.1 (by have:=HW.out.lt;omega),HK9.out.trans (KeepD.map HG6.out HX9.out)⟩
 ·go_quiet (fail)
  go_wp2_with fail
  go_ret
  exact take_same HW.out Bw HX.out
end Go.Proofs.YtmaidggpbihlgaaGreatDoor
