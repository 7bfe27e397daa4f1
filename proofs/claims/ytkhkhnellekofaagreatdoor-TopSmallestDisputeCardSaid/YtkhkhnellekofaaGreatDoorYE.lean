/- The law TopSmallestDispute, walked. -/
import Derived.Test.YtkhkhnellekofaaGreatDoorOV
import Derived.Test.YtkhkhnellekofaaGreatDoorUX
import Derived.Test.YtkhkhnellekofaaGreatDoorUP
import Derived.Test.YtkhkhnellekofaaGreatDoorDM
set_option linter.unusedSimpArgs false
set_option linter.unusedVariables false
namespace Go.Proofs.YtkhkhnellekofaaGreatDoor
open Go.RowKit Go.Shelf
attribute [local go_sem] World.cell?_alloc_mark ext_size ext_cell ext_frozen lt_add_r lt_add_r2 lt_add_r3 lt_add_r4 lt_add_r5 lt_add_r6 lt_add_r7 lt_add_r8
attribute [local go_sem] ext_setCell alloc_setCell_lt
theorem sl_partE {α:Type} {w:World} {f:α->List Value} {b off:Nat} {xs:List α} (h:Sl w 8 f (some ⟨b,off,none⟩) xs) (k:Nat):Sl w 8 f (some ⟨b,off+k*8,none⟩) (xs.drop k):=fun hl=>by
 rw[List.length_drop]at hl
 obtain⟨b',off',hA,hb,hc⟩:=h (by omega)
 simp only[Option.some.injEq,Addr.mk.injEq,and_true]at hA
 obtain⟨rfl,rfl⟩:=hA
 refine⟨b,off+k*8,rfl,hb,fun j x hx u v hu=> ?_⟩
 rw[List.getElem?_drop]at hx
 have:=hc (k+j) x hx u v hu
 rw[<-this]
 congr 2
 omega
theorem made_ownE (W:World):OwnS (W.alloc (.cells #[] 65)) W.heap.size 65 8 Rec.cells (.slice (some ⟨W.heap.size,0,none⟩) 0 0) []:=
 OwnS.of_own recC_len (World.ownsRow_made W #[] 0 (Nat.le_refl _) (Nat.zero_le _) (by simp))
theorem name_size {s:ByteArray} (h:nameOr s=true):s.size<=100000:=by
 unfold nameOr noB at h
 rw[empty5_size]at h
 unfold isNameP at h
 simp at h
 omega
theorem recs_lens {l:List Rec} (h: ∀x∈l,checkRecP x=0):recLens l:=fun x hx=>by
 have h1:=h x hx
 unfold checkRecP at h1
 split at h1
 ·cases h1
 split at h1
 ·cases h1
 split at h1
 ·cases h1
 rename_i h2
 simp only[Bool.or_eq_true,Bool.not_eq_true',not_or,Bool.not_eq_false]at h2
 exact⟨name_size h2.1.1,name_size h2.1.2,name_size h2.2⟩
theorem set_err0 {n:Nat} {ns:List Nat} (h:SetOf n ns):setErrP n (ns.map (fun(k:Nat)=>(k:Int)))=0:=by
 unfold setErrP
 rw[miss_nats h.2,dis_nats h.1]
 rfl
theorem min_ne {l:List Rec} {ns:List Nat} (h:Minimal l ns):ns≠[]:=fun e=>by
 have h1:=h.1
 rw[e]at h1
 have:ofP l []=[]:=rfl
 rw[this,contra_nil]at h1
 cases h1
theorem recs_sub {l m:List Rec} (h:checkRecsP l=0) (hs:m.Sublist l):checkRecsP m=0:=by
 have h1:=recs_ok h
 unfold checkRecsP
 rw[if_neg (by have:=hs.length_le;have:=h1.1;simp;omega)]
 have key: ∀m:List Rec,(∀x∈m,checkRecP x=0)->firstErr checkRecP m=0:=by
  intro m
  induction m with
  |nil=>intro _;rfl
  |cons x m ih=>
   intro hm
   rw[firstErr,hm x (by simp)]
   exact ih fun y hy=>hm y (by simp[hy])
 exact key _ fun x hx=>h1.2 x (hs.subset hx)
theorem cut_two {l:List Rec} {k:Nat} (h:k<l.length):(l.take k).length=k:=by rw[List.length_take];omega
theorem leastR_two {l:List Rec} (h0:checkRecsP l=0) (h12:l.length<=12):(contraP l=false/\leastR l=([],12))\/(∃s,IsLeast l s/\leastR l=(s,0)):=by
 cases hc:contraP l
 ·exact .inl ⟨rfl,leastR_none h0 h12 (none_of (nonneg5 (recs_ok h0).2) hc)⟩
 ·exact .inr ⟨_,least_got hc,leastR_is h0 h12 (least_got hc)⟩
set_option maxRecDepth 100000 in
set_option maxHeartbeats 2000000 in
theorem topSmallestDispute_any (l:List Rec) (A:Option Addr) (c:Nat) (w:World) (hL:Laid5 w) (hc:l.length<=c) (hX:recLensX l) (hS:Sl w 8 Rec.cells A l):
 Calls Tryz.prog 3 #[.slice A l.length c] w (Ret w (.bool true)):=by
 have HL:=Lib.hid hL
 have HS:=Lib.hid hS
 have HTZ:=Lib.hid (fun W (hW:Below w.heap.size w W)=>(hL.keep hW).tz)
 have HRC:=Lib.hid (fun W (hW:Below w.heap.size w W)=>rCheckRecsX_any l A c W hc hX (hS.keep hW))
 clear hL hS hX
 go_enter Tryz.func3,Tryz.ntmps3
 by_cases h8:8<l.length
 ·have h8a:(8:Int)<(l.length:Int):=by omega
  clear HRC h8
  go_wp2_with (go_at_call 8;go_must(refine(inherits_any _ HL.out).mono ?_);rintro e wq ⟨rfl,z0,rfl⟩)
  go_ret
  exact Ret.of rfl Bw
 have h8a: ¬(8:Int)<(l.length:Int):=by omega
 by_cases h0:checkRecsP l=0
 rotate_left
 ·have h0b:(checkRecsP l != 0)=true:=by simpa using h0
  generalize checkRecsP l=E at*
  go_wp2_with (first
   |(go_at_call 8;go_must(refine(inherits_any _ HL.out).mono ?_);rintro e wq ⟨rfl,z0,rfl⟩)
   |(go_at_call 9;go_must(refine(HRC.out _ Bw).mono ?_);rintro e wq ⟨rfl,z1,rfl⟩))
  go_ret
  exact Ret.of rfl Bw
 rw[h0]at HRC
 have hok:=(recs_ok h0).2
 have hlr:=recs_lens hok
 have HOK:=Lib.hid hok
 have HLR:=Lib.hid hlr
 have HLE:=Lib.hid (fun(m:List Rec) (W:World) (A2:Option Addr) (c2:Nat) (h:m.length<=c2) (hm:m.Sublist l) (hT:TzTab W) (s:Sl W 8 Rec.cells A2 m)=>least_any m A2 c2 W h (fun x hx=>HLR.out x (hm.subset hx)) hT s)
 have HRK:=Lib.hid (fun(m:List Rec) W (A2:Option Addr) c2 (hm:m.Sublist l) (h:m.length<=c2) (s:Sl W 8 Rec.cells A2 m)=>rContradicts_any m A2 c2 W h (by have:=hm.length_le;omega) (fun x hx=>HOK.out x (hm.subset hx)) s)
 have hl8:l.length<=8:=by omega
 clear hok hlr
 have h2:=leastR_two h0 (by omega)
 go_upto_region 5 with(first
  |(go_at_call 8;go_must(refine(inherits_any _ HL.out).mono ?_);rintro e wq ⟨rfl,z0,rfl⟩)
  |(go_at_call 9;go_must(refine(HRC.out _ Bw).mono ?_);rintro e wq ⟨rfl,z1,rfl⟩))
 have hB0:Below w.heap.size w ((w.ext z0).ext z1):=Bw
 generalize(w.ext z0).ext z1=W0 at*
 have HB0:=Lib.hid hB0
 have hs0:=hB0.size
 clear hB0 HRC
 rcases h2 with⟨hcp,hle⟩|⟨S,hS,hle⟩
 ·have HL1:=Lib.hid (fun(W:World) (hT:TzTab W) (s:Sl W 8 Rec.cells A l)=>hle▸HLE.out l W A c hc (List.Sublist.refl _) hT s)
  have HK1:=Lib.hid (fun(W:World) (s:Sl W 8 Rec.cells A l)=>hcp▸HRK.out l W A c (List.Sublist.refl _) hc s)
  clear HLE HRK hcp hle h0
  unfold IntsPost at HL1
  go_upto_region 7 with(go_at_call 10;go_must(refine(HL1.out _ (HTZ.out _ HB0.out) (HS.out.keep HB0.out)).mono ?_);rintro e w5 ⟨A5,c5,rfl,hc5,s5,b5⟩;have HB5:=Lib.hid (HB0.out.trans (b5.mono hs0)))
  clear b5 s5 HL1
  go_wp2_with (go_at_call 11;go_must(refine(HK1.out _ (HS.out.keep HB5.out)).mono ?_);rintro e w6 ⟨rfl,z6,rfl⟩)
  go_ret
  exact Ret.of rfl (B_ext HB5.out _)
 ·have HL1:=Lib.hid (fun(W:World) (hT:TzTab W) (s:Sl W 8 Rec.cells A l)=>hle▸HLE.out l W A c hc (List.Sublist.refl _) hT s)
  clear hle
  unfold IntsPost at HL1
  have HLS:=Lib.hid hS
  have hse:=set_err0 hS.set
  have hsl:S.length<=l.length:=by
   have:=set_len (k:=0) hS.set.1 (fun i hi=>⟨Nat.zero_le _,hS.set.2 i hi⟩)
   omega
  have HCS:Hid (∀W SA sc,Sl W 1 intC SA S->Calls Tryz.prog 12 #[.slice A l.length c, .slice SA S.length sc] W (Ret W (.int .i64 0))):=by
   refine Lib.hid fun W SA sc p=> ?_
   have:=rCheckSet_any l.length c A (S.map (fun(k:Nat)=>(k:Int))) SA sc W (by omega) (by rw[List.length_map];omega) (sl_ints p)
   rw[List.length_map,hse]at this
   exact this
  clear hS hse
  go_upto_region 10 with(first
   |(go_at_call 10;go_must(refine(HL1.out _ (HTZ.out _ HB0.out) (HS.out.keep HB0.out)).mono ?_);rintro e w5 ⟨SA,sc,rfl,hsc,s5,b5⟩;have HB5:=Lib.hid (HB0.out.trans (b5.mono hs0)))
   |(go_at_call 12;go_must(refine(HCS.out _ SA sc s5).mono ?_);rintro e w6 ⟨rfl,z6,rfl⟩))
  have hB6:Below w.heap.size w (w5.ext z6):=B_ext HB5.out z6
  have s6:Sl (w5.ext z6) 1 intC SA S:=s5.keep (n:=w5.heap.size) (below_ext w5 z6)
  clear b5 s5 HB5 HB0 hs0 HL1 HCS
  generalize w5.ext z6=W1 at*
  have HB1:=Lib.hid hB6
  have HS1:=Lib.hid s6
  have hs1:=hB6.size
  clear hB6 s6
  go_upto_region 11 with fail
  go_loopw [5,6,7,8] (fun i _ _ _ wr=> ∃j:Nat,j<=S.length/\i= .int .i64 j/\Below W1.heap.size W1 wr) (fun i _ _ _ _=>S.length-(intOf i).toNat)
  case atStart=>exact⟨0,Nat.zero_le _,rfl,Below.refl _ _⟩
  case round=>
   obtain⟨j,hj,rfl,hB⟩:=hrel
   have hbs:=hB.size
   by_cases hlt:j<S.length
   ·have HLT:=Lib.hid hlt
    have hkl:S[j]<l.length:=HLS.out.set.2 _ (List.getElem_mem hlt)
    obtain⟨sb,so,hSA,hsb,hcc⟩:=(HS1.out.keep hB).at hlt
    have hci:wr.cell? ⟨sb,so+j,none⟩=some (.int .i64 (S[j]:Nat)):=by have:=hcc 0 (.int .i64 (S[j]:Nat)) rfl;rw[Nat.mul_one,Nat.add_zero]at this;exact this
    subst hSA
    have hw:=fun(T:List Nat) (hT:IsLeast (l.eraseIdx S[j]) T)=>least_without hkl HLS.out hT
    have h2:=leastR_two (l:=l.eraseIdx S[j]) (recs_sub h0 (List.eraseIdx_sublist l _)) (by have:=List.length_eraseIdx_le (l:=l) (i:=S[j]);omega)
    generalize S[j]=k at*
    have hti:(l.take k).length=k:=cut_two hkl
    have HTI:=Lib.hid hti
    have hwb:Below w.heap.size w wr:=HB1.out.trans (hB.mono hs1)
    have HWB:=Lib.hid hwb
    obtain⟨bb,off,rfl,hbb,_⟩:=HS.out (by omega)
    have HSM:=Lib.hid (HS.out.keep hwb)
    have HSP:=Lib.hid (sl_partE HSM.out (k+1))
    have HB:=Lib.hid hB
    clear hcc hti hwb hB
    have hjs:(j:Int)<(S.length:Int):=by omega
    have hj0:(0:Int)<=(j:Int):=by omega
    have q0:(0:Int)<=(k:Int):=by omega
    have q1:(k:Int)<=(c:Int):=by omega
    have q2:(0:Int)<=(k:Int)+1:=by omega
    have q3:(k:Int)+1<=(l.length:Int):=by omega
    have q4:((k:Int)+1).toNat=k+1:=by omega
    have q5:IntKind.i64.wrap ((k:Int)+1)=(k:Int)+1:=by rw[IntKind.wrap_i64];omega
    have q6:(l.length:Int)<=(c:Int):=by omega
    have g1:(k:Int)<=(k:Int)+1:=by omega
    have g2:(k:Int)+1<=(c:Int):=by omega
    have HH0:=Lib.hid h0
    have HH2:=Lib.hid h2
    have HHW:=Lib.hid hw
    clear h0 h2 hw
    go_upto_region 13 with fail
    go_cut [6]from 46 to 89 (fun v wc=> ∃A5 c5,v= .slice A5 (l.eraseIdx k).length c5/\(l.eraseIdx k).length<=c5/\Sl wc 8 Rec.cells A5 (l.eraseIdx k)/\Below wr.heap.size wr wc)
    case first=>
     refine wp_region_mark 15 (fun bb w'=>bb=true\/w'.cell? ⟨sb,so+j,none⟩=some (.int .i64 (k:Nat))) (by kernel_rfl) (.inr hci) ?hrest
     case hrest=>
      have HLT9:Hid (l.length-(k+1)=(l.drop (k+1)).length):=by show _=_;simp
      by_cases hcap:c=k+1
      ·subst hcap
       have hd:l.drop (k+1)=[]:=List.drop_of_length_le (by omega)
       have HD:Hid (∀W,Sl W 8 Rec.cells (some ⟨bb,off,none⟩) (l.drop (k+1))):=fun W=>by rw[hd];exact Sl.nil
       clear hd
       intro hHeld
       refine TkM 1 ?_
       refine TkM 2 ?_
       refine TkM 3 ?_
       refine TkM 4 ?_
       refine TkM 5 ?_
       refine TkM 6 ?_
       refine TkM 8 ?_
       refine TkM 9 ?_
       refine TkM 10 ?_
       refine TkM 11 ?_
       refine TkM 12 ?_
       refine TkM 13 ?_
       refine TkM 14 ?_
       refine wpAnyM_ready (rs:=[0]) (by kernel_rfl) (by simp) (AllReadyM.cons (List.getElem?_toArray.trans rfl) false (by kernel_rfl) (fun K hK=> ?_) AllReadyM.nil)
       go_simp
       refine hK.out _ _ ?_ (fun hHeld=> ?_)
       focus((try dsimp only);exact .inr ((B_cell (B_alloc (B_drew (Below.refl _ _)) _) hsb).trans hci))
       clear hK K
       try simp only[Act.put,List.setIfInBounds_toArray,List.set_cons_zero,List.set_cons_succ]
       refine wpAnyM_ready (rs:=[7]) (by kernel_rfl) (by simp) (AllReadyM.cons (List.getElem?_toArray.trans rfl) false (by kernel_rfl) (fun K hK=> ?_) AllReadyM.nil)
       refine step_append_S (v:= .slice (some ⟨wr.drew.heap.size,0,none⟩) 0 0) (n:=0) (m:=k) rfl _ _ rfl elRec recC_len recC_one rfl (xs:=[]) (ys:=l.take k) (made_ownE _) rfl rfl HTI.out.symm ((HSM.out.take k).keep (n:=wr.heap.size) (B_alloc (B_drew (Below.refl _ _)) _)) (by simp only[maxLen];omega) (by omega) (by simp) ?_
       intro v3 w3 h1 h2 h3
       rw[List.nil_append]at h1
       have hb3:Below wr.heap.size wr w3:=Below.grown (B_alloc (B_drew (Below.refl _ _)) _) h2 (by simp) (by intro j hj;simp[blkOf]at hj;have:wr.drew.heap.size=wr.heap.size:=rfl;omega)
       obtain⟨VA,vc,hv,_,hvc⟩:=h1.sl recC_len
       rw[HTI.out]at hv
       subst hv
       refine hK.out _ _ ?_ (fun hHeld=> ?_)
       focus((try dsimp only);exact .inr ((B_cell hb3 hsb).trans hci))
       clear hK K
       try simp only[Act.put,List.setIfInBounds_toArray,List.set_cons_zero,List.set_cons_succ]
       refine wpAnyM_ready (rs:=[15]) (by kernel_rfl) (by simp) (AllReadyM.cons (List.getElem?_toArray.trans rfl) true (by kernel_rfl) (fun K hK=> ?_) AllReadyM.nil)
       refine step_append_S (v:= .slice VA k vc) (n:=k) (m:=0) rfl _ _ rfl elRec recC_len recC_one rfl (xs:=l.take k) (ys:=l.drop (k+1)) h1 HTI.out rfl (by rw[<-HLT9.out];omega) (HD.out _) (by simp only[maxLen];omega) (by omega) (by have:=h2.size;simp at this⊢;omega) ?_
       intro v4 w4 g1 g2 g3
       rw[<-List.eraseIdx_eq_take_drop_succ]at g1
       have hb4:Below wr.heap.size wr w4:=Below.grown hb3 g2 hb3.size (fun j hj=>by have:=(h1.ge j hj).1;simp at this;omega)
       obtain⟨A5,c5,rfl,s5,hc5⟩:=g1.sl recC_len
       refine hK.out _ _ ?_ (fun hHeld=> ?_)
       focus((try dsimp only);exact .inl rfl)
       clear hK K
       try simp only[Act.put,List.setIfInBounds_toArray,List.set_cons_zero,List.set_cons_succ]
       refine wpAnyM_ready (rs:=[16]) (by kernel_rfl) (by simp) (AllReadyM.cons (List.getElem?_toArray.trans rfl) true (by kernel_rfl) (fun K hK=> ?_) AllReadyM.nil)
       go_simp
       refine hK.out _ _ ?_ (fun hHeld=> ?_)
       focus((try dsimp only);exact .inl rfl)
       clear hK K
       try simp only[Act.put,List.setIfInBounds_toArray,List.set_cons_zero,List.set_cons_succ]
       refine wpAnyM_done (by kernel_rfl) ?_ _
       clear hHeld
       go_wp2_with fail
       go_meet
       exact⟨A5,c5,rfl,hc5,s5,hb4⟩
      ·have hcap2: ¬c=k+1:=hcap
       intro hHeld
       refine TkM 1 ?_
       refine TkM 2 ?_
       refine TkM 3 ?_
       refine TkM 4 ?_
       refine TkM 5 ?_
       refine TkM 6 ?_
       refine TkM 8 ?_
       refine TkM 9 ?_
       refine TkM 10 ?_
       refine TkM 11 ?_
       refine TkM 12 ?_
       refine TkM 13 ?_
       refine TkM 14 ?_
       refine wpAnyM_ready (rs:=[0]) (by kernel_rfl) (by simp) (AllReadyM.cons (List.getElem?_toArray.trans rfl) false (by kernel_rfl) (fun K hK=> ?_) AllReadyM.nil)
       go_simp
       refine hK.out _ _ ?_ (fun hHeld=> ?_)
       focus((try dsimp only);exact .inr ((B_cell (B_alloc (B_drew (Below.refl _ _)) _) hsb).trans hci))
       clear hK K
       try simp only[Act.put,List.setIfInBounds_toArray,List.set_cons_zero,List.set_cons_succ]
       refine wpAnyM_ready (rs:=[7]) (by kernel_rfl) (by simp) (AllReadyM.cons (List.getElem?_toArray.trans rfl) false (by kernel_rfl) (fun K hK=> ?_) AllReadyM.nil)
       refine step_append_S (v:= .slice (some ⟨wr.drew.heap.size,0,none⟩) 0 0) (n:=0) (m:=k) rfl _ _ rfl elRec recC_len recC_one rfl (xs:=[]) (ys:=l.take k) (made_ownE _) rfl rfl HTI.out.symm ((HSM.out.take k).keep (n:=wr.heap.size) (B_alloc (B_drew (Below.refl _ _)) _)) (by simp only[maxLen];omega) (by omega) (by simp) ?_
       intro v3 w3 h1 h2 h3
       rw[List.nil_append]at h1
       have hb3:Below wr.heap.size wr w3:=Below.grown (B_alloc (B_drew (Below.refl _ _)) _) h2 (by simp) (by intro j hj;simp[blkOf]at hj;have:wr.drew.heap.size=wr.heap.size:=rfl;omega)
       obtain⟨VA,vc,hv,_,hvc⟩:=h1.sl recC_len
       rw[HTI.out]at hv
       subst hv
       refine hK.out _ _ ?_ (fun hHeld=> ?_)
       focus((try dsimp only);exact .inr ((B_cell hb3 hsb).trans hci))
       clear hK K
       try simp only[Act.put,List.setIfInBounds_toArray,List.set_cons_zero,List.set_cons_succ]
       refine wpAnyM_ready (rs:=[15]) (by kernel_rfl) (by simp) (AllReadyM.cons (List.getElem?_toArray.trans rfl) true (by kernel_rfl) (fun K hK=> ?_) AllReadyM.nil)
       refine step_append_S (v:= .slice VA k vc) (n:=k) (m:=l.length-(k+1)) rfl _ _ rfl elRec recC_len recC_one rfl (xs:=l.take k) (ys:=l.drop (k+1)) h1 HTI.out rfl (HLT9.out) (HSP.out.keep (n:=wr.heap.size) hb3) (by simp only[maxLen];omega) (by omega) (by have:=h2.size;simp at this⊢;omega) ?_
       intro v4 w4 g1 g2 g3
       rw[<-List.eraseIdx_eq_take_drop_succ]at g1
       have hb4:Below wr.heap.size wr w4:=Below.grown hb3 g2 hb3.size (fun j hj=>by have:=(h1.ge j hj).1;simp at this;omega)
       obtain⟨A5,c5,rfl,s5,hc5⟩:=g1.sl recC_len
       refine hK.out _ _ ?_ (fun hHeld=> ?_)
       focus((try dsimp only);exact .inl rfl)
       clear hK K
       try simp only[Act.put,List.setIfInBounds_toArray,List.set_cons_zero,List.set_cons_succ]
       refine wpAnyM_ready (rs:=[16]) (by kernel_rfl) (by simp) (AllReadyM.cons (List.getElem?_toArray.trans rfl) true (by kernel_rfl) (fun K hK=> ?_) AllReadyM.nil)
       go_simp
       refine hK.out _ _ ?_ (fun hHeld=> ?_)
       focus((try dsimp only);exact .inl rfl)
       clear hK K
       try simp only[Act.put,List.setIfInBounds_toArray,List.set_cons_zero,List.set_cons_succ]
       refine wpAnyM_done (by kernel_rfl) ?_ _
       clear hHeld
       go_wp2_with fail
       go_meet
       exact⟨A5,c5,rfl,hc5,s5,hb4⟩
    case rest=>
     obtain⟨A5,c5,rfl,hc5,s5,hb4⟩:=hcut
     have HB4:=Lib.hid (HWB.out.trans (hb4.mono HWB.out.size))
     have HB5:=Lib.hid (HB.out.trans (hb4.mono hbs))
     have hs5:=HB4.out.size
     have hs6:=HB5.out.size
     have hsub:=List.eraseIdx_sublist l k
     rcases HH2.out with⟨_,hle⟩|⟨T,hT,hle⟩
     ·have HL1:=hle▸HLE.out _ wc A5 c5 hc5 hsub (HTZ.out _ HB4.out) s5
      clear HLE HRK
      go_wp2_with (go_at_call 10;go_must(refine HL1.mono ?_);rintro e w7 ⟨A7,c7,rfl,hc7,s7,b7⟩)
      go_round
      case rel=>exact⟨j+1,HLT.out,by go_num,HB5.out.trans (b7.mono hs6)⟩
      case measure=>have:=HLT.out;simp only[intOf];omega
     ·have hlw:=HHW.out T hT
      have hlt2: ¬(T.length:Int)<(S.length:Int):=by omega
      have HL1:=hle▸HLE.out _ wc A5 c5 hc5 hsub (HTZ.out _ HB4.out) s5
      clear HLE HRK hlw hT
      go_wp2_with (go_at_call 10;go_must(refine HL1.mono ?_);rintro e w7 ⟨A7,c7,rfl,hc7,s7,b7⟩)
      go_round
      case rel=>exact⟨j+1,HLT.out,by go_num,HB5.out.trans (b7.mono hs6)⟩
      case measure=>have:=HLT.out;simp only[intOf];omega
   ·have hjs: ¬(j:Int)<(S.length:Int):=by omega
    have hwb:Below w.heap.size w wr:=HB1.out.trans (hB.mono hs1)
    have HWB:=Lib.hid hwb
    have hws:=hwb.size
    have HH0:=Lib.hid h0
    clear hwb hB HS1 HB1 HLE HL hlt HTZ HLS h0 hsl hj hbs hs1
    go_upto_region 19 with(at_builtin
                           go_loud(refine wpList_append_S (v:= .slice (some ⟨wr.heap.size,0,none⟩) 0 0) (n:=0) (m:=l.length) rfl _ _ rfl elRec recC_len recC_one rfl (xs:=[]) (ys:=l) (made_ownE wr) rfl rfl rfl (HS.out.keep (HWB.out.trans (Below.mono (B:=wr.heap.size) Bw hws))) (by simp only[maxLen];omega) (by omega) (by simp) ?_)
                           intro v2 w2 h1 h2 h3
                           rw[List.nil_append]at h1
                           have hb2:Below w.heap.size w w2:=Below.grown (HWB.out.trans (Below.mono (B:=wr.heap.size) Bw hws)) h2 (by simp;omega) (by intro j hj;simp[blkOf]at hj;omega)
                           obtain⟨A2,c2,rfl,s2,hc2⟩:=h1.sl recC_len
                           clear h1 h2 h3)
    clear HWB hws hjs
    have HDI:=Lib.hid (fun(m:List Rec) W (A2:Option Addr) c2 (hm:m.Sublist l) (h:m.length<=c2) (s:Sl W 8 Rec.cells A2 m)=>dispute_any m A2 c2 W h (fun x hx=>HLR.out x (hm.subset hx)) s)
    go_loopw [9,10,11,12] (fun v i _ _ wx=> ∃(j:Nat) (m:List Rec) (A5:Option Addr) (c5:Nat),i= .int .i64 j/\v= .slice A5 m.length c5/\m.length<=c5/\m.length+j=l.length/\Hid (m.Sublist l)/\Sl wx 8 Rec.cells A5 m/\Below w.heap.size w wx) (fun _ i _ _ _=>l.length+1-(intOf i).toNat)
    case atStart=>exact⟨0,l,A2,c2,rfl,rfl,hc2,rfl,Lib.hid (List.Sublist.refl _),s2,hb2⟩
    case round=>
     obtain⟨j,m,A5,c5,rfl,rfl,hc5,hm,HSU,s5,hB⟩:=hrel
     have hjs:(j:Int)<=(l.length:Int):=by omega
     have HB:=Lib.hid hB
     have hbs:=hB.size
     have HS5:=Lib.hid s5
     have hk0:checkRecsP m=0:=recs_sub HH0.out HSU.out
     have HD1:=HDI.out m wr A5 c5 HSU.out hc5 s5
     have HK1:=fun(W:World) (s:Sl W 8 Rec.cells A5 m)=>HRK.out m W A5 c5 HSU.out hc5 s
     have HMM:=Lib.hid hm
     clear hB s5 hm s2 hb2 hc2
     cases hcp:contraP m
     ·have he:dispErr m=12:=by unfold dispErr;rw[if_neg (by simp[hk0]),hcp];rfl
      rw[he,if_neg (by decide)]at HD1
      rw[hcp]at HK1
      have HD2:=Lib.hid HD1
      have HK2:=Lib.hid HK1
      clear HD1 HK1 HRK HDI he hcp hk0
      go_upto_region 22 with(go_at_call 13;go_must(refine HD2.out.mono ?_);rintro e w7 ⟨v7,rfl,o7,b7⟩;have HB7:=Lib.hid (HB.out.trans (b7.mono hbs)))
      go_wp2_with (go_at_call 11;go_must(refine(HK2.out _ (HS5.out.keep (n:=wr.heap.size) b7)).mono ?_);rintro e w8 ⟨rfl,z8,rfl⟩)
      go_ret
      exact Ret.of rfl (B_ext HB7.out _)
     ·have he:dispErr m=0:=by unfold dispErr;rw[if_neg (by simp[hk0]),hcp];rfl
      rw[he,if_pos rfl]at HD1
      have hds:=disp_set (nonneg5 (recs_ok hk0).2) hcp
      clear HK1 he hcp
      generalize dispP m=D at*
      have hse:=set_err0 hds.2
      have hmb:=min_b hds.1
      have hne:=min_ne hds.1
      have hdl:D.length<=m.length:=by
       have:=set_len (k:=0) hds.2.1 (fun i hi=>⟨Nat.zero_le _,hds.2.2 i hi⟩)
       omega
      have hin:=hds.2.2
      clear hds
      have hml:m.length<=l.length:=HSU.out.length_le
      have HCS:Hid (∀W SA sc,Sl W 1 intC SA D->Calls Tryz.prog 12 #[.slice A5 m.length c5, .slice SA D.length sc] W (Ret W (.int .i64 0))):=by
       refine Lib.hid fun W SA sc p=> ?_
       have:=rCheckSet_any m.length c5 A5 (D.map (fun(k:Nat)=>(k:Int))) SA sc W (by omega) (by rw[List.length_map];omega) (sl_ints p)
       rw[List.length_map,hse]at this
       exact this
      have HMI:Hid (∀W SA sc,D.length<=sc->Sl W 8 Rec.cells A5 m->Sl W 1 intC SA D->Calls Tryz.prog 14 #[.slice A5 m.length c5, .slice SA D.length sc] W (fun e w'=>e= .returned (.bool true)/\Below W.heap.size W w')):=by
       refine Lib.hid fun W SA sc q s p=> ?_
       have:=rMinimal_any m D A5 c5 SA sc W hc5 (by omega) q hin (recs_ok hk0).2 s p
       rw[hmb]at this
       exact this
      have hd0:0<D.length:=List.length_pos_iff.2 hne
      have hn0:((D.length:Int)==0)=false:=by simpa using hne
      have HIN:=Lib.hid hin
      have HD0:=Lib.hid hd0
      have HD2:=Lib.hid HD1
      clear hse hmb hne hin hk0 hd0 HD1 HDI HRK hdl
      go_upto_region 24 with(go_at_call 13;go_must(refine HD2.out.mono ?_);rintro e w7 ⟨v7,rfl,o7,b7⟩;obtain⟨SA,sc,rfl,s7,hsc⟩:=o7.sl intC_len;clear o7)
      have HB7:=Lib.hid (HB.out.trans (b7.mono hbs))
      have HM7:=Lib.hid (HS5.out.keep (n:=wr.heap.size) b7)
      have HS7:=Lib.hid s7
      have HSC:=Lib.hid hsc
      clear b7 s7 HS5 hsc HD2
      have hs7:=HB7.out.size
      go_upto_region 26 with(first
       |(go_at_call 12;go_must(refine(HCS.out _ SA sc HS7.out).mono ?_);rintro e w8 ⟨rfl,z8,rfl⟩)
       |(go_at_call 14;go_must(refine(HMI.out _ SA sc HSC.out (HM7.out.keep (n:=w7.heap.size) (below_ext w7 z8)) (HS7.out.keep (n:=w7.heap.size) (below_ext w7 z8))).mono ?_);rintro e W6 ⟨rfl,b9⟩))
      have b8:Below w7.heap.size w7 W6:=(below_ext w7 z8).trans (b9.mono (by simp[ext_size]))
      have HSM:=Lib.hid (HM7.out.keep (n:=w7.heap.size) b8)
      have HS8:=Lib.hid (HS7.out.keep (n:=w7.heap.size) b8)
      have HB8:=Lib.hid (HB7.out.trans (b8.mono hs7))
      have hs8:=HB8.out.size
      clear b8 b9 HB7 HM7 HS7 HCS HMI hs7
      obtain⟨sb,so,hSA,hsb,hcc⟩:=HS8.out.at HD0.out
      have hci:W6.cell? ⟨sb,so,none⟩=some (.int .i64 (D[0]'HD0.out:Nat)):=by have:=hcc 0 (.int .i64 (D[0]'HD0.out:Nat)) rfl;rw[Nat.mul_one]at this;exact this
      have hkl:D[0]'HD0.out<m.length:=HIN.out _ (List.getElem_mem _)
      subst hSA
      generalize D[0]'HD0.out=k at*
      have hti:(m.take k).length=k:=cut_two hkl
      have HTI:=Lib.hid hti
      obtain⟨bb,off,rfl,hbb,_⟩:=HSM.out (by omega)
      have HSP:=Lib.hid (sl_partE HSM.out (k+1))
      clear hcc hti HIN
      have hj00:0<D.length:=HD0.out
      have hj0:(0:Int)<(D.length:Int):=by omega
      have q0:(0:Int)<=(k:Int):=by omega
      have q1:(k:Int)<=(c5:Int):=by omega
      have q2:(0:Int)<=(k:Int)+1:=by omega
      have q3:(k:Int)+1<=(m.length:Int):=by omega
      have q4:((k:Int)+1).toNat=k+1:=by omega
      have q5:IntKind.i64.wrap ((k:Int)+1)=(k:Int)+1:=by rw[IntKind.wrap_i64];omega
      have q6:(m.length:Int)<=(c5:Int):=by omega
      have g1:(k:Int)<=(k:Int)+1:=by omega
      have g2:(k:Int)+1<=(c5:Int):=by omega
      refine wp_region_mark 13 (fun bb w'=>bb=true\/w'.cell? ⟨sb,so,none⟩=some (.int .i64 (k:Nat))) (by kernel_rfl) (.inr hci) ?hrest
      case hrest=>
       have HLT9:Hid (m.length-(k+1)=(m.drop (k+1)).length):=by show _=_;simp
       by_cases hcap:c5=k+1
       ·subst hcap
        have hd:m.drop (k+1)=[]:=List.drop_of_length_le (by omega)
        have HD:Hid (∀W,Sl W 8 Rec.cells (some ⟨bb,off,none⟩) (m.drop (k+1))):=fun W=>by rw[hd];exact Sl.nil
        clear hd
        intro hHeld
        refine TkM 1 ?_
        refine TkM 2 ?_
        refine TkM 3 ?_
        refine TkM 4 ?_
        refine TkM 5 ?_
        refine TkM 7 ?_
        refine TkM 8 ?_
        refine TkM 9 ?_
        refine TkM 10 ?_
        refine TkM 11 ?_
        refine TkM 12 ?_
        refine wpAnyM_ready (rs:=[0]) (by kernel_rfl) (by simp) (AllReadyM.cons (List.getElem?_toArray.trans rfl) false (by kernel_rfl) (fun K hK=> ?_) AllReadyM.nil)
        go_simp
        refine hK.out _ _ ?_ (fun hHeld=> ?_)
        focus((try dsimp only);exact .inr ((B_cell (B_alloc (B_drew (Below.refl _ _)) _) hsb).trans hci))
        clear hK K
        try simp only[Act.put,List.setIfInBounds_toArray,List.set_cons_zero,List.set_cons_succ]
        refine wpAnyM_ready (rs:=[6]) (by kernel_rfl) (by simp) (AllReadyM.cons (List.getElem?_toArray.trans rfl) false (by kernel_rfl) (fun K hK=> ?_) AllReadyM.nil)
        refine step_append_S (v:= .slice (some ⟨W6.drew.heap.size,0,none⟩) 0 0) (n:=0) (m:=k) rfl _ _ rfl elRec recC_len recC_one rfl (xs:=[]) (ys:=m.take k) (made_ownE _) rfl rfl HTI.out.symm ((HSM.out.take k).keep (n:=W6.heap.size) (B_alloc (B_drew (Below.refl _ _)) _)) (by simp only[maxLen];omega) (by omega) (by simp) ?_
        intro v3 w3 h1 h2 h3
        rw[List.nil_append]at h1
        have hb3:Below W6.heap.size W6 w3:=Below.grown (B_alloc (B_drew (Below.refl _ _)) _) h2 (by simp) (by intro j hj;simp[blkOf]at hj;have:W6.drew.heap.size=W6.heap.size:=rfl;omega)
        obtain⟨VA,vc,hv,_,hvc⟩:=h1.sl recC_len
        rw[HTI.out]at hv
        subst hv
        refine hK.out _ _ ?_ (fun hHeld=> ?_)
        focus((try dsimp only);exact .inr ((B_cell hb3 hsb).trans hci))
        clear hK K
        try simp only[Act.put,List.setIfInBounds_toArray,List.set_cons_zero,List.set_cons_succ]
        refine wpAnyM_ready (rs:=[13]) (by kernel_rfl) (by simp) (AllReadyM.cons (List.getElem?_toArray.trans rfl) true (by kernel_rfl) (fun K hK=> ?_) AllReadyM.nil)
        refine step_append_S (v:= .slice VA k vc) (n:=k) (m:=0) rfl _ _ rfl elRec recC_len recC_one rfl (xs:=m.take k) (ys:=m.drop (k+1)) h1 HTI.out rfl (by rw[<-HLT9.out];omega) (HD.out _) (by simp only[maxLen];omega) (by omega) (by have:=h2.size;simp at this⊢;omega) ?_
        intro v4 w4 g1 g2 g3
        rw[<-List.eraseIdx_eq_take_drop_succ]at g1
        have hb4:Below W6.heap.size W6 w4:=Below.grown hb3 g2 hb3.size (fun j hj=>by have:=(h1.ge j hj).1;simp at this;omega)
        obtain⟨A5,c5,rfl,s5,hc5⟩:=g1.sl recC_len
        refine hK.out _ _ ?_ (fun hHeld=> ?_)
        focus((try dsimp only);exact .inl rfl)
        clear hK K
        try simp only[Act.put,List.setIfInBounds_toArray,List.set_cons_zero,List.set_cons_succ]
        refine wpAnyM_ready (rs:=[14]) (by kernel_rfl) (by simp) (AllReadyM.cons (List.getElem?_toArray.trans rfl) true (by kernel_rfl) (fun K hK=> ?_) AllReadyM.nil)
        go_simp
        refine hK.out _ _ ?_ (fun hHeld=> ?_)
        focus((try dsimp only);exact .inl rfl)
        clear hK K
        try simp only[Act.put,List.setIfInBounds_toArray,List.set_cons_zero,List.set_cons_succ]
        refine wpAnyM_done (by kernel_rfl) ?_ _
        clear hHeld
        go_wp2_with fail
        go_round
        case rel=>exact⟨j+1,m.eraseIdx k,A5,c5,by go_num,rfl,hc5,by rw[List.length_eraseIdx_of_lt hkl];have:=HMM.out;omega,Lib.hid ((List.eraseIdx_sublist m k).trans HSU.out),s5,HB8.out.trans (hb4.mono hs8)⟩
        case measure=>have:=HMM.out;simp only[intOf];omega
       ·have hcap2: ¬c5=k+1:=hcap
        intro hHeld
        refine TkM 1 ?_
        refine TkM 2 ?_
        refine TkM 3 ?_
        refine TkM 4 ?_
        refine TkM 5 ?_
        refine TkM 7 ?_
        refine TkM 8 ?_
        refine TkM 9 ?_
        refine TkM 10 ?_
        refine TkM 11 ?_
        refine TkM 12 ?_
        refine wpAnyM_ready (rs:=[0]) (by kernel_rfl) (by simp) (AllReadyM.cons (List.getElem?_toArray.trans rfl) false (by kernel_rfl) (fun K hK=> ?_) AllReadyM.nil)
        go_simp
        refine hK.out _ _ ?_ (fun hHeld=> ?_)
        focus((try dsimp only);exact .inr ((B_cell (B_alloc (B_drew (Below.refl _ _)) _) hsb).trans hci))
        clear hK K
        try simp only[Act.put,List.setIfInBounds_toArray,List.set_cons_zero,List.set_cons_succ]
        refine wpAnyM_ready (rs:=[6]) (by kernel_rfl) (by simp) (AllReadyM.cons (List.getElem?_toArray.trans rfl) false (by kernel_rfl) (fun K hK=> ?_) AllReadyM.nil)
        refine step_append_S (v:= .slice (some ⟨W6.drew.heap.size,0,none⟩) 0 0) (n:=0) (m:=k) rfl _ _ rfl elRec recC_len recC_one rfl (xs:=[]) (ys:=m.take k) (made_ownE _) rfl rfl HTI.out.symm ((HSM.out.take k).keep (n:=W6.heap.size) (B_alloc (B_drew (Below.refl _ _)) _)) (by simp only[maxLen];omega) (by omega) (by simp) ?_
        intro v3 w3 h1 h2 h3
        rw[List.nil_append]at h1
        have hb3:Below W6.heap.size W6 w3:=Below.grown (B_alloc (B_drew (Below.refl _ _)) _) h2 (by simp) (by intro j hj;simp[blkOf]at hj;have:W6.drew.heap.size=W6.heap.size:=rfl;omega)
        obtain⟨VA,vc,hv,_,hvc⟩:=h1.sl recC_len
        rw[HTI.out]at hv
        subst hv
        refine hK.out _ _ ?_ (fun hHeld=> ?_)
        focus((try dsimp only);exact .inr ((B_cell hb3 hsb).trans hci))
        clear hK K
        try simp only[Act.put,List.setIfInBounds_toArray,List.set_cons_zero,List.set_cons_succ]
        refine wpAnyM_ready (rs:=[13]) (by kernel_rfl) (by simp) (AllReadyM.cons (List.getElem?_toArray.trans rfl) true (by kernel_rfl) (fun K hK=> ?_) AllReadyM.nil)
        refine step_append_S (v:= .slice VA k vc) (n:=k) (m:=m.length-(k+1)) rfl _ _ rfl elRec recC_len recC_one rfl (xs:=m.take k) (ys:=m.drop (k+1)) h1 HTI.out rfl (HLT9.out) (HSP.out.keep (n:=W6.heap.size) hb3) (by simp only[maxLen];omega) (by omega) (by have:=h2.size;simp at this⊢;omega) ?_
        intro v4 w4 g1 g2 g3
        rw[<-List.eraseIdx_eq_take_drop_succ]at g1
        have hb4:Below W6.heap.size W6 w4:=Below.grown hb3 g2 hb3.size (fun j hj=>by have:=(h1.ge j hj).1;simp at this;omega)
        obtain⟨A5,c5,rfl,s5,hc5⟩:=g1.sl recC_len
        refine hK.out _ _ ?_ (fun hHeld=> ?_)
        focus((try dsimp only);exact .inl rfl)
        clear hK K
        try simp only[Act.put,List.setIfInBounds_toArray,List.set_cons_zero,List.set_cons_succ]
        refine wpAnyM_ready (rs:=[14]) (by kernel_rfl) (by simp) (AllReadyM.cons (List.getElem?_toArray.trans rfl) true (by kernel_rfl) (fun K hK=> ?_) AllReadyM.nil)
        go_simp
        refine hK.out _ _ ?_ (fun hHeld=> ?_)
        focus((try dsimp only);exact .inl rfl)
        clear hK K
        try simp only[Act.put,List.setIfInBounds_toArray,List.set_cons_zero,List.set_cons_succ]
        refine wpAnyM_done (by kernel_rfl) ?_ _
        clear hHeld
        go_wp2_with fail
        go_round
        case rel=>exact⟨j+1,m.eraseIdx k,A5,c5,by go_num,rfl,hc5,by rw[List.length_eraseIdx_of_lt hkl];have:=HMM.out;omega,Lib.hid ((List.eraseIdx_sublist m k).trans HSU.out),s5,HB8.out.trans (hb4.mono hs8)⟩
        case measure=>have:=HMM.out;simp only[intOf];omega
end Go.Proofs.YtkhkhnellekofaaGreatDoor
