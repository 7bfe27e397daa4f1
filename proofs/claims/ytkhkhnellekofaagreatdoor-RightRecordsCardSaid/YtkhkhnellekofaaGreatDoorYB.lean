/- The law RightRecords, walked. -/
import Derived.Test.YtkhkhnellekofaaGreatDoorUK
import Derived.Test.YtkhkhnellekofaaGreatDoorUE
import Derived.Test.YtkhkhnellekofaaGreatDoorRP
import Derived.Test.YtkhkhnellekofaaGreatDoorDM
set_option linter.unusedSimpArgs false
set_option linter.unusedVariables false
namespace Go.Proofs.YtkhkhnellekofaaGreatDoor
open Go.RowKit Go.Shelf
attribute [local go_sem] World.cell?_alloc_mark ext_size ext_cell ext_frozen lt_add_r lt_add_r2 lt_add_r3 lt_add_r4 lt_add_r5 lt_add_r6 lt_add_r7 lt_add_r8
attribute [local go_sem] ext_setCell alloc_setCell_lt
theorem sl_part8 {α:Type} {w:World} {f:α->List Value} {b off:Nat} {xs:List α} (h:Sl w 8 f (some ⟨b,off,none⟩) xs) (k:Nat):Sl w 8 f (some ⟨b,off+k*8,none⟩) (xs.drop k):=fun hl=>by
 rw[List.length_drop]at hl
 obtain⟨b',off',hA,hb,hc⟩:=h (by omega)
 simp only[Option.some.injEq,Addr.mk.injEq,and_true]at hA
 obtain⟨rfl,rfl⟩:=hA
 refine⟨b,off+k*8,rfl,hb,fun j x hx u v hu=> ?_⟩
 rw[List.getElem?_drop]at hx
 have:=hc (k+j) x hx u v hu
 rw[<-this]
 congr 2
 omega
theorem made_own (W:World):OwnS (W.alloc (.cells #[] 65)) W.heap.size 65 8 Rec.cells (.slice (some ⟨W.heap.size,0,none⟩) 0 0) []:=
 OwnS.of_own recC_len (World.ownsRow_made W #[] 0 (Nat.le_refl _) (Nat.zero_le _) (by simp))
theorem erase_ok {l:List Rec} {k:Nat} (h:checkRecsP l=0):checkRecsP (l.eraseIdx k)=0:=by
 have h1:=recs_ok h
 unfold checkRecsP
 rw[if_neg (by have:=List.length_eraseIdx_le (l:=l) (i:=k);have:=h1.1;simp;omega)]
 have key: ∀m:List Rec,(∀x∈m,checkRecP x=0)->firstErr checkRecP m=0:=by
  intro m
  induction m with
  |nil=>intro _;rfl
  |cons x m ih=>
   intro hm
   rw[firstErr,hm x (by simp)]
   exact ih fun y hy=>hm y (by simp[hy])
 exact key _ fun x hx=>h1.2 x ((List.eraseIdx_sublist l k).subset hx)
theorem erase_lens {l:List Rec} {k:Nat} (h:recLens l):recLens (l.eraseIdx k):=fun x hx=>h x ((List.eraseIdx_sublist l k).subset hx)
set_option maxRecDepth 100000 in
set_option maxHeartbeats 2000000 in
theorem rightRecords_any (l:List Rec) (A:Option Addr) (c:Nat) (n1:Int) (w:World) (hL:Laid5 w) (hc:l.length<=c) (hS:Sl w 8 Rec.cells A l):
 Calls Tryz.prog 4 #[.slice A l.length c, .int .i64 n1] w (Ret w (.bool true)):=by
 have HL:=Lib.hid hL
 have HS:=Lib.hid hS
 have HSH:=Lib.hid (fun W (hW:Below w.heap.size w W)=>short_any l 14 A c W (by decide) hc (hS.keep hW))
 clear hL hS
 go_enter Tryz.func4,Tryz.ntmps4
 cases hsh:shortP l 14
 ·rw[hsh]at HSH
  clear hsh
  go_wp2_with (first
   |(go_at_call 15;go_must(refine(awake5_any _ HL.out).mono ?_);rintro e wq ⟨rfl,z0,rfl⟩)
   |(go_at_call 16;go_must(refine(HSH.out _ Bw).mono ?_);rintro e wq ⟨rfl,rfl⟩))
  go_ret
  exact Ret.of rfl Bw
 ·have hsl:=short_lens hsh
  rw[hsh]at HSH
  clear hsh
  obtain⟨hlen,h45,h14⟩:=hsl
  have HLN:=Lib.hid hlen
  clear hlen
  go_upto_region 5 with(first
   |(go_at_call 15;go_must(refine(awake5_any _ HL.out).mono ?_);rintro e wq ⟨rfl,z0,rfl⟩)
   |(go_at_call 16;go_must(refine(HSH.out _ Bw).mono ?_);rintro e wq ⟨rfl,rfl⟩))
  have hB0:Below w.heap.size w (w.ext z0):=below_ext w z0
  generalize w.ext z0=W0 at*
  have HB0:=Lib.hid hB0
  have hs0:=hB0.size
  clear hB0 HSH
  have HCX:=Lib.hid (fun(W:World) (A2:Option Addr) (c2:Nat) (h:l.length<=c2) (s:Sl W 8 Rec.cells A2 l)=>contraX_any l A2 c2 W h HLN.out s)
  have HRC:=Lib.hid (fun W (hW:Below w.heap.size w W)=>rCheckRecs_any l A c W hc HLN.out (HS.out.keep hW))
  have HPC:=Lib.hid (fun(W:World) (A2:Option Addr) (c2:Nat) (h:l.length<=c2) (s:Sl W 8 Rec.cells A2 l)=>checkRecords_any l A2 l.length c2 W rfl h HLN.out s)
  have hcr:(contraR l).2=checkRecsP l:=by
   unfold contraR
   split
   ·rfl
   ·rename_i h;simp at h;exact h.symm
  obtain⟨E,hE⟩: ∃E,checkRecsP l=E:=⟨_,rfl⟩
  obtain⟨b,hb⟩: ∃b,(contraR l).1=b:=⟨_,rfl⟩
  rw[hcr,hb]at HCX
  rw[hE]at HCX HRC HPC
  have HE:=Lib.hid hE
  have HBB:=Lib.hid hb
  clear hcr hE hb
  go_upto_region 6 with(first
   |(at_builtin
     go_loud(refine wpList_append_S (v:= .slice (some ⟨W0.heap.size,0,none⟩) 0 0) (n:=0) (m:=l.length) rfl _ _ rfl elRec recC_len recC_one rfl (xs:=[]) (ys:=l) (made_own W0) rfl rfl rfl (HS.out.keep (HB0.out.trans (Below.mono (B:=W0.heap.size) Bw hs0))) (by simp only[maxLen];omega) (by omega) (by simp) ?_)
     intro v2 w2 h1 h2 h3
     rw[List.nil_append]at h1
     obtain⟨A2,c2,rfl,s2,hc2⟩:=h1.sl recC_len)
   |(go_at_call 17;go_must(refine(HCX.out _ _ _ hc2 s2).mono ?_);rintro e w3 ⟨rfl,z3,rfl⟩))
  have hB1:Below w.heap.size w (w2.ext z3):=B_ext (Below.grown (HB0.out.trans (Below.mono (B:=W0.heap.size) Bw hs0)) h2 (by simp;omega) (by intro j hj;simp[blkOf]at hj;omega)) _
  clear h1 h2 h3 hc2 s2
  generalize w2.ext z3=W1 at*
  have HB1:=Lib.hid hB1
  clear hB1
  go_upto_region 7 with(go_at_call 9;go_must(refine(HRC.out _ HB1.out).mono ?_);rintro e w3 ⟨rfl,z4,rfl⟩)
  have hB2:Below w.heap.size w (W1.ext z4):=B_ext HB1.out _
  generalize W1.ext z4=W2 at*
  have HB2:=Lib.hid hB2
  have hs2:=hB2.size
  clear hB2
  go_upto_region 9 with(first
   |(at_builtin
     go_loud(refine wpList_append_S (v:= .slice (some ⟨W2.heap.size,0,none⟩) 0 0) (n:=0) (m:=l.length) rfl _ _ rfl elRec recC_len recC_one rfl (xs:=[]) (ys:=l) (made_own W2) rfl rfl rfl (HS.out.keep (HB2.out.trans (Below.mono (B:=W2.heap.size) Bw hs2))) (by simp only[maxLen];omega) (by omega) (by simp) ?_)
     intro v2 w2 h1 h2 h3
     rw[List.nil_append]at h1
     obtain⟨A2,c2,rfl,s2,hc2⟩:=h1.sl recC_len)
   |(go_at_call 18;go_must(refine(HPC.out _ _ _ hc2 s2).mono ?_);rintro e w3 ⟨rfl,z5,rfl⟩))
  have hB3:Below w.heap.size w (w2.ext z5):=B_ext (Below.grown (HB2.out.trans (Below.mono (B:=W2.heap.size) Bw hs2)) h2 (by simp;omega) (by intro j hj;simp[blkOf]at hj;omega)) _
  clear h1 h2 h3 hc2 s2 hs2 HCX HRC HPC
  generalize w2.ext z5=W3 at*
  have HB3:=Lib.hid hB3
  have hs3:=hB3.size
  clear hB3 HB0 HB1 HB2 hs0
  by_cases hz:E=0
  ·subst hz
   have hok:=recs_ok HE.out
   have HOK:=Lib.hid hok.2
   have h13:l.length<=14:=by have:=hok.1;omega
   have hbb:contraP l=b:=by
    have:=HBB.out
    unfold contraR at this
    rwa [if_neg (by rw[HE.out];simp)]at this
   have HRK:=Lib.hid (fun W (hW:Below w.heap.size w W)=>rContradicts_any l A c W hc (by omega) HOK.out (HS.out.keep hW))
   have HNN:=Lib.hid (nonneg5 HOK.out)
   rw[hbb]at HRK
   have HCB:=Lib.hid hbb
   clear hok hbb HBB
   go_upto_region 13 with(go_at_call 11;go_must(refine(HRK.out _ (by have:=HB3.out;repeat(first|exact B_refl|exact Below.refl _ _|assumption|with_reducible refine B_alloc ?_ _|with_reducible refine B_ext ?_ _|with_reducible refine B_drew ?_|with_reducible refine B_drewN ?_ _|with_reducible refine B_set ?_ (by simp;omega) _))).mono ?_);rintro e w4 ⟨rfl,z6,rfl⟩)
   have hB4:Below w.heap.size w (W3.ext z6):=B_ext HB3.out _
   generalize W3.ext z6=W4 at*
   have HB4:=Lib.hid hB4
   have hs4:=hB4.size
   clear hB4 HB3 hs3 HRK
   by_cases hl0:l.length=0
   ·have hle:l=[]:=List.length_eq_zero_iff.1 hl0
    have hb:b=false:=by rw[<-HCB.out,hle];exact contra_nil
    subst hb
    have h1:(l.length:Int)=0:=by omega
    clear hle hl0
    go_wp2_with fail
    go_ret
    exact Ret.of rfl HB4.out
   ·have h1: ¬(l.length:Int)=0:=by omega
    have h2:((l.length:Int)==0)=false:=by simpa using h1
    have hmd:=mod_any n1 (l.length:Int)
    have e1:=Int.emod_nonneg n1 h1
    have e2:=Int.emod_lt_of_pos n1 (show(0:Int)<(l.length:Int) by omega)
    obtain⟨k,hk⟩: ∃k:Nat,n1%(l.length:Int)=(k:Int):=⟨_,(Int.toNat_of_nonneg e1).symm⟩
    rw[hk]at hmd e2
    have HMD:=Lib.hid (fun W=>hmd W (by omega) (by omega))
    clear hmd e1 hk
    go_upto_region 16 with(go_at_call 19;go_must(refine(HMD.out _).mono ?_);rintro e w4 ⟨rfl,rfl⟩)
    have hkl:k<l.length:=by omega
    have hti:(l.take k).length=k:=by rw[List.length_take];omega
    have HCE:=Lib.hid (fun(W:World) (A2:Option Addr) (c2:Nat) (h:(l.eraseIdx k).length<=c2) (s:Sl W 8 Rec.cells A2 (l.eraseIdx k))=>contraX_any (l.eraseIdx k) A2 c2 W h (erase_lens HLN.out) s)
    have hce:contraR (l.eraseIdx k)=(contraP (l.eraseIdx k),0):=by
     unfold contraR
     rw[if_neg (by rw[erase_ok HE.out];simp)]
    rw[hce]at HCE
    simp only at HCE
    have HMO:Hid (contraP (l.eraseIdx k)=true->b=true):=by
     intro h
     rw[<-HCB.out]
     exact contra_mono (List.eraseIdx_sublist l k) HNN.out h
    obtain⟨b2,hb2⟩: ∃b2,contraP (l.eraseIdx k)=b2:=⟨_,rfl⟩
    rw[hb2]at HCE HMO
    clear hce hb2
    obtain⟨bb,off,rfl,hbb,_⟩:=HS.out (by omega)
    have HSP:=Lib.hid (sl_part8 HS.out (k+1))
    have q0:(0:Int)<=(k:Int):=by omega
    have q1:(k:Int)<=(c:Int):=by omega
    have q2:(0:Int)<=(k:Int)+1:=by omega
    have q3:(k:Int)+1<=(l.length:Int):=by omega
    have q4:((k:Int)+1).toNat=k+1:=by omega
    have q5:IntKind.i64.wrap ((k:Int)+1)=(k:Int)+1:=by rw[IntKind.wrap_i64];omega
    have q6:(l.length:Int)<=(c:Int):=by omega
    refine wp_region_mark 10 (fun bb w'=>bb=true\/True) (by kernel_rfl) (.inr trivial) ?hrest
    case hrest=>
     have g1:(k:Int)<=(k:Int)+1:=by omega
     have g2:(k:Int)+1<=(c:Int):=by omega
     have HLT9:Hid (l.length-(k+1)=(l.drop (k+1)).length):=by show _=_;simp
     have HTI:=Lib.hid hti
     clear hti
     by_cases hcap:c=k+1
     ·subst hcap
      have hd:l.drop (k+1)=[]:=List.drop_of_length_le (by omega)
      have HD:Hid (∀W,Sl W 8 Rec.cells (some ⟨bb,off,none⟩) (l.drop (k+1))):=fun W=>by rw[hd];exact Sl.nil
      clear hd
      intro hHeld
      refine TkM 1 ?_
      refine TkM 2 ?_
      refine TkM 3 ?_
      refine TkM 5 ?_
      refine TkM 6 ?_
      refine TkM 7 ?_
      refine TkM 8 ?_
      refine wpAnyM_ready (rs:=[0]) (by kernel_rfl) (by simp) (AllReadyM.cons (List.getElem?_toArray.trans rfl) false (by kernel_rfl) (fun K hK=> ?_) AllReadyM.nil)
      go_simp
      refine hK.out _ _ ?_ (fun hHeld=> ?_)
      focus((try dsimp only);exact .inr trivial)
      clear hK K
      try simp only[Act.put,List.setIfInBounds_toArray,List.set_cons_zero,List.set_cons_succ]
      refine wpAnyM_ready (rs:=[4]) (by kernel_rfl) (by simp) (AllReadyM.cons (List.getElem?_toArray.trans rfl) false (by kernel_rfl) (fun K hK=> ?_) AllReadyM.nil)
      refine step_append_S (v:= .slice (some ⟨W4.drew.heap.size,0,none⟩) 0 0) (n:=0) (m:=k) rfl _ _ rfl elRec recC_len recC_one rfl (xs:=[]) (ys:=l.take k) (made_own _) rfl rfl HTI.out.symm ((HS.out.take k).keep (B_alloc (B_drew HB4.out) _)) (by simp only[maxLen];omega) (by omega) (by simp) ?_
      intro v3 w3 h1 h2 h3
      rw[List.nil_append]at h1
      have hb3:Below w.heap.size w w3:=Below.grown (B_alloc (B_drew HB4.out) _) h2 (by simp;omega) (by intro j hj;simp[blkOf]at hj;have:W4.drew.heap.size=W4.heap.size:=rfl;omega)
      obtain⟨VA,vc,hv,_,hvc⟩:=h1.sl recC_len
      rw[HTI.out]at hv
      subst hv
      refine hK.out _ _ ?_ (fun hHeld=> ?_)
      focus((try dsimp only);exact .inr trivial)
      clear hK K
      try simp only[Act.put,List.setIfInBounds_toArray,List.set_cons_zero,List.set_cons_succ]
      refine wpAnyM_ready (rs:=[9]) (by kernel_rfl) (by simp) (AllReadyM.cons (List.getElem?_toArray.trans rfl) false (by kernel_rfl) (fun K hK=> ?_) AllReadyM.nil)
      refine step_append_S (v:= .slice VA k vc) (n:=k) (m:=0) rfl _ _ rfl elRec recC_len recC_one rfl (xs:=l.take k) (ys:=l.drop (k+1)) h1 HTI.out rfl (by rw[<-HLT9.out];omega) (HD.out _) (by simp only[maxLen];omega) (by omega) (by have:=h2.size;simp at this⊢;omega) ?_
      intro v4 w4 g1 g2 g3
      rw[<-List.eraseIdx_eq_take_drop_succ]at g1
      have hb4:Below w.heap.size w w4:=Below.grown hb3 g2 hb3.size (fun j hj=>by have:=(h1.ge j hj).1;simp at this;omega)
      obtain⟨A5,c5,rfl,s5,hc5⟩:=g1.sl recC_len
      refine hK.out _ _ ?_ (fun hHeld=> ?_)
      focus((try dsimp only);exact .inr trivial)
      clear hK K
      try simp only[Act.put,List.setIfInBounds_toArray,List.set_cons_zero,List.set_cons_succ]
      refine wpAnyM_ready (rs:=[10]) (by kernel_rfl) (by simp) (AllReadyM.cons (List.getElem?_toArray.trans rfl) true (by kernel_rfl) (fun K hK=> ?_) AllReadyM.nil)
      go_simp
      refine(HCE.out w4 A5 c5 hc5 s5).mono ?_
      rintro e w5 ⟨rfl,z5,rfl⟩
      refine hK.out _ _ ?_ (fun hHeld=> ?_)
      focus((try dsimp only);exact .inl rfl)
      clear hK K
      try simp only[Act.put,List.setIfInBounds_toArray,List.set_cons_zero,List.set_cons_succ]
      have hb5:Below w.heap.size w (w4.ext z5):=B_ext hb4 _
      generalize w4.ext z5=W5 at*
      refine wpAnyM_free (i:=11) (v:= ?_) true (by kernel_rfl) (List.getElem?_toArray.trans rfl) (by decide) (by kernel_rfl) (by kernel_rfl) (by kernel_rfl) (fun _ _ _ h=>h) (Or.inl ⟨by rfl,?_⟩) (by first|assumption|trivial) ?_
      rotate_left 1
      focus(intro w hSw;go_simp;first|done|with_reducible rfl)
      try simp only[Act.put,List.setIfInBounds_toArray,List.set_cons_zero,List.set_cons_succ]
      refine wpAnyM_free (i:=12) (v:= ?_) true (by kernel_rfl) (List.getElem?_toArray.trans rfl) (by decide) (by kernel_rfl) (by kernel_rfl) (by kernel_rfl) (fun _ _ _ h=>h) (Or.inl ⟨by rfl,?_⟩) (by first|assumption|trivial) ?_
      rotate_left 1
      focus(intro w hSw;go_simp;first|done|with_reducible rfl)
      try simp only[Act.put,List.setIfInBounds_toArray,List.set_cons_zero,List.set_cons_succ]
      refine wpAnyM_free (i:=13) (v:= ?_) true (by kernel_rfl) (List.getElem?_toArray.trans rfl) (by decide) (by kernel_rfl) (by kernel_rfl) (by kernel_rfl) (fun _ _ _ h=>h) (Or.inl ⟨by rfl,?_⟩) (by first|assumption|trivial) ?_
      rotate_left 1
      focus(intro w hSw;go_simp;first|done|with_reducible rfl)
      try simp only[Act.put,List.setIfInBounds_toArray,List.set_cons_zero,List.set_cons_succ]
      refine wpAnyM_ready (rs:=[14]) (by kernel_rfl) (by simp) (AllReadyM.cons (List.getElem?_toArray.trans rfl) true (by kernel_rfl) (fun K hK=> ?_) AllReadyM.nil)
      go_simp
      refine hK.out _ _ ?_ (fun hHeld=> ?_)
      focus((try dsimp only);exact .inl rfl)
      clear hK K
      try simp only[Act.put,List.setIfInBounds_toArray,List.set_cons_zero,List.set_cons_succ]
      refine wpAnyM_ready (rs:=[15]) (by kernel_rfl) (by simp) (AllReadyM.cons (List.getElem?_toArray.trans rfl) true (by kernel_rfl) (fun K hK=> ?_) AllReadyM.nil)
      go_simp
      refine hK.out _ _ ?_ (fun hHeld=> ?_)
      focus((try dsimp only);exact .inl rfl)
      clear hK K
      try simp only[Act.put,List.setIfInBounds_toArray,List.set_cons_zero,List.set_cons_succ]
      refine wpAnyM_done (by kernel_rfl) ?_ _
      clear hHeld
      have HB5:=Lib.hid hb5
      clear hb5
      cases b
      ·cases b2
       ·go_wp2_with fail
        go_ret
        exact Ret.of rfl HB5.out
       ·exact absurd (HMO.out rfl) (by decide)
      ·go_wp2_with fail
       go_ret
       exact Ret.of rfl HB5.out
     ·have hcap2: ¬c=k+1:=hcap
      intro hHeld
      refine TkM 1 ?_
      refine TkM 2 ?_
      refine TkM 3 ?_
      refine TkM 5 ?_
      refine TkM 6 ?_
      refine TkM 7 ?_
      refine TkM 8 ?_
      refine wpAnyM_ready (rs:=[0]) (by kernel_rfl) (by simp) (AllReadyM.cons (List.getElem?_toArray.trans rfl) false (by kernel_rfl) (fun K hK=> ?_) AllReadyM.nil)
      go_simp
      refine hK.out _ _ ?_ (fun hHeld=> ?_)
      focus((try dsimp only);exact .inr trivial)
      clear hK K
      try simp only[Act.put,List.setIfInBounds_toArray,List.set_cons_zero,List.set_cons_succ]
      refine wpAnyM_ready (rs:=[4]) (by kernel_rfl) (by simp) (AllReadyM.cons (List.getElem?_toArray.trans rfl) false (by kernel_rfl) (fun K hK=> ?_) AllReadyM.nil)
      refine step_append_S (v:= .slice (some ⟨W4.drew.heap.size,0,none⟩) 0 0) (n:=0) (m:=k) rfl _ _ rfl elRec recC_len recC_one rfl (xs:=[]) (ys:=l.take k) (made_own _) rfl rfl HTI.out.symm ((HS.out.take k).keep (B_alloc (B_drew HB4.out) _)) (by simp only[maxLen];omega) (by omega) (by simp) ?_
      intro v3 w3 h1 h2 h3
      rw[List.nil_append]at h1
      have hb3:Below w.heap.size w w3:=Below.grown (B_alloc (B_drew HB4.out) _) h2 (by simp;omega) (by intro j hj;simp[blkOf]at hj;have:W4.drew.heap.size=W4.heap.size:=rfl;omega)
      obtain⟨VA,vc,hv,_,hvc⟩:=h1.sl recC_len
      rw[HTI.out]at hv
      subst hv
      refine hK.out _ _ ?_ (fun hHeld=> ?_)
      focus((try dsimp only);exact .inr trivial)
      clear hK K
      try simp only[Act.put,List.setIfInBounds_toArray,List.set_cons_zero,List.set_cons_succ]
      refine wpAnyM_ready (rs:=[9]) (by kernel_rfl) (by simp) (AllReadyM.cons (List.getElem?_toArray.trans rfl) false (by kernel_rfl) (fun K hK=> ?_) AllReadyM.nil)
      refine step_append_S (v:= .slice VA k vc) (n:=k) (m:=l.length-(k+1)) rfl _ _ rfl elRec recC_len recC_one rfl (xs:=l.take k) (ys:=l.drop (k+1)) h1 HTI.out rfl (HLT9.out) (HSP.out.keep hb3) (by simp only[maxLen];omega) (by omega) (by have:=h2.size;simp at this⊢;omega) ?_
      intro v4 w4 g1 g2 g3
      rw[<-List.eraseIdx_eq_take_drop_succ]at g1
      have hb4:Below w.heap.size w w4:=Below.grown hb3 g2 hb3.size (fun j hj=>by have:=(h1.ge j hj).1;simp at this;omega)
      obtain⟨A5,c5,rfl,s5,hc5⟩:=g1.sl recC_len
      refine hK.out _ _ ?_ (fun hHeld=> ?_)
      focus((try dsimp only);exact .inr trivial)
      clear hK K
      try simp only[Act.put,List.setIfInBounds_toArray,List.set_cons_zero,List.set_cons_succ]
      refine wpAnyM_ready (rs:=[10]) (by kernel_rfl) (by simp) (AllReadyM.cons (List.getElem?_toArray.trans rfl) true (by kernel_rfl) (fun K hK=> ?_) AllReadyM.nil)
      go_simp
      refine(HCE.out w4 A5 c5 hc5 s5).mono ?_
      rintro e w5 ⟨rfl,z5,rfl⟩
      refine hK.out _ _ ?_ (fun hHeld=> ?_)
      focus((try dsimp only);exact .inl rfl)
      clear hK K
      try simp only[Act.put,List.setIfInBounds_toArray,List.set_cons_zero,List.set_cons_succ]
      have hb5:Below w.heap.size w (w4.ext z5):=B_ext hb4 _
      generalize w4.ext z5=W5 at*
      refine wpAnyM_free (i:=11) (v:= ?_) true (by kernel_rfl) (List.getElem?_toArray.trans rfl) (by decide) (by kernel_rfl) (by kernel_rfl) (by kernel_rfl) (fun _ _ _ h=>h) (Or.inl ⟨by rfl,?_⟩) (by first|assumption|trivial) ?_
      rotate_left 1
      focus(intro w hSw;go_simp;first|done|with_reducible rfl)
      try simp only[Act.put,List.setIfInBounds_toArray,List.set_cons_zero,List.set_cons_succ]
      refine wpAnyM_free (i:=12) (v:= ?_) true (by kernel_rfl) (List.getElem?_toArray.trans rfl) (by decide) (by kernel_rfl) (by kernel_rfl) (by kernel_rfl) (fun _ _ _ h=>h) (Or.inl ⟨by rfl,?_⟩) (by first|assumption|trivial) ?_
      rotate_left 1
      focus(intro w hSw;go_simp;first|done|with_reducible rfl)
      try simp only[Act.put,List.setIfInBounds_toArray,List.set_cons_zero,List.set_cons_succ]
      refine wpAnyM_free (i:=13) (v:= ?_) true (by kernel_rfl) (List.getElem?_toArray.trans rfl) (by decide) (by kernel_rfl) (by kernel_rfl) (by kernel_rfl) (fun _ _ _ h=>h) (Or.inl ⟨by rfl,?_⟩) (by first|assumption|trivial) ?_
      rotate_left 1
      focus(intro w hSw;go_simp;first|done|with_reducible rfl)
      try simp only[Act.put,List.setIfInBounds_toArray,List.set_cons_zero,List.set_cons_succ]
      refine wpAnyM_ready (rs:=[14]) (by kernel_rfl) (by simp) (AllReadyM.cons (List.getElem?_toArray.trans rfl) true (by kernel_rfl) (fun K hK=> ?_) AllReadyM.nil)
      go_simp
      refine hK.out _ _ ?_ (fun hHeld=> ?_)
      focus((try dsimp only);exact .inl rfl)
      clear hK K
      try simp only[Act.put,List.setIfInBounds_toArray,List.set_cons_zero,List.set_cons_succ]
      refine wpAnyM_ready (rs:=[15]) (by kernel_rfl) (by simp) (AllReadyM.cons (List.getElem?_toArray.trans rfl) true (by kernel_rfl) (fun K hK=> ?_) AllReadyM.nil)
      go_simp
      refine hK.out _ _ ?_ (fun hHeld=> ?_)
      focus((try dsimp only);exact .inl rfl)
      clear hK K
      try simp only[Act.put,List.setIfInBounds_toArray,List.set_cons_zero,List.set_cons_succ]
      refine wpAnyM_done (by kernel_rfl) ?_ _
      clear hHeld
      have HB5:=Lib.hid hb5
      clear hb5
      cases b
      ·cases b2
       ·go_wp2_with fail
        go_ret
        exact Ret.of rfl HB5.out
       ·exact absurd (HMO.out rfl) (by decide)
      ·go_wp2_with fail
       go_ret
       exact Ret.of rfl HB5.out
  ·have hzb:(E==0)=false:=by simpa using hz
   have hbf:b=false:=by
    rw[<-HBB.out]
    unfold contraR
    rw[if_pos (by rw[HE.out];simpa using hz)]
   subst hbf
   clear hz
   go_wp2_with fail
   go_ret
   exact Ret.of rfl HB3.out
end Go.Proofs.YtkhkhnellekofaaGreatDoor
