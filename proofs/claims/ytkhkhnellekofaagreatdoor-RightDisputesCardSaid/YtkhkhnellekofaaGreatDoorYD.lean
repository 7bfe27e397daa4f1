/- The law RightDisputes, walked. -/
import Derived.Test.YtkhkhnellekofaaGreatDoorOV
import Derived.Test.YtkhkhnellekofaaGreatDoorOX
import Derived.Test.YtkhkhnellekofaaGreatDoorYC
import Derived.Test.YtkhkhnellekofaaGreatDoorRP
set_option linter.unusedSimpArgs false
set_option linter.unusedVariables false
namespace Go.Proofs.YtkhkhnellekofaaGreatDoor
open Go.RowKit Go.Shelf
attribute [local go_sem] World.cell?_alloc_mark ext_size ext_cell ext_frozen lt_add_r lt_add_r2 lt_add_r3 lt_add_r4 lt_add_r5 lt_add_r6 lt_add_r7 lt_add_r8
attribute [local go_sem] ext_setCell alloc_setCell_lt
set_option maxRecDepth 100000 in
set_option maxHeartbeats 2000000 in
theorem rightDisputes_any (l:List Rec) (A:Option Addr) (c:Nat) (w:World) (hL:Laid5 w) (hc:l.length<=c) (hS:Sl w 8 Rec.cells A l):
 Calls Tryz.prog 7 #[.slice A l.length c] w (Ret w (.bool true)):=by
 have HL:=Lib.hid hL
 have HS:=Lib.hid hS
 have HSH:=Lib.hid (fun W (hW:Below w.heap.size w W)=>short_any l 14 A c W (by decide) hc (hS.keep hW))
 have HTZ:=Lib.hid (fun W (hW:Below w.heap.size w W)=>(hL.keep hW).tz)
 clear hL hS
 go_enter Tryz.func7,Tryz.ntmps7
 cases hsh:shortP l 14
 ·rw[hsh]at HSH
  clear hsh
  go_wp2_with (first
   |(go_at_call 15;go_must(refine(awake5_any _ HL.out).mono ?_);rintro e wq ⟨rfl,z0,rfl⟩)
   |(go_at_call 16;go_must(refine(HSH.out _ Bw).mono ?_);rintro e wq ⟨rfl,rfl⟩))
  go_ret
  exact Ret.of rfl Bw
 ·have hsl:=short_lens hsh
  rw[hsh]at HSH
  clear hsh
  obtain⟨hlen,h45,h14⟩:=hsl
  have HLN:=Lib.hid hlen
  clear hlen
  go_upto_region 5 with(first
   |(go_at_call 15;go_must(refine(awake5_any _ HL.out).mono ?_);rintro e wq ⟨rfl,z0,rfl⟩)
   |(go_at_call 16;go_must(refine(HSH.out _ Bw).mono ?_);rintro e wq ⟨rfl,rfl⟩))
  have hB0:Below w.heap.size w (w.ext z0):=below_ext w z0
  generalize w.ext z0=W0 at*
  have HB0:=Lib.hid hB0
  have hs0:=hB0.size
  clear hB0 HSH
  have HDI:=Lib.hid (fun(W:World) (A2:Option Addr) (c2:Nat) (h:l.length<=c2) (s:Sl W 8 Rec.cells A2 l)=>dispute_any l A2 c2 W h HLN.out s)
  have HRC:=Lib.hid (fun W (hW:Below w.heap.size w W)=>rCheckRecs_any l A c W hc HLN.out (HS.out.keep hW))
  obtain⟨E1,hE1⟩: ∃E1,dispErr l=E1:=⟨_,rfl⟩
  rw[hE1]at HDI
  obtain⟨D,hD⟩: ∃D,(if E1=0 then dispP l else[])=D:=⟨_,rfl⟩
  rw[hD]at HDI
  go_upto_region 7 with(first
   |(at_builtin
     go_loud(refine wpList_append_S (v:= .slice (some ⟨W0.heap.size,0,none⟩) 0 0) (n:=0) (m:=l.length) rfl _ _ rfl elRec recC_len recC_one rfl (xs:=[]) (ys:=l) (made_own2 W0) rfl rfl rfl (HS.out.keep (HB0.out.trans (Below.mono (B:=W0.heap.size) Bw hs0))) (by simp only[maxLen];omega) (by omega) (by simp) ?_)
     intro v2 w2 h1 h2 h3
     rw[List.nil_append]at h1
     have hb2:Below w.heap.size w w2:=Below.grown (HB0.out.trans (Below.mono (B:=W0.heap.size) Bw hs0)) h2 (by simp;omega) (by intro j hj;simp[blkOf]at hj;omega)
     obtain⟨A2,c2,rfl,s2,hc2⟩:=h1.sl recC_len
     clear h1 h2 h3)
   |(go_at_call 13;go_must(refine(HDI.out _ _ _ hc2 s2).mono ?_);rintro e w3 ⟨v3,rfl,o3,b3⟩;obtain⟨A3,c3,rfl,s3,hc3⟩:=o3.sl intC_len;have hb3:=hb2.trans (b3.mono hb2.size))
   |(go_at_call 9;go_must(refine(HRC.out _ hb3).mono ?_);rintro e w4 ⟨rfl,z4,rfl⟩))
  have hB4:Below w.heap.size w (w3.ext z4):=B_ext hb3 _
  have s4:Sl (w3.ext z4) 1 intC A3 D:=s3.keep (n:=w3.heap.size) (below_ext w3 z4)
  clear hb2 hb3 b3 s2 s3 hc2 o3 hs0 HB0 HDI
  generalize w3.ext z4=W4 at*
  have HB4:=Lib.hid hB4
  have hs4:=hB4.size
  have HS4:=Lib.hid s4
  have HLE:=Lib.hid (fun(W:World) (A2:Option Addr) (c2:Nat) (h:l.length<=c2) (hT:TzTab W) (s:Sl W 8 Rec.cells A2 l)=>least_any l A2 c2 W h HLN.out hT s)
  clear hB4 s4
  by_cases h0:checkRecsP l=0
  ·have hok:=recs_ok h0
   have HOK:=Lib.hid hok.2
   have h13:l.length<=14:=by have:=hok.1;omega
   have HRK:=Lib.hid (fun W (hW:Below w.heap.size w W)=>rContradicts_any l A c W hc (by omega) HOK.out (HS.out.keep hW))
   have hnn:=nonneg5 HOK.out
   rw[h0]at HRC
   rw[h0]
   cases hcp:contraP l
   ·have hE:E1=12:=by rw[<-hE1];unfold dispErr;rw[if_neg (by simp[h0]),hcp];rfl
    have hD0:D=[]:=by rw[<-hD,hE,if_neg (by decide)]
    rw[hcp]at HRK
    subst hD0 hE
    have hno:=none_of hnn hcp
    clear hE1 hD hok hnn hcp
    by_cases h12:12<l.length
    ·rw[least_large h0 h12]at HLE
     clear h0 hno
     have h9a:(9:Int)<(l.length:Int):=by omega
     have h9b: ¬(l.length:Int)<=12:=by omega
     have h9c:(12:Int)<(l.length:Int):=by omega
     go_upto_region 13 with(go_at_call 11;go_must(refine(HRK.out _ HB4.out).mono ?_);rintro e w4 ⟨rfl,z5,rfl⟩)
     have hB6:Below w.heap.size w (W4.ext z5):=B_ext HB4.out z5
     clear HB4 HS4 hs4
     generalize W4.ext z5=W6 at*
     have HB6:=Lib.hid hB6
     have hs6:=hB6.size
     clear hB6
     go_upto_region 15 with(first
                             |(at_builtin
                               go_loud(refine wpList_append_S (v:= .slice (some ⟨W6.heap.size,0,none⟩) 0 0) (n:=0) (m:=l.length) rfl _ _ rfl elRec recC_len recC_one rfl (xs:=[]) (ys:=l) (made_own2 W6) rfl rfl rfl (HS.out.keep (HB6.out.trans (Below.mono (B:=W6.heap.size) Bw hs6))) (by simp only[maxLen];omega) (by omega) (by simp) ?_)
                               intro v2 w2 h1 h2 h3
                               rw[List.nil_append]at h1
                               have hb2:Below w.heap.size w w2:=Below.grown (HB6.out.trans (Below.mono (B:=W6.heap.size) Bw hs6)) h2 (by simp;omega) (by intro j hj;simp[blkOf]at hj;omega)
                               obtain⟨A2,c2,rfl,s2,hc2⟩:=h1.sl recC_len
                               clear h1 h2 h3)
                             |(go_at_call 10;go_must(refine(HLE.out _ _ _ hc2 (HTZ.out _ hb2) s2).mono ?_);rintro e w5 ⟨A5,c5,rfl,hc5,s5,b5⟩;have hb5:=hb2.trans (b5.mono hb2.size))
                             |(go_at_call 9;go_must(refine(HRC.out _ hb5).mono ?_);rintro e w6 ⟨rfl,z6,rfl⟩)
                             |(go_at_call 11;go_must(refine(HRK.out _ (B_ext hb5 z6)).mono ?_);rintro e w7 ⟨rfl,z7,rfl⟩))
     have hB7:Below w.heap.size w (w5.ext z6):=B_ext hb5 z6
     clear hb2 b5 hb5 s5 s2 hc2 HB6 hs6
     generalize w5.ext z6=W7 at*
     have HB7:=Lib.hid hB7
     clear hB7
     go_wp2_with (go_at_call 11;go_must(refine(HRK.out _ HB7.out).mono ?_);rintro e w7 ⟨rfl,z7,rfl⟩)
     go_ret
     first
      |exact Ret.of (bool_eq (by first|rfl|simp)) HB7.out
      |exact Ret.of (bool_eq (by first|rfl|simp)) (B_ext HB7.out _)
    ·rw[leastR_none h0 (by omega) hno]at HLE
     clear h0 hno
     have h9c: ¬(12:Int)<(l.length:Int):=by omega
     go_upto_region 11 with(go_at_call 11;go_must(refine(HRK.out _ HB4.out).mono ?_);rintro e w4 ⟨rfl,z5,rfl⟩)
     have hB6:Below w.heap.size w (W4.ext z5):=B_ext HB4.out z5
     clear HB4 HS4 hs4
     generalize W4.ext z5=W6 at*
     have HB6:=Lib.hid hB6
     have hs6:=hB6.size
     clear hB6
     by_cases h9:9<l.length
     ·have h9a:(9:Int)<(l.length:Int):=by omega
      have h9b:(l.length:Int)<=12:=by omega
      go_wp2_with fail
      go_ret
      exact Ret.of rfl HB6.out
     ·have h9a: ¬(9:Int)<(l.length:Int):=by omega
      go_upto_region 15 with(first
                              |(at_builtin
                                go_loud(refine wpList_append_S (v:= .slice (some ⟨W6.heap.size,0,none⟩) 0 0) (n:=0) (m:=l.length) rfl _ _ rfl elRec recC_len recC_one rfl (xs:=[]) (ys:=l) (made_own2 W6) rfl rfl rfl (HS.out.keep (HB6.out.trans (Below.mono (B:=W6.heap.size) Bw hs6))) (by simp only[maxLen];omega) (by omega) (by simp) ?_)
                                intro v2 w2 h1 h2 h3
                                rw[List.nil_append]at h1
                                have hb2:Below w.heap.size w w2:=Below.grown (HB6.out.trans (Below.mono (B:=W6.heap.size) Bw hs6)) h2 (by simp;omega) (by intro j hj;simp[blkOf]at hj;omega)
                                obtain⟨A2,c2,rfl,s2,hc2⟩:=h1.sl recC_len
                                clear h1 h2 h3)
                              |(go_at_call 10;go_must(refine(HLE.out _ _ _ hc2 (HTZ.out _ hb2) s2).mono ?_);rintro e w5 ⟨A5,c5,rfl,hc5,s5,b5⟩;have hb5:=hb2.trans (b5.mono hb2.size))
                              |(go_at_call 9;go_must(refine(HRC.out _ hb5).mono ?_);rintro e w6 ⟨rfl,z6,rfl⟩)
                              |(go_at_call 11;go_must(refine(HRK.out _ (B_ext hb5 z6)).mono ?_);rintro e w7 ⟨rfl,z7,rfl⟩))
      have hB7:Below w.heap.size w (w5.ext z6):=B_ext hb5 z6
      clear hb2 b5 hb5 s5 s2 hc2 HB6 hs6
      generalize w5.ext z6=W7 at*
      have HB7:=Lib.hid hB7
      clear hB7
      go_wp2_with (go_at_call 11;go_must(refine(HRK.out _ HB7.out).mono ?_);rintro e w7 ⟨rfl,z7,rfl⟩)
      go_ret
      first
       |exact Ret.of (bool_eq (by first|rfl|simp)) HB7.out
       |exact Ret.of (bool_eq (by first|rfl|simp)) (B_ext HB7.out _)
   ·have hE:E1=0:=by rw[<-hE1];unfold dispErr;rw[if_neg (by simp[h0]),hcp];rfl
    have hDD:D=dispP l:=by rw[<-hD,hE,if_pos rfl]
    rw[hcp]at HRK
    have hds:=disp_set hnn hcp
    have hcd:=cd_min h0 hds.2 hds.1
    have hgot:=least_got hcp
    have hle:(leastGo l l.length 1).length<=(dispP l).length:=by
     rcases hgot.least _ hds.2 hds.1.1 with k|⟨k,_⟩<;>omega
    have hcl:=cd_min h0 hgot.set (least_min hgot)
    have hdl:(dispP l).length<=l.length:=by
     have:=set_len (k:=0) hds.2.1 (fun i hi=>⟨Nat.zero_le _,hds.2.2 i hi⟩)
     omega
    have HRD:=Lib.hid (fun W (hW:Below w.heap.size w W)=>rDispute_any l A c W hc (by omega) HOK.out (HS.out.keep hW))
    rw[<-hDD]at hds hcd hle hdl HRD
    clear hE1 hD hok hnn hcp hDD hds
    subst hE
    have HDL:=Lib.hid hdl
    have HSI:=Lib.hid (fun(W:World) Q qc (hq:D.length<=qc) (s:Sl W 1 intC Q D) (p:Sl W 1 intC A3 D)=>sameInts_any D A3 Q c3 qc W p s (by have:=HDL.out;omega) hc3 hq)
    have HCD:Hid (∀W,Below w.heap.size w W->Sl W 1 intC A3 D->Calls Tryz.prog 25 #[.slice A l.length c, .slice A3 D.length c3] W (Ret W (.int .i64 0))):=by
     refine Lib.hid fun W hW p=> ?_
     have:=checkDispute_any l (D.map (fun(k:Nat)=>(k:Int))) A c A3 c3 W hc HLN.out (by rw[List.length_map];have:=HDL.out;omega) (by rw[List.length_map];exact hc3) (HS.out.keep hW) (sl_ints p)
     rw[List.length_map,hcd]at this
     exact this
    clear hcd hdl
    go_upto_region 9 with(go_at_call 11;go_must(refine(HRK.out _ HB4.out).mono ?_);rintro e w4 ⟨rfl,z5,rfl⟩)
    have hB5:Below w.heap.size w (W4.ext z5):=B_ext HB4.out z5
    have s5:Sl (W4.ext z5) 1 intC A3 D:=HS4.out.keep (n:=W4.heap.size) (below_ext W4 z5)
    clear HB4 HS4 hs4
    generalize W4.ext z5=W5 at*
    have HB5:=Lib.hid hB5
    have HS5:=Lib.hid s5
    have hs5:=hB5.size
    clear hB5 s5
    go_upto_region 11 with(first
     |(go_at_call 28;go_must(refine(HRD.out _ (by have:=HB5.out;repeat(first|exact B_refl|exact Below.refl _ _|assumption|with_reducible refine B_alloc ?_ _|with_reducible refine B_ext ?_ _|with_reducible refine B_drew ?_|with_reducible refine B_drewN ?_ _|with_reducible refine B_set ?_ (by simp;omega) _))).mono ?_);rintro e w6 ⟨v6,rfl,o6,b6⟩;obtain⟨A6,c6,rfl,s6,hc6⟩:=o6.sl intC_len;clear o6)
     |(go_at_call 27;go_must(refine(HSI.out _ A6 c6 hc6 s6 (HS5.out.keep (n:=W5.heap.size) b6)).mono ?_);rintro e w7 ⟨rfl,z7,rfl⟩)
     |(go_at_call 25;go_must(refine(HCD.out _ (HB5.out.trans ((B_ext b6 z7).mono hs5)) (HS5.out.keep (n:=W5.heap.size) (B_ext b6 z7))).mono ?_);rintro e w8 ⟨rfl,z8,rfl⟩))
    have hB6:Below w.heap.size w ((w6.ext z7).ext z8):=HB5.out.trans ((B_ext (B_ext b6 z7) z8).mono hs5)
    clear HB5 HS5 hs5 b6 s6 hc6 HCD HSI HRD
    generalize(w6.ext z7).ext z8=W6 at*
    have HB6:=Lib.hid hB6
    have hs6:=hB6.size
    clear hB6
    by_cases h12:12<l.length
    ·rw[least_large h0 h12]at HLE
     clear h0 hgot hcl hle
     have h9a:(9:Int)<(l.length:Int):=by omega
     have h9b: ¬(l.length:Int)<=12:=by omega
     have h9c:(12:Int)<(l.length:Int):=by omega
     go_upto_region 15 with(first
                             |(at_builtin
                               go_loud(refine wpList_append_S (v:= .slice (some ⟨W6.heap.size,0,none⟩) 0 0) (n:=0) (m:=l.length) rfl _ _ rfl elRec recC_len recC_one rfl (xs:=[]) (ys:=l) (made_own2 W6) rfl rfl rfl (HS.out.keep (HB6.out.trans (Below.mono (B:=W6.heap.size) Bw hs6))) (by simp only[maxLen];omega) (by omega) (by simp) ?_)
                               intro v2 w2 h1 h2 h3
                               rw[List.nil_append]at h1
                               have hb2:Below w.heap.size w w2:=Below.grown (HB6.out.trans (Below.mono (B:=W6.heap.size) Bw hs6)) h2 (by simp;omega) (by intro j hj;simp[blkOf]at hj;omega)
                               obtain⟨A2,c2,rfl,s2,hc2⟩:=h1.sl recC_len
                               clear h1 h2 h3)
                             |(go_at_call 10;go_must(refine(HLE.out _ _ _ hc2 (HTZ.out _ hb2) s2).mono ?_);rintro e w5 ⟨A5,c5,rfl,hc5,s5,b5⟩;have hb5:=hb2.trans (b5.mono hb2.size))
                             |(go_at_call 9;go_must(refine(HRC.out _ hb5).mono ?_);rintro e w6 ⟨rfl,z6,rfl⟩)
                             |(go_at_call 11;go_must(refine(HRK.out _ (B_ext hb5 z6)).mono ?_);rintro e w7 ⟨rfl,z7,rfl⟩))
     have hB7:Below w.heap.size w (w5.ext z6):=B_ext hb5 z6
     clear hb2 b5 hb5 s5 s2 hc2 HB6 hs6
     generalize w5.ext z6=W7 at*
     have HB7:=Lib.hid hB7
     clear hB7
     go_wp2_with (go_at_call 11;go_must(refine(HRK.out _ HB7.out).mono ?_);rintro e w7 ⟨rfl,z7,rfl⟩)
     go_ret
     first
      |exact Ret.of (bool_eq (by first|rfl|simp)) HB7.out
      |exact Ret.of (bool_eq (by first|rfl|simp)) (B_ext HB7.out _)
    ·by_cases h9:9<l.length
     ·clear h0 hgot hcl hle
      have h9a:(9:Int)<(l.length:Int):=by omega
      have h9b:(l.length:Int)<=12:=by omega
      go_wp2_with fail
      go_ret
      exact Ret.of rfl HB6.out
     ·have h9a: ¬(9:Int)<(l.length:Int):=by omega
      have h9c: ¬(12:Int)<(l.length:Int):=by omega
      have HRL:=Lib.hid (fun W (hW:Below w.heap.size w W)=>rLeast_any l A c W hc (by omega) HOK.out (HS.out.keep hW))
      rw[leastR_is h0 (by omega) hgot]at HLE
      have hsl:(leastGo l l.length 1).length<=1000:=by have:=HDL.out;omega
      clear h0 hgot
      generalize leastGo l l.length 1=S at*
      have hle2:(S.length:Int)<=(D.length:Int):=by omega
      have HSN:=Lib.hid hsl
      clear hle hsl
      go_upto_region 21 with(first
                              |(at_builtin
                                go_loud(refine wpList_append_S (v:= .slice (some ⟨W6.heap.size,0,none⟩) 0 0) (n:=0) (m:=l.length) rfl _ _ rfl elRec recC_len recC_one rfl (xs:=[]) (ys:=l) (made_own2 W6) rfl rfl rfl (HS.out.keep (HB6.out.trans (Below.mono (B:=W6.heap.size) Bw hs6))) (by simp only[maxLen];omega) (by omega) (by simp) ?_)
                                intro v2 w2 h1 h2 h3
                                rw[List.nil_append]at h1
                                have hb2:Below w.heap.size w w2:=Below.grown (HB6.out.trans (Below.mono (B:=W6.heap.size) Bw hs6)) h2 (by simp;omega) (by intro j hj;simp[blkOf]at hj;omega)
                                obtain⟨A2,c2,rfl,s2,hc2⟩:=h1.sl recC_len
                                clear h1 h2 h3)
                              |(go_at_call 10;go_must(refine(HLE.out _ _ _ hc2 (HTZ.out _ hb2) s2).mono ?_);rintro e w5 ⟨A5,c5,rfl,hc5,s5,b5⟩;have hb5:=hb2.trans (b5.mono hb2.size))
                              |(go_at_call 9;go_must(refine(HRC.out _ hb5).mono ?_);rintro e w6 ⟨rfl,z6,rfl⟩)
                              |(go_at_call 11;go_must(refine(HRK.out _ (B_ext hb5 z6)).mono ?_);rintro e w7 ⟨rfl,z7,rfl⟩))
      have hB7:Below w.heap.size w ((w5.ext z6).ext z7):=B_ext (B_ext hb5 z6) z7
      have s7:Sl ((w5.ext z6).ext z7) 1 intC A5 S:=s5.keep (n:=w5.heap.size) (B_ext (below_ext w5 z6) z7)
      have HC5:=Lib.hid hc5
      clear hb2 b5 hb5 s5 s2 hc2 HB6 hs6 hc5
      generalize(w5.ext z6).ext z7=W7 at*
      have HB7:=Lib.hid hB7
      have hs7:=hB7.size
      have HS7:=Lib.hid s7
      clear hB7 s7
      have HSI:=Lib.hid (fun(W:World) Q qc (hq:S.length<=qc) (s:Sl W 1 intC Q S) (p:Sl W 1 intC A5 S)=>sameInts_any S A5 Q c5 qc W p s (by have:=HSN.out;omega) HC5.out hq)
      have HCD:Hid (∀W,Below w.heap.size w W->Sl W 1 intC A5 S->Calls Tryz.prog 25 #[.slice A l.length c, .slice A5 S.length c5] W (Ret W (.int .i64 0))):=by
       refine Lib.hid fun W hW p=> ?_
       have:=checkDispute_any l (S.map (fun(k:Nat)=>(k:Int))) A c A5 c5 W hc HLN.out (by rw[List.length_map];exact HSN.out) (by rw[List.length_map];exact HC5.out) (HS.out.keep hW) (sl_ints p)
       rw[List.length_map,hcl]at this
       exact this
      clear hcl
      go_wp2_with (first
       |(go_at_call 29;go_must(refine(HRL.out _ (by have:=HB7.out;repeat(first|exact B_refl|exact Below.refl _ _|assumption|with_reducible refine B_alloc ?_ _|with_reducible refine B_ext ?_ _|with_reducible refine B_drew ?_|with_reducible refine B_drewN ?_ _|with_reducible refine B_set ?_ (by simp;omega) _))).mono ?_);rintro e w8 ⟨A8,c8,rfl,hc8,s8,b8⟩)
       |(go_at_call 27;go_must(refine(HSI.out _ A8 c8 hc8 s8 (HS7.out.keep (n:=W7.heap.size) b8)).mono ?_);rintro e w9 ⟨rfl,z9,rfl⟩)
       |(go_at_call 25;go_must(refine(HCD.out _ (HB7.out.trans ((B_ext b8 z9).mono hs7)) (HS7.out.keep (n:=W7.heap.size) (B_ext b8 z9))).mono ?_);rintro e w10 ⟨rfl,z10,rfl⟩))
      go_ret
      exact Ret.of (bool_eq (by first|rfl|(simp;omega))) (HB7.out.trans ((B_ext (B_ext b8 z9) z10).mono hs7))
  ·have hE:E1=checkRecsP l:=by rw[<-hE1];unfold dispErr;rw[if_pos (by simpa using h0)]
   have hD0:D=[]:=by rw[<-hD,hE,if_neg h0]
   have h0b:(checkRecsP l==0)=false:=by simpa using h0
   rw[least_err h0]at HLE
   subst hD0 hE
   generalize checkRecsP l=E at*
   clear hE1 hD
   go_upto_region 11 with fail
   by_cases h9:9<l.length/\l.length<=12
   ·have h9a:(9:Int)<(l.length:Int):=by omega
    have h9b:(l.length:Int)<=12:=by omega
    go_wp2_with fail
    go_ret
    exact Ret.of rfl HB4.out
   ·have h9a: ¬(9:Int)<(l.length:Int)\/((9:Int)<(l.length:Int)/\ ¬(l.length:Int)<=12):=by omega
    clear h9
    rcases h9a with h9a|⟨h9a,h9b⟩
    ·go_wp2_with (first
      |(at_builtin
        go_loud(refine wpList_append_S (v:= .slice (some ⟨W4.heap.size,0,none⟩) 0 0) (n:=0) (m:=l.length) rfl _ _ rfl elRec recC_len recC_one rfl (xs:=[]) (ys:=l) (made_own2 W4) rfl rfl rfl (HS.out.keep (HB4.out.trans (Below.mono (B:=W4.heap.size) Bw hs4))) (by simp only[maxLen];omega) (by omega) (by simp) ?_)
        intro v2 w2 h1 h2 h3
        rw[List.nil_append]at h1
        have hb2:Below w.heap.size w w2:=Below.grown (HB4.out.trans (Below.mono (B:=W4.heap.size) Bw hs4)) h2 (by simp;omega) (by intro j hj;simp[blkOf]at hj;omega)
        obtain⟨A2,c2,rfl,s2,hc2⟩:=h1.sl recC_len
        clear h1 h2 h3)
      |(go_at_call 10;go_must(refine(HLE.out _ _ _ hc2 (HTZ.out _ hb2) s2).mono ?_);rintro e w5 ⟨A5,c5,rfl,hc5,s5,b5⟩;have hb5:=hb2.trans (b5.mono hb2.size))
      |(go_at_call 9;go_must(refine(HRC.out _ hb5).mono ?_);rintro e w6 ⟨rfl,z6,rfl⟩))
     go_ret
     exact Ret.of (by first|rfl|simp) (B_ext hb5 _)
    ·go_wp2_with (first
      |(at_builtin
        go_loud(refine wpList_append_S (v:= .slice (some ⟨W4.heap.size,0,none⟩) 0 0) (n:=0) (m:=l.length) rfl _ _ rfl elRec recC_len recC_one rfl (xs:=[]) (ys:=l) (made_own2 W4) rfl rfl rfl (HS.out.keep (HB4.out.trans (Below.mono (B:=W4.heap.size) Bw hs4))) (by simp only[maxLen];omega) (by omega) (by simp) ?_)
        intro v2 w2 h1 h2 h3
        rw[List.nil_append]at h1
        have hb2:Below w.heap.size w w2:=Below.grown (HB4.out.trans (Below.mono (B:=W4.heap.size) Bw hs4)) h2 (by simp;omega) (by intro j hj;simp[blkOf]at hj;omega)
        obtain⟨A2,c2,rfl,s2,hc2⟩:=h1.sl recC_len
        clear h1 h2 h3)
      |(go_at_call 10;go_must(refine(HLE.out _ _ _ hc2 (HTZ.out _ hb2) s2).mono ?_);rintro e w5 ⟨A5,c5,rfl,hc5,s5,b5⟩;have hb5:=hb2.trans (b5.mono hb2.size))
      |(go_at_call 9;go_must(refine(HRC.out _ hb5).mono ?_);rintro e w6 ⟨rfl,z6,rfl⟩))
     go_ret
     exact Ret.of (by first|rfl|simp) (B_ext hb5 _)
end Go.Proofs.YtkhkhnellekofaaGreatDoor
