/- The law RightProofs, walked. -/
import Derived.Test.YtkhkhnellekofaaGreatDoorUQ
import Derived.Test.YtkhkhnellekofaaGreatDoorRP
import Derived.Test.YtkhkhnellekofaaGreatDoorDM
set_option linter.unusedSimpArgs false
set_option linter.unusedVariables false
namespace Go.Proofs.YtkhkhnellekofaaGreatDoor
open Go.RowKit Go.Shelf
attribute [local go_sem] World.cell?_alloc_mark ext_size ext_cell ext_frozen lt_add_r lt_add_r2 lt_add_r3 lt_add_r4 lt_add_r5 lt_add_r6 lt_add_r7 lt_add_r8
attribute [local go_sem] ext_setCell alloc_setCell_lt
theorem made_own2 (W:World):OwnS (W.alloc (.cells #[] 65)) W.heap.size 65 8 Rec.cells (.slice (some ⟨W.heap.size,0,none⟩) 0 0) []:=
 OwnS.of_own recC_len (World.ownsRow_made W #[] 0 (Nat.le_refl _) (Nat.zero_le _) (by simp))
theorem rMinZ_any (l:List Rec) (s:List Int) (A:Option Addr) (c:Nat) (SA:Option Addr) (sc:Nat) (w:World) (hc:l.length<=c) (hl:s.length<=1000) (hsc:s.length<=sc) (hm:missP l.length s=false) (hok: ∀x∈l,checkRecP x=0) (hS:Sl w 8 Rec.cells A l) (hT:Sl w 1 zC SA s):
 Calls Tryz.prog 14 #[.slice A l.length c, .slice SA s.length sc] w (Ret w (.bool (minB l (s.map Int.toNat)))):=by
 obtain⟨ns,rfl,hin⟩:=nats_of hm
 rw[List.length_map]at hl hsc⊢
 rw[nats_to]
 exact(rMinimal_any l ns A c SA sc w hc hl hsc hin hok hS (sl_nats hT)).mono (by rintro e w' ⟨rfl,h⟩;exact Ret.of rfl h)
theorem setErr_miss {n:Nat} {s:List Int} (h:setErrP n s=0):missP n s=false:=by
 cases hm:missP n s
 ·rfl
 ·unfold setErrP at h
  rw[hm]at h
  simp at h
set_option maxRecDepth 100000 in
set_option maxHeartbeats 2000000 in
theorem rightProofs_any (l:List Rec) (s:List Int) (A:Option Addr) (c:Nat) (SA:Option Addr) (sc:Nat) (w:World) (hL:Laid5 w) (hc:l.length<=c) (hsc:s.length<=sc) (hS:Sl w 8 Rec.cells A l) (hT:Sl w 1 zC SA s):
 Calls Tryz.prog 6 #[.slice A l.length c, .slice SA s.length sc] w (Ret w (.bool true)):=by
 have HL:=Lib.hid hL
 have HS:=Lib.hid hS
 have HT:=Lib.hid hT
 have HSH:=Lib.hid (fun W (hW:Below w.heap.size w W)=>short_any l 14 A c W (by decide) hc (hS.keep hW))
 clear hL hS hT
 go_enter Tryz.func6,Tryz.ntmps6
 cases hsh:shortP l 14
 ·rw[hsh]at HSH
  clear hsh
  go_wp2_with (first
   |(go_at_call 15;go_must(refine(awake5_any _ HL.out).mono ?_);rintro e wq ⟨rfl,z0,rfl⟩)
   |(go_at_call 16;go_must(refine(HSH.out _ Bw).mono ?_);rintro e wq ⟨rfl,rfl⟩))
  go_ret
  exact Ret.of rfl Bw
 ·have hsl:=short_lens hsh
  rw[hsh]at HSH
  clear hsh
  obtain⟨hlen,h45,h14⟩:=hsl
  have HLN:=Lib.hid hlen
  clear hlen
  by_cases h20:20<s.length
  ·have h20b:(20:Int)<(s.length:Int):=by omega
   go_wp2_with (first
    |(go_at_call 15;go_must(refine(awake5_any _ HL.out).mono ?_);rintro e wq ⟨rfl,z0,rfl⟩)
    |(go_at_call 16;go_must(refine(HSH.out _ Bw).mono ?_);rintro e wq ⟨rfl,rfl⟩))
   go_ret
   exact Ret.of rfl Bw
  ·have h20b: ¬(20:Int)<(s.length:Int):=by omega
   go_upto_region 5 with(first
    |(go_at_call 15;go_must(refine(awake5_any _ HL.out).mono ?_);rintro e wq ⟨rfl,z0,rfl⟩)
    |(go_at_call 16;go_must(refine(HSH.out _ Bw).mono ?_);rintro e wq ⟨rfl,rfl⟩))
   have hB0:Below w.heap.size w (w.ext z0):=below_ext w z0
   generalize w.ext z0=W0 at*
   have HB0:=Lib.hid hB0
   have hs0:=hB0.size
   clear hB0 HSH h20b
   have HCI:=Lib.hid (fun W (hW:Below w.heap.size w W)=>copyZ_any s SA sc W (by omega) (HT.out.keep hW))
   have HCD:=Lib.hid (fun(W:World) (A2:Option Addr) (c2:Nat) (h:l.length<=c2) (a:Sl W 8 Rec.cells A2 l) (A3:Option Addr) (c3:Nat) (h3:s.length<=c3) (b:Sl W 1 zC A3 s)=>checkDispute_any l s A2 c2 A3 c3 W h HLN.out (by omega) h3 a b)
   have HRC:=Lib.hid (fun W (hW:Below w.heap.size w W)=>rCheckRecs_any l A c W hc HLN.out (HS.out.keep hW))
   have HCS:=Lib.hid (fun W (hW:Below w.heap.size w W)=>rCheckSet_any l.length c A s SA sc W (by omega) (by omega) (HT.out.keep hW))
   go_upto_region 6 with(first
    |(at_builtin
      go_loud(refine wpList_append_S (v:= .slice (some ⟨W0.heap.size,0,none⟩) 0 0) (n:=0) (m:=l.length) rfl _ _ rfl elRec recC_len recC_one rfl (xs:=[]) (ys:=l) (made_own2 W0) rfl rfl rfl (HS.out.keep (HB0.out.trans (Below.mono (B:=W0.heap.size) Bw hs0))) (by simp only[maxLen];omega) (by omega) (by simp) ?_)
      intro v2 w2 h1 h2 h3
      rw[List.nil_append]at h1
      have hb2:Below w.heap.size w w2:=Below.grown (HB0.out.trans (Below.mono (B:=W0.heap.size) Bw hs0)) h2 (by simp;omega) (by intro j hj;simp[blkOf]at hj;omega)
      obtain⟨A2,c2,rfl,s2,hc2⟩:=h1.sl recC_len
      clear h1 h2 h3)
    |(go_at_call 26;go_must(refine(HCI.out _ hb2).mono ?_);rintro e w3 ⟨v3,rfl,o3,b3⟩;obtain⟨A3,c3,rfl,s3,hc3⟩:=o3.sl zC_len;have hb3:=hb2.trans (b3.mono hb2.size))
    |(go_at_call 25;go_must(refine(HCD.out _ _ _ hc2 (s2.keep b3) _ _ hc3 s3).mono ?_);rintro e w4 ⟨rfl,z4,rfl⟩))
   have hB4:Below w.heap.size w (w3.ext z4):=B_ext hb3 _
   clear hb2 hb3 b3 s2 s3 hc2 hc3 o3 hs0 HB0 HCI HCD
   generalize w3.ext z4=W4 at*
   have HB4:=Lib.hid hB4
   clear hB4
   obtain⟨R,hR⟩: ∃R,R=cdR l s:=⟨_,rfl⟩
   rw[<-hR]
   unfold cdR at hR
   by_cases h0:checkRecsP l=0
   ·have hok:=recs_ok h0
    have HOK:=Lib.hid hok.2
    rw[if_neg (by simp[h0])]at hR
    rw[h0]at HRC
    clear hok h0
    by_cases hse:setErrP l.length s=0
    ·have hm:=setErr_miss hse
     rw[if_neg (by simp[hse])]at hR
     rw[hse]at HCS
     have HMI:=Lib.hid (fun W (hW:Below w.heap.size w W)=>rMinZ_any l s A c SA sc W hc (by omega) hsc hm HOK.out (HS.out.keep hW) (HT.out.keep hW))
     clear hse hm
     obtain⟨b,hb⟩: ∃b,minB l (s.map Int.toNat)=b:=⟨_,rfl⟩
     rw[hb]at hR HMI
     clear hb
     cases b
     ·have HR:Hid (R=26):=hR
      clear hR
      go_wp2_with (first
       |(go_at_call 9;go_must(refine(HRC.out _ HB4.out).mono ?_);rintro e w5 ⟨rfl,z5,rfl⟩)
       |(go_at_call 12;go_must(refine(HCS.out _ (B_ext HB4.out _)).mono ?_);rintro e w6 ⟨rfl,z6,rfl⟩)
       |(go_at_call 14;go_must(refine(HMI.out _ (B_ext (B_ext HB4.out _) _)).mono ?_);rintro e w7 ⟨rfl,z7,rfl⟩))
      go_ret
      rw[HR.out]
      exact Ret.of rfl (B_ext (B_ext (B_ext HB4.out _) _) _)
     ·have HR:Hid (R=0):=hR
      clear hR
      go_wp2_with (first
       |(go_at_call 9;go_must(refine(HRC.out _ HB4.out).mono ?_);rintro e w5 ⟨rfl,z5,rfl⟩)
       |(go_at_call 12;go_must(refine(HCS.out _ (B_ext HB4.out _)).mono ?_);rintro e w6 ⟨rfl,z6,rfl⟩)
       |(go_at_call 14;go_must(refine(HMI.out _ (B_ext (B_ext HB4.out _) _)).mono ?_);rintro e w7 ⟨rfl,z7,rfl⟩))
      go_ret
      rw[HR.out]
      exact Ret.of rfl (B_ext (B_ext (B_ext HB4.out _) _) _)
    ·rw[if_pos (by simpa using hse)]at hR
     have HR:=Lib.hid hR
     have hsb:(setErrP l.length s==0)=false:=by simpa using hse
     generalize setErrP l.length s=S at*
     clear hR hse
     go_wp2_with (first
      |(go_at_call 9;go_must(refine(HRC.out _ HB4.out).mono ?_);rintro e w5 ⟨rfl,z5,rfl⟩)
      |(go_at_call 12;go_must(refine(HCS.out _ (B_ext HB4.out _)).mono ?_);rintro e w6 ⟨rfl,z6,rfl⟩))
     go_ret
     rw[HR.out]
     exact Ret.of (by simp) (B_ext (B_ext HB4.out _) _)
   ·rw[if_pos (by simpa using h0)]at hR
    have HR:=Lib.hid hR
    have h0b:(checkRecsP l==0)=false:=by simpa using h0
    generalize checkRecsP l=E at*
    clear hR h0
    go_wp2_with (go_at_call 9;go_must(refine(HRC.out _ HB4.out).mono ?_);rintro e w5 ⟨rfl,z5,rfl⟩)
    go_ret
    rw[HR.out]
    exact Ret.of (by simp) (B_ext HB4.out _)
end Go.Proofs.YtkhkhnellekofaaGreatDoor
