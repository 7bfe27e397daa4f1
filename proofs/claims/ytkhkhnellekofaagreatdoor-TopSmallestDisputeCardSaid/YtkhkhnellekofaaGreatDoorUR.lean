/- Walk of the reference's Dispute. -/
import Derived.Test.YtkhkhnellekofaaGreatDoorUP
set_option linter.unusedSimpArgs false
set_option linter.unusedVariables false
namespace Go.Proofs.YtkhkhnellekofaaGreatDoor
open Go.RowKit Go.Shelf
attribute [local go_sem] World.cell?_alloc_mark ext_size ext_cell ext_frozen lt_add_r lt_add_r2 lt_add_r3 lt_add_r4 lt_add_r5 lt_add_r6 lt_add_r7 lt_add_r8
attribute [local go_sem] ext_setCell alloc_setCell_lt
def lenV:Value->Nat
 | .slice _ n _=>n
 |_=>0
theorem disp_end {l:List Rec} {f i:Nat} {set:List Nat} (h: ¬i<set.length):dispGo l f set i=set:=by
 cases f with
 |zero=>rw[dispGo]
 |succ f=>rw[dispGo,if_neg h]
theorem disp_cut {l:List Rec} {f i:Nat} {set:List Nat} (h:i<set.length) (hf:set.length-i<=f) (hc:contraP (ofP l (set.eraseIdx i))=true): ∃g,dispGo l f set i=dispGo l g (set.eraseIdx i) i/\(set.eraseIdx i).length-i<=g:=by
 cases f with
 |zero=>omega
 |succ f=>exact⟨f,by rw[dispGo,if_pos h,if_pos hc],by rw[List.length_eraseIdx_of_lt h];omega⟩
theorem disp_on {l:List Rec} {f i:Nat} {set:List Nat} (h:i<set.length) (hf:set.length-i<=f) (hc:contraP (ofP l (set.eraseIdx i))=false): ∃g,dispGo l f set i=dispGo l g set (i+1)/\set.length-(i+1)<=g:=by
 cases f with
 |zero=>omega
 |succ f=>exact⟨f,by rw[dispGo,if_pos h,if_neg (by simp[hc])],by omega⟩
noncomputable def dispP (l:List Rec):List Nat:=dispGo l l.length (List.range l.length) 0
set_option maxRecDepth 100000 in
set_option maxHeartbeats 2000000 in
theorem rDispute_any (l:List Rec) (A:Option Addr) (c:Nat) (w:World) (hc:l.length<=c) (hl:l.length<=1000) (hok: ∀x∈l,checkRecP x=0) (hS:Sl w 8 Rec.cells A l):
 Calls Tryz.prog 28 #[.slice A l.length c] w (OwnPost w 3 1 intC (dispP l)):=by
 have HOK:=Lib.hid hok
 have HLESS:=Lib.hid (fun(st:List Nat) (SA:Option Addr) (sc i:Nat) W (hi:i<st.length) (hl2:st.length<=1000) (hsc:st.length<=sc) (hT:Sl W 1 intC SA st) (_:Below w.heap.size w W)=>less_any st SA sc i W hi hsc hl2 hT)
 have HOF2:=Lib.hid (fun(m:List Nat) W (VA:Option Addr) vc (hv:m.length<=vc) (hm:m.length<=1000) (hin: ∀x∈m,x<l.length) (h:Sl W 1 intC VA m) (hW:Below w.heap.size w W)=>rOf_any l m A c VA vc W hc hv hm hin (hS.keep hW) h)
 have HCO:=Lib.hid (fun(m:List Nat) W VA vc (hm:m.length<=1000) (hv:(ofP l m).length<=vc) (h:Sl W 8 Rec.cells VA (ofP l m))=>rContradicts_any (ofP l m) VA vc W hv (by have:=of_len l m;omega) (fun x hx=>HOK.out x (of_mem x hx)) h)
 obtain⟨D,hD⟩: ∃D,D=dispP l:=⟨_,rfl⟩
 rw[<-hD]
 have HD:=Lib.hid hD
 clear hS hok hD
 go_enter Tryz.func28,Tryz.ntmps28
 go_upto_region 3 with fail
 go_loopw [3,4] (fun v i wr=> ∃k:Nat,k<=l.length/\i= .int .i64 k/\OwnS wr w.heap.size 3 1 intC v (List.range k)/\Below w.heap.size w wr) (fun _ i _=>l.length-(intOf i).toNat)
 case atStart=>exact⟨0,Nat.zero_le _,rfl,OwnS.nil,Below.refl _ _⟩
 case round=>
  obtain⟨k,hk,rfl,hown,hB⟩:=hrel
  have HO:=Lib.hid hown
  have HB:=Lib.hid hB
  have hbs:=hB.size
  obtain⟨VA,vc,hv,_,hvc⟩:=hown.sl intC_len
  rw[List.length_range]at hv hvc
  subst hv
  by_cases hlt:k<l.length
  ·have HLT:=Lib.hid hlt
   have hki:(k:Int)<(l.length:Int):=by omega
   clear hown hB
   go_wp2_with (at_builtin
                go_loud(refine wpList_append_S (v:= .slice VA k vc) (n:=k) (m:=1) rfl _ _ rfl elInt intC_len intC_one rfl (xs:=List.range k) (ys:=[k]) (HO.out.keep (n:=wr.heap.size) Bw) List.length_range rfl rfl (sl_int (J_new _ _ _ rfl)) (by simp[maxLen];omega) (by omega) (by simp;omega) ?_)
                intro v3 w3 h1 h2 h3
                have hb3:=Below.grown (B:=w.heap.size) (a:=w) (HB.out.trans (Below.mono (B:=wr.heap.size) (B_alloc (Below.refl _ _) _) hbs)) h2 (by simp;omega) (fun j hj=>(HO.out.ge j hj).1)
                have H1:=Lib.hid h1
                have HB3:=Lib.hid hb3
                clear h1 h2 h3 hb3)
   go_round
   case rel=>exact⟨k+1,HLT.out,by go_num,by rw[List.range_succ];exact H1.out,HB3.out⟩
   case measure=>have:=HLT.out;simp only[intOf];omega
  ·have hki: ¬(k:Int)<(l.length:Int):=by omega
   obtain rfl:k=l.length:=by omega
   clear hown hB hlt
   go_upto_region 7 with fail
   go_loopw [3,5] (fun v i wr=> ∃(f k:Nat) (st:List Nat),i= .int .i64 k/\(∀x∈st,x<l.length)/\st.length<=l.length/\st.length-k<=f/\OwnS wr w.heap.size 3 1 intC v st/\Below w.heap.size w wr/\Hid (D=dispGo l f st k)) (fun v i _=>lenV v-(intOf i).toNat)
   case atStart=>exact⟨l.length,0,List.range l.length,rfl,fun x hx=>List.mem_range.1 hx,by simp,by simp,HO.out,HB.out,HD.out⟩
   case round=>
    obtain⟨f,k,st,rfl,hin,hsl,hf,hown,hB,HX⟩:=hrel
    obtain⟨SA,sc,rfl,hss,hvc⟩:=hown.sl intC_len
    by_cases hlt:k<st.length
    ·have HLT:=Lib.hid hlt
     have HSL:Hid (st.length<=1000):=by show _<=_;omega
     have HSL2:Hid ((st.eraseIdx k).length<=1000):=by show _<=_;have:=List.length_eraseIdx_le (l:=st) (i:=k);omega
     have HSL3:Hid ((st.eraseIdx k).length<=l.length):=by show _<=_;have:=List.length_eraseIdx_le (l:=st) (i:=k);omega
     have HEQ:Hid ((st.eraseIdx k).length+1=st.length):=by show _=_;rw[List.length_eraseIdx_of_lt hlt];omega
     have HIN2:Hid (∀x∈st.eraseIdx k,x<l.length):=fun x hx=>hin x ((List.eraseIdx_sublist st k).subset hx)
     have HIN:=Lib.hid hin
     have SS:=Lib.hid hss
     have HO2:=Lib.hid hown
     have HB:=Lib.hid hB
     have hbs:=hB.size
     have hki:(k:Int)<(st.length:Int):=by omega
     have hk0:(0:Int)<=(k:Int):=by omega
     cases hce:contraP (ofP l (st.eraseIdx k))
     ·obtain⟨g,hg,hgf⟩:=disp_on hlt hf hce
      have HX2:=Lib.hid (HX.out.trans hg)
      have HGF:=Lib.hid hgf
      have HCE:=Lib.hid hce
      clear hce hg hgf hf hown hB hss hlt hin HX
      go_wp2_with (first
                    |(go_at_call 45;go_must(refine(HLESS.out st SA sc k _ HLT.out HSL.out hvc (SS.out.keep (n:=wr.heap.size) Bw) (by have:=HB.out;repeat(first|exact B_refl|exact Below.refl _ _|assumption|with_reducible refine B_alloc ?_ _|with_reducible refine B_ext ?_ _|with_reducible refine B_drew ?_|with_reducible refine B_drewN ?_ _|with_reducible refine B_set ?_ (by simp;omega) _))).mono ?_);rintro e w4 ⟨v4,rfl,o4,b4⟩;have b4':=HB.out.trans (Below.mono (B:=wr.heap.size) b4 hbs);obtain⟨A4,c4,rfl,s4,hc4⟩:=o4.sl intC_len)
                    |(go_at_call 44;go_must(refine(HOF2.out _ _ A4 c4 hc4 HSL2.out HIN2.out s4 b4').mono ?_);rintro e w5 ⟨v5,rfl,o5,b5⟩;have b2:=b4'.trans (b5.mono b4'.size);obtain⟨A5,c5,rfl,s5,hc5⟩:=o5.sl recC_len)
                    |(go_at_call 11;go_must(refine(HCO.out _ _ A5 c5 HSL2.out hc5 s5).mono ?_);rw[HCE.out];rintro e w6 ⟨rfl,z6,rfl⟩))
      go_round
      case rel=>exact⟨g,k+1,st,by go_num,HIN.out,hsl,HGF.out,HO2.out.keep (b4.trans ((B_ext b5 _).mono b4.size)),B_ext b2 _,HX2.out⟩
      case measure=>have:=HLT.out;simp only[intOf,lenV];omega
     ·obtain⟨g,hg,hgf⟩:=disp_cut hlt hf hce
      have HX2:=Lib.hid (HX.out.trans hg)
      have HGF:=Lib.hid hgf
      have HCE:=Lib.hid hce
      clear hce hg hgf hf hown hB hss hlt hin HX
      go_upto_region 9 with(first
                             |(go_at_call 45;go_must(refine(HLESS.out st SA sc k _ HLT.out HSL.out hvc (SS.out.keep (n:=wr.heap.size) Bw) (by have:=HB.out;repeat(first|exact B_refl|exact Below.refl _ _|assumption|with_reducible refine B_alloc ?_ _|with_reducible refine B_ext ?_ _|with_reducible refine B_drew ?_|with_reducible refine B_drewN ?_ _|with_reducible refine B_set ?_ (by simp;omega) _))).mono ?_);rintro e w4 ⟨v4,rfl,o4,b4⟩;have b4':=HB.out.trans (Below.mono (B:=wr.heap.size) b4 hbs);obtain⟨A4,c4,rfl,s4,hc4⟩:=o4.sl intC_len)
                             |(go_at_call 44;go_must(refine(HOF2.out _ _ A4 c4 hc4 HSL2.out HIN2.out s4 b4').mono ?_);rintro e w5 ⟨v5,rfl,o5,b5⟩;have b2:=b4'.trans (b5.mono b4'.size);obtain⟨A5,c5,rfl,s5,hc5⟩:=o5.sl recC_len)
                             |(go_at_call 11;go_must(refine(HCO.out _ _ A5 c5 HSL2.out hc5 s5).mono ?_);rw[HCE.out];rintro e w6 ⟨rfl,z6,rfl⟩))
      have hb6:Below wr.heap.size wr (w5.ext z6):=b4.trans ((B_ext b5 _).mono b4.size)
      clear b4 b5 b2 b4' s4 s5 o4 o5 hc4 hc5
      generalize w5.ext z6=W6 at*
      have HB6:=Lib.hid hb6
      clear hb6
      go_wp2_with (go_at_call 45;go_must(refine(HLESS.out st SA sc k _ HLT.out HSL.out hvc (SS.out.keep HB6.out) (HB.out.trans (HB6.out.mono hbs))).mono ?_);rintro e w7 ⟨v7,rfl,o7,b7⟩;obtain⟨A7,c7,rfl,s7,hc7⟩:=o7.sl intC_len)
      go_round
      case rel=>exact⟨g,k,st.eraseIdx k,by go_num,HIN2.out,HSL3.out,HGF.out,o7.base_le (by have:=HB6.out.size;omega),HB.out.trans ((HB6.out.trans (b7.mono HB6.out.size)).mono hbs),HX2.out⟩
      case measure=>have:=HLT.out;have:=HEQ.out;simp only[intOf,lenV];omega
    ·have HRX:=Lib.hid (HX.out.trans (disp_end hlt))
     have hki: ¬(k:Int)<(st.length:Int):=by omega
     have HO2:=Lib.hid hown
     have HB2:=Lib.hid hB
     clear hown hB hlt hss
     go_wp2_with fail
     go_ret
     exact⟨_,rfl,by rw[HRX.out];exact HO2.out,HB2.out⟩
end Go.Proofs.YtkhkhnellekofaaGreatDoor
