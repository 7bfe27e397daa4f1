/- Walk of the program's CheckDispute. -/
import Derived.Test.YtkhkhnellekofaaGreatDoorUP
import Derived.Test.YtkhkhnellekofaaGreatDoorOE
import Derived.Test.YtkhkhnellekofaaGreatDoorUK
set_option linter.unusedSimpArgs false
set_option linter.unusedVariables false
namespace Go.Proofs.YtkhkhnellekofaaGreatDoor
open Go.RowKit Go.Shelf
attribute [local go_sem] World.cell?_alloc_mark ext_size ext_cell ext_frozen lt_add_r lt_add_r2 lt_add_r3 lt_add_r4 lt_add_r5 lt_add_r6 lt_add_r7 lt_add_r8
attribute [local go_sem] ext_setCell alloc_setCell_lt
noncomputable def cdR (l:List Rec) (s:List Int):Int:=if checkRecsP l != 0 then checkRecsP l else if setErrP l.length s != 0 then setErrP l.length s else if minB l (s.map Int.toNat)then 0 else 26
theorem nats_to (ns:List Nat):(ns.map (fun(k:Nat)=>(k:Int))).map Int.toNat=ns:=by
 induction ns with
 |nil=>rfl
 |cons x ns ih=>rw[List.map_cons,List.map_cons,ih];rfl
set_option maxRecDepth 100000 in
set_option maxHeartbeats 2000000 in
theorem checkDispute_any (l:List Rec) (s:List Int) (A:Option Addr) (c:Nat) (SA:Option Addr) (sc:Nat) (w:World) (hc:l.length<=c) (hz:recLens l) (hl:s.length<=1000) (hsc:s.length<=sc) (hS:Sl w 8 Rec.cells A l) (hT:Sl w 1 zC SA s):
 Calls Tryz.prog 25 #[.slice A l.length c, .slice SA s.length sc] w (Ret w (.int .i64 (cdR l s))):=by
 have HS:=Lib.hid hS
 have HT:=Lib.hid hT
 have HCK:=Lib.hid (fun W (hB:Below w.heap.size w W)=>checkRecords_any l A l.length c W rfl hc hz (hS.keep hB))
 obtain⟨R,hR⟩: ∃R,R=cdR l s:=⟨_,rfl⟩
 rw[<-hR]
 unfold cdR at hR
 clear hS hT
 go_enter Tryz.func25,Tryz.ntmps25
 by_cases h0:checkRecsP l=0
 ·have hok:=recs_ok h0
  have HOK:=Lib.hid hok.2
  have hn:l.length<=100000:=by have:=hok.1;omega
  rw[if_neg (by simp[h0])]at hR
  rw[h0]at HCK
  have HR:=Lib.hid hR
  have w0:IntKind.i64.wrap ((l.length:Int)-1)=(l.length:Int)-1:=by rw[IntKind.wrap_i64];omega
  clear hR h0 hok
  go_upto_region 5 with(go_at_call 18;go_must(refine(HCK.out _ Bw).mono ?_);rintro e wq ⟨rfl,z0,rfl⟩)
  have hb0:Below w.heap.size w (w.ext z0):=below_ext w z0
  generalize w.ext z0=W0 at*
  have HB0:=Lib.hid hb0
  clear hb0
  go_loopw [17] (fun i wr=> ∃k:Nat,k<=s.length/\i= .int .i64 k/\W0=wr/\Hid (missP l.length s=missP l.length (s.drop k))) (fun i _=>s.length-(intOf i).toNat)
  case atStart=>exact⟨0,Nat.zero_le _,rfl,rfl,rfl⟩
  case round=>
   obtain⟨k,hk,rfl,rfl,HX⟩:=hrel
   by_cases hlt:k<s.length
   ·obtain⟨b,off,rfl,hb,hcc⟩:=(HT.out.keep HB0.out).at hlt
    have HX2:=Lib.hid (HX.out.trans (miss_step hlt))
    have i0:W0.cell? ⟨b,off+k,none⟩=some (.int .i64 s[k]):=by have:=hcc 0 _ rfl;simpa using this
    have HLT:=Lib.hid hlt
    have hki:(k:Int)<(s.length:Int):=by omega
    have hk0:(0:Int)<=(k:Int):=by omega
    clear hcc
    generalize s[k]=x at*
    clear hlt
    cases hw:inR x 0 ((l.length:Int)-1)
    ·have HRX:Hid (R=6):=by
      show _=_
      rw[HR.out]
      unfold setErrP
      rw[HX2.out,hw]
      rfl
     go_wp2_with (go_at_call 55;go_must(refine(within5_any _ _ _ _).mono ?_);rintro e wq ⟨rfl,rfl⟩;rw[hw])
     go_ret
     exact Ret.of (by rw[HRX.out];rfl) HB0.out
    ·have HX3:Hid (missP l.length s=missP l.length (s.drop (k+1))):=by
      show _=_
      rw[HX2.out,hw]
      rfl
     go_wp2_with (go_at_call 55;go_must(refine(within5_any _ _ _ _).mono ?_);rintro e wq ⟨rfl,rfl⟩;rw[hw])
     go_round
     case rel=>exact⟨k+1,HLT.out,by go_num,by first|exact True.intro|rfl,HX3.out⟩
     case measure=>have:=HLT.out;simp only[intOf];omega
   ·have HM:=Lib.hid (HX.out.trans (miss_end hlt))
    have hki: ¬(k:Int)<(s.length:Int):=by omega
    clear hlt
    go_upto_region 11 with fail
    go_loopw [8] (fun i wr=> ∃j:Nat,i= .int .i64 ((j:Int)+1)/\Below w.heap.size w wr/\Hid (disAt s 0=disAt s j)) (fun i _=>s.length-(intOf i).toNat)
    case atStart=>exact⟨0,by first|rfl|simp,HB0.out,rfl⟩
    case round=>
     obtain⟨j,rfl,hB,HX⟩:=hrel
     have HB:=Lib.hid hB
     have hbs:=hB.size
     by_cases hlt:j+1<s.length
     ·obtain⟨b,off,rfl,hb,hcc⟩:=(HT.out.keep hB).at hlt
      obtain⟨b2,off2,hE,_,hcc2⟩:=(HT.out.keep hB).at (show j<s.length by omega)
      simp only[Option.some.injEq,Addr.mk.injEq,and_true]at hE
      obtain⟨rfl,rfl⟩:=hE
      have HX2:=Lib.hid (HX.out.trans (dis_step hlt))
      have i1:wr.cell? ⟨b,off+(j+1),none⟩=some (.int .i64 s[j+1]):=by have:=hcc 0 _ rfl;simpa using this
      have i0:wr.cell? ⟨b,off+j,none⟩=some (.int .i64 s[j]):=by have:=hcc2 0 _ rfl;simpa using this
      have HLT:=Lib.hid hlt
      have hki:(j:Int)+1<(s.length:Int):=by omega
      have hk0:(0:Int)<=(j:Int):=by omega
      have hk1:(0:Int)<=(j:Int)+1:=by omega
      have hk2:(j:Int)<(s.length:Int):=by omega
      have hkn:((j:Int)+1).toNat=j+1:=by omega
      have w1:IntKind.i64.wrap ((j:Int)+1-1)=(j:Int):=by rw[IntKind.wrap_i64];omega
      have w2:IntKind.i64.wrap (j:Int)=(j:Int):=by rw[IntKind.wrap_i64];omega
      have w3:IntKind.i64.wrap ((j:Int)+1+1)=(j:Int)+1+1:=by rw[IntKind.wrap_i64];omega
      clear hcc hcc2 hB hbs
      generalize s[j]=x at*
      generalize s[j+1]=y at*
      clear hlt
      by_cases hle:y<=x
      ·have HRX:Hid (R=9):=by
        show _=_
        rw[HR.out]
        unfold setErrP
        rw[HM.out,HX2.out,decide_eq_true hle]
        rfl
       go_upto_region 13 with fail
       (refine wp_region_ext_lit (by kernel_rfl) (by kernel_rfl) ?_
        repeat(first|go_big_quiet_skip|(go_big_quiet_want;go_big_quiet_op;first|go_big_quiet_on|(apply Exists.intro;refine⟨fun _=> ?_,?_⟩;(fail);go_big_quiet_on)))
        refine wpQuiet_nil ?_
        rintro _ ⟨zq,rfl⟩)
       go_wp2_with fail
       go_ret
       exact Ret.of (by rw[HRX.out];rfl) (by have:=HB.out;repeat(first|exact B_refl|exact Below.refl _ _|assumption|with_reducible refine B_alloc ?_ _|with_reducible refine B_ext ?_ _|with_reducible refine B_drew ?_|with_reducible refine B_drewN ?_ _|with_reducible refine B_set ?_ (by simp;omega) _))
      ·have HX3:Hid (disAt s 0=disAt s (j+1)):=by
        show _=_
        rw[HX2.out,decide_eq_false hle]
        rfl
       go_upto_region 13 with fail
       (refine wp_region_ext_lit (by kernel_rfl) (by kernel_rfl) ?_
        repeat(first|go_big_quiet_skip|(go_big_quiet_want;go_big_quiet_op;first|go_big_quiet_on|(apply Exists.intro;refine⟨fun _=> ?_,?_⟩;(fail);go_big_quiet_on)))
        refine wpQuiet_nil ?_
        rintro _ ⟨zq,rfl⟩)
       go_wp2_with fail
       go_round
       case rel=>exact⟨j+1,by go_num,by have:=HB.out;repeat(first|exact B_refl|exact Below.refl _ _|assumption|with_reducible refine B_alloc ?_ _|with_reducible refine B_ext ?_ _|with_reducible refine B_drew ?_|with_reducible refine B_drewN ?_ _|with_reducible refine B_set ?_ (by simp;omega) _),HX3.out⟩
       case measure=>have:=HLT.out;simp only[intOf];omega
     ·have hd:=HX.out.trans (dis_end hlt)
      obtain⟨ns,hns,hin⟩:=nats_of HM.out
      have HRX:Hid (R=if minB l ns then 0 else 26):=by
       show _=_
       rw[HR.out]
       unfold setErrP
       rw[HM.out,hd,if_neg (by simp),hns,nats_to]
      have hki: ¬(j:Int)+1<(s.length:Int):=by omega
      clear hd hlt HX HM HR HCK
      subst hns
      rw[List.length_map]at*
      have HT2:=Lib.hid (sl_nats HT.out)
      have HIN:=Lib.hid hin
      clear HT hin hB
      have HOF:=Lib.hid (fun W (hW:Below w.heap.size w W)=>some_any l ns A c SA sc W hc hsc hl HIN.out (HS.out.keep hW) (HT2.out.keep hW))
      have HLESS:=Lib.hid (fun i W (hi:i<ns.length) (hW:Below w.heap.size w W)=>without_any ns SA sc i W hl hi (HT2.out.keep hW))
      have HOF2:=Lib.hid (fun(i:Nat) W (VA:Option Addr) vc (hv:(ns.eraseIdx i).length<=vc) (h:Sl W 1 intC VA (ns.eraseIdx i)) (hW:Below w.heap.size w W)=>some_any l (ns.eraseIdx i) A c VA vc W hc hv (by have:=List.length_eraseIdx_le (l:=ns) (i:=i);omega) (fun x hx=>HIN.out x ((List.eraseIdx_sublist ns i).subset hx)) (HS.out.keep hW) h)
      have HCO:=Lib.hid (fun(m:List Nat) W VA vc (hm:m.length<=1000) (hv:(ofP l m).length<=vc) (h:Sl W 8 Rec.cells VA (ofP l m))=>contradicts_any (ofP l m) VA vc W hv (by have:=of_len l m;omega) (fun x hx=>HOK.out x (of_mem x hx)) h)
      unfold minB at HRX
      cases hcp:contraP (ofP l ns)
      ·have HRY:Hid (R=26):=by
        show _=_
        rw[HRX.out,hcp]
        rfl
       have HCP:=Lib.hid hcp
       clear hcp
       go_wp2_with (first
                     |(go_at_call 39;go_must(refine(HOF.out _ (by have:=HB.out;repeat(first|exact B_refl|exact Below.refl _ _|assumption|with_reducible refine B_alloc ?_ _|with_reducible refine B_ext ?_ _|with_reducible refine B_drew ?_|with_reducible refine B_drewN ?_ _|with_reducible refine B_set ?_ (by simp;omega) _))).mono ?_);rintro e w1 ⟨v1,rfl,o1,b1⟩;have b1':=HB.out.trans (b1.mono hbs);clear b1;obtain⟨A1,c1,rfl,s1,hc1⟩:=o1.sl recC_len)
                     |(go_at_call 38;go_must(refine(HCO.out ns _ A1 c1 hl hc1 s1).mono ?_);rw[HCP.out];rintro e w2 ⟨rfl,z,rfl⟩))
       go_ret
       exact Ret.of (by rw[HRY.out];rfl) (B_ext b1' _)
      ·have HRY:Hid (R=if leftOk l ns 0 then 0 else 26):=by
        show _=_
        rw[HRX.out,hcp,Bool.true_and]
       have HCP:=Lib.hid hcp
       clear hcp HRX
       go_upto_region 18 with(first
                               |(go_at_call 39;go_must(refine(HOF.out _ (by have:=HB.out;repeat(first|exact B_refl|exact Below.refl _ _|assumption|with_reducible refine B_alloc ?_ _|with_reducible refine B_ext ?_ _|with_reducible refine B_drew ?_|with_reducible refine B_drewN ?_ _|with_reducible refine B_set ?_ (by simp;omega) _))).mono ?_);rintro e w1 ⟨v1,rfl,o1,b1⟩;have b1':=HB.out.trans (b1.mono hbs);clear b1;obtain⟨A1,c1,rfl,s1,hc1⟩:=o1.sl recC_len)
                               |(go_at_call 38;go_must(refine(HCO.out ns _ A1 c1 hl hc1 s1).mono ?_);rw[HCP.out];rintro e w2 ⟨rfl,z,rfl⟩))
       have hb1:Below w.heap.size w (w1.ext z):=B_ext b1' _
       clear s1 o1 b1' hc1
       generalize w1.ext z=W1 at*
       have HB1:=Lib.hid hb1
       clear hb1 HB hbs
       go_loopw [51] (fun i wr=> ∃k:Nat,k<=ns.length/\i= .int .i64 k/\Below w.heap.size w wr/\Hid (leftOk l ns 0=leftOk l ns k)) (fun i _=>ns.length-(intOf i).toNat)
       case atStart=>exact⟨0,Nat.zero_le _,rfl,HB1.out,rfl⟩
       case round=>
        obtain⟨k,hk,rfl,hB,HX⟩:=hrel
        have HB:=Lib.hid hB
        have hbs:=hB.size
        by_cases hlt:k<ns.length
        ·have HX2:=Lib.hid (HX.out.trans (left_step hlt))
         have HLT:=Lib.hid hlt
         have hki:(k:Int)<(ns.length:Int):=by omega
         have hk0:(0:Int)<=(k:Int):=by omega
         have hel:(ns.eraseIdx k).length<=1000:=by have:=List.length_eraseIdx_le (l:=ns) (i:=k);omega
         clear hB hlt
         cases hce:contraP (ofP l (ns.eraseIdx k))
         ·have HX3:Hid (leftOk l ns 0=leftOk l ns (k+1)):=by
           show _=_
           rw[HX2.out,hce]
           rfl
          have HCE:=Lib.hid hce
          clear hce
          go_wp2_with (first
           |(go_at_call 43;go_must(refine(HLESS.out k _ HLT.out (by have:=HB.out;repeat(first|exact B_refl|exact Below.refl _ _|assumption|with_reducible refine B_alloc ?_ _|with_reducible refine B_ext ?_ _|with_reducible refine B_drew ?_|with_reducible refine B_drewN ?_ _|with_reducible refine B_set ?_ (by simp;omega) _))).mono ?_);rintro e w4 ⟨v4,rfl,o4,b4⟩;have b4':=HB.out.trans (b4.mono hbs);clear b4;obtain⟨A4,c4,rfl,s4,hc4⟩:=o4.sl intC_len)
           |(go_at_call 39;go_must(refine(HOF2.out k _ A4 c4 hc4 s4 b4').mono ?_);rintro e w5 ⟨v5,rfl,o5,b5⟩;have b2:=b4'.trans (b5.mono b4'.size);clear b5;obtain⟨A5,c5,rfl,s5,hc5⟩:=o5.sl recC_len)
           |(go_at_call 38;go_must(refine(HCO.out _ _ A5 c5 hel hc5 s5).mono ?_);rw[HCE.out];rintro e w6 ⟨rfl,z6,rfl⟩))
          go_round
          case rel=>exact⟨k+1,HLT.out,by go_num,B_ext b2 _,HX3.out⟩
          case measure=>have:=HLT.out;simp only[intOf];omega
         ·have HRZ:Hid (R=26):=by
           show _=_
           rw[HRY.out,HX2.out,hce]
           rfl
          have HCE:=Lib.hid hce
          clear hce
          go_wp2_with (first
           |(go_at_call 43;go_must(refine(HLESS.out k _ HLT.out (by have:=HB.out;repeat(first|exact B_refl|exact Below.refl _ _|assumption|with_reducible refine B_alloc ?_ _|with_reducible refine B_ext ?_ _|with_reducible refine B_drew ?_|with_reducible refine B_drewN ?_ _|with_reducible refine B_set ?_ (by simp;omega) _))).mono ?_);rintro e w4 ⟨v4,rfl,o4,b4⟩;have b4':=HB.out.trans (b4.mono hbs);clear b4;obtain⟨A4,c4,rfl,s4,hc4⟩:=o4.sl intC_len)
           |(go_at_call 39;go_must(refine(HOF2.out k _ A4 c4 hc4 s4 b4').mono ?_);rintro e w5 ⟨v5,rfl,o5,b5⟩;have b2:=b4'.trans (b5.mono b4'.size);clear b5;obtain⟨A5,c5,rfl,s5,hc5⟩:=o5.sl recC_len)
           |(go_at_call 38;go_must(refine(HCO.out _ _ A5 c5 hel hc5 s5).mono ?_);rw[HCE.out];rintro e w6 ⟨rfl,z6,rfl⟩))
          go_ret
          exact Ret.of (by rw[HRZ.out];rfl) (B_ext b2 _)
        ·have HRZ:Hid (R=0):=by
          show _=_
          rw[HRY.out,HX.out,left_end hlt]
          rfl
         have hki: ¬(k:Int)<(ns.length:Int):=by omega
         go_wp2_with fail
         go_ret
         exact Ret.of (by rw[HRZ.out];rfl) HB.out
 ·rw[if_pos (by simpa using h0)]at hR
  have HR:=Lib.hid hR
  generalize checkRecsP l=E at*
  clear hR
  go_wp2_with (go_at_call 18;go_must(refine(HCK.out _ Bw).mono ?_);rintro e wq ⟨rfl,z,rfl⟩)
  go_ret
  exact Ret.of (by rw[HR.out];rfl) Bw
end Go.Proofs.YtkhkhnellekofaaGreatDoor
