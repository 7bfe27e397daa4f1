/- Walk of the reference's CheckRecords at texts of any length. -/
import Derived.Test.YtkhkhnellekofaaGreatDoorRP
set_option linter.unusedSimpArgs false
set_option linter.unusedVariables false
namespace Go.Proofs.YtkhkhnellekofaaGreatDoor
open Go.RowKit Go.Shelf
attribute [local go_sem] World.cell?_alloc_mark ext_size ext_cell ext_frozen lt_add_r lt_add_r2 lt_add_r3 lt_add_r4 lt_add_r5 lt_add_r6 lt_add_r7 lt_add_r8
attribute [local go_sem] ext_setCell alloc_setCell_lt
def recLensX (l:List Rec):Prop:= ∀x∈l,x.name.size<=maxLen/\x.other.size<=maxLen/\x.place.size<=maxLen
set_option maxRecDepth 100000 in
set_option maxHeartbeats 2000000 in
theorem bIsNameX_any (s:ByteArray) (w:World) (hs:s.size<=maxLen):
 Calls Tryz.prog 34 #[.string s] w (Ret0 w (.bool (isNameR s))):=by
 simp only[maxLen]at hs
 go_enter Tryz.func34,Tryz.ntmps34
 by_cases h0:s.size=0
 ·have H0:=Lib.hid h0
  have h1:(s.size:Int)<1:=by omega
  clear h0
  go_wp2_with fail
  go_ret
  exact⟨by simp[isNameR,h1],rfl⟩
 have h0':0<s.size:=by omega
 have hg:(bytesI s).getD 0 0=(s[0].toNat:Int):=by simp only[bytesI,List.getD_eq_getElem?_getD,List.getElem?_map,Array.getElem?_toList];rw[Array.getElem?_eq_getElem h0'];rfl
 go_wp2_with (first
  |(go_at_call 62;refine(letter_any _ _).mono ?_;intro e wq hq;rcases Ret0.bools hq with⟨rfl,⟨hb,rfl⟩|⟨hb,rfl⟩⟩<;>clear hq)
  |(go_at_call 63;refine(digit_any _ _).mono ?_;intro e wq hq;rcases Ret0.bools hq with⟨rfl,⟨hb,rfl⟩|⟨hb,rfl⟩⟩<;>clear hq))
 ·have HG:=Lib.hid hg
  clear hg
  go_loop [3] (fun i=> ∃k:Nat,1<=k/\k<=s.size/\i= .int .i64 k/\nmGoR ((bytesI s).drop 1)=nmGoR ((bytesI s).drop k)) (fun i=>s.size-(intOf i).toNat)
  case atStart=>exact⟨1,by omega,by omega,rfl,rfl⟩
  case round=>
   obtain⟨k,hk1,hk,rfl,hf⟩:=hrel
   by_cases hlt:k<s.size
   ·rw[bytesI_drop s k hlt,show s.data[k]=s[k]from rfl]at hf
    have HF:=Lib.hid hf
    clear hf
    have HL:=Lib.hid hlt
    go_wp2_with (first
     |(go_at_call 62;refine(letter_any _ _).mono ?_;intro e wq hq;rcases Ret0.bools hq with⟨rfl,⟨hb,rfl⟩|⟨hb,rfl⟩⟩<;>clear hq)
     |(go_at_call 63;refine(digit_any _ _).mono ?_;intro e wq hq;rcases Ret0.bools hq with⟨rfl,⟨hb,rfl⟩|⟨hb,rfl⟩⟩<;>clear hq))
    all_goals first
     |(go_round
       case rel=>exact⟨k+1,by omega,by have:=HL.out;omega,by go_num,by rw[HF.out,nmGoR,if_neg (by simp[*])]⟩
       case measure=>have:=HL.out;simp[intOf];omega)
     |(go_ret
       exact⟨by rw[isNameR,HG.out,HF.out,nmGoR];simp[*],rfl⟩)
   ·have hnil:(bytesI s).drop k=[]:=List.drop_eq_nil_of_le (by rw[bytesI_len];omega)
    rw[hnil,nmGoR]at hf
    clear hnil
    have HF:=Lib.hid hf
    clear hf
    go_wp2_with fail
    go_ret
    exact⟨by rw[isNameR,HG.out,HF.out];simp[*],rfl⟩
 ·go_ret
  exact⟨by rw[isNameR,hg];simp[*],rfl⟩
 ·go_ret
  exact⟨by rw[isNameR,hg];simp[*],rfl⟩
set_option maxRecDepth 100000 in
set_option maxHeartbeats 4000000 in
theorem rCheckRecsX_any (l:List Rec) (A:Option Addr) (c:Nat) (w:World) (hc:l.length<=c) (hz:recLensX l) (hS:Sl w 8 Rec.cells A l):Calls Tryz.prog 9 #[.slice A l.length c] w (Ret w (.int .i64 (checkRecsP l))):=by
 have HS:=Lib.hid hS
 have HZ:=Lib.hid hz
 obtain⟨R,hR⟩: ∃R,R=checkRecsP l:=⟨_,rfl⟩
 rw[<-hR]
 unfold checkRecsP at hR
 clear hS hz
 by_cases h40:40<l.length
 ·rw[if_pos (by simpa using h40)]at hR
  subst hR
  have h4:(40:Int)<(l.length:Int):=by omega
  go_enter Tryz.func9,Tryz.ntmps9
  go_wp2_with fail
  go_ret
  exact Ret.of rfl Bw
 ·rw[if_neg (by simpa using h40)]at hR
  have h4: ¬(40:Int)<(l.length:Int):=by omega
  have HR:=Lib.hid hR
  clear hR
  go_enter Tryz.func9,Tryz.ntmps9
  go_wp2_with fail
  go_loopw [3] (fun i wr=> ∃k:Nat,k<=l.length/\i= .int .i64 k/\Hid (R=firstErr checkRecP (l.drop k))/\Below w.heap.size w wr) (fun i _=>l.length-(intOf i).toNat)
  case atStart=>exact⟨0,Nat.zero_le _,rfl,by rw[List.drop_zero];exact HR.out,Below.refl _ _⟩
  case round=>
   obtain⟨k,hk,rfl,HX,hB⟩:=hrel
   have hbs:=hB.size
   by_cases hlt:k<l.length
   ·obtain⟨b,off,hA,hb,hcc⟩:=(HS.out.keep hB).at hlt
    have hx:=HX.out
    rw[List.drop_eq_getElem_cons hlt]at hx
    have hx:=rec_any_err hx
    have hl3:=HZ.out _ (List.getElem_mem hlt)
    have HX2:=Lib.hid hx
    have HLT:=Lib.hid hlt
    generalize l[k]=x at*
    obtain⟨kd,nm,ot,pl,dy,tl,nu,de⟩:=x
    have i0:wr.cell? ⟨b,off+k*8,none⟩=some (.int .i64 kd):=hcc 0 _ rfl
    have i1:wr.cell? ⟨b,off+k*8+1,none⟩=some (.string nm):=hcc 1 _ rfl
    have i2:wr.cell? ⟨b,off+k*8+2,none⟩=some (.string ot):=hcc 2 _ rfl
    have i3:wr.cell? ⟨b,off+k*8+3,none⟩=some (.string pl):=hcc 3 _ rfl
    have i4:wr.cell? ⟨b,off+k*8+4,none⟩=some (.int .i64 dy):=hcc 4 _ rfl
    have i5:wr.cell? ⟨b,off+k*8+5,none⟩=some (.int .i64 tl):=hcc 5 _ rfl
    have i6:wr.cell? ⟨b,off+k*8+6,none⟩=some (.int .i64 nu):=hcc 6 _ rfl
    have i7:wr.cell? ⟨b,off+k*8+7,none⟩=some (.int .i64 de):=hcc 7 _ rfl
    have hki:(k:Int)<(l.length:Int):=by omega
    have hk0:(0:Int)<=(k:Int):=by omega
    have hkc:(k:Int)<=(c:Int):=by omega
    obtain⟨l1,l2,l3⟩:=hl3
    simp only at l1 l2 l3
    have HB:=Lib.hid hB
    subst hA
    clear hcc hx hlt hB
    cases hk9:inR kd 0 4
    ·have HE:Hid (R=15):=by show _=_;rw[HX2.out];simp[rRecP,hk9]
     go_wp2_with (go_at_call 33;go_must(refine(bwithin_any _ _ _ _).mono ?_);rintro e wq ⟨rfl,rfl⟩;rw[hk9])
     go_ret
     exact Ret.of (int_eq (by rw[HE.out])) (HB.out.trans (Below.mono (B:=wr.heap.size) Bw HB.out.size))
    ·go_upto_region 9 with(go_at_call 33;go_must(refine(bwithin_any _ _ _ _).mono ?_);rintro e wq ⟨rfl,rfl⟩;rw[hk9])
     cases hd1:isDayP dy
     ·have HE:Hid (R=2):=by show _=_;rw[HX2.out];simp[rRecP,hk9,hd1]
      go_wp2_with (go_at_call 23;go_must(refine(r5IsDay_any _ _).mono ?_);rintro e wq ⟨rfl,rfl⟩;rw[hd1])
      go_ret
      exact Ret.of (int_eq (by rw[HE.out])) (HB.out.trans (Below.mono (B:=wr.heap.size) Bw HB.out.size))
     ·cases hd2:isDayP tl
      ·have HE:Hid (R=2):=by show _=_;rw[HX2.out];simp[rRecP,hk9,hd1,hd2]
       go_wp2_with (go_at_call 23;go_must(refine(r5IsDay_any _ _).mono ?_);rintro e wq ⟨rfl,rfl⟩;(first|rw[hd1]|rw[hd2]))
       go_ret
       exact Ret.of (int_eq (by rw[HE.out])) (HB.out.trans (Below.mono (B:=wr.heap.size) Bw HB.out.size))
      ·go_upto_region 11 with(go_at_call 23;go_must(refine(r5IsDay_any _ _).mono ?_);rintro e wq ⟨rfl,rfl⟩;(first|rw[hd1]|rw[hd2]))
       obtain⟨WZ,hWZ⟩: ∃WZ,WZ=wr.alloc (.cells #[.int .i64 kd, .string nm, .string ot, .string pl, .int .i64 dy, .int .i64 tl, .int .i64 nu, .int .i64 de] 65):=⟨_,rfl⟩
       have g0:WZ.heap[wr.heap.size]?=some (.cells #[.int .i64 kd, .string nm, .string ot, .string pl, .int .i64 dy, .int .i64 tl, .int .i64 nu, .int .i64 de] 65):=by rw[hWZ];exact J_new _ _ _ rfl
       have hBZ:Below wr.heap.size wr WZ:=by rw[hWZ];repeat(first|exact B_refl|exact Below.refl _ _|assumption|with_reducible refine B_alloc ?_ _|with_reducible refine B_ext ?_ _|with_reducible refine B_drew ?_|with_reducible refine B_drewN ?_ _|with_reducible refine B_set ?_ (by simp;omega) _)
       rw[<-hWZ]
       have HBZ:=Lib.hid hBZ
       have d0:WZ.cell? ⟨wr.heap.size,0,none⟩=some (.int .i64 kd):=by simp only[World.cell?,g0];rfl
       have d1:WZ.cell? ⟨wr.heap.size,1,none⟩=some (.string nm):=by simp only[World.cell?,g0];rfl
       have d2:WZ.cell? ⟨wr.heap.size,2,none⟩=some (.string ot):=by simp only[World.cell?,g0];rfl
       have d3:WZ.cell? ⟨wr.heap.size,3,none⟩=some (.string pl):=by simp only[World.cell?,g0];rfl
       have d4:WZ.cell? ⟨wr.heap.size,4,none⟩=some (.int .i64 dy):=by simp only[World.cell?,g0];rfl
       have d5:WZ.cell? ⟨wr.heap.size,5,none⟩=some (.int .i64 tl):=by simp only[World.cell?,g0];rfl
       have d6:WZ.cell? ⟨wr.heap.size,6,none⟩=some (.int .i64 nu):=by simp only[World.cell?,g0];rfl
       have d7:WZ.cell? ⟨wr.heap.size,7,none⟩=some (.int .i64 de):=by simp only[World.cell?,g0];rfl
       have hwz:wr.heap.size<WZ.heap.size:=blk_lt g0
       clear hWZ hBZ i0 i1 i2 i3 i4 i5 i6 i7 g0
       go_cut [62]from 63 to 76 (fun v wc=>v= .bool (!nameOr nm||!nameOr ot||!nameOr pl)/\WZ=wc)
       case first=>
        cases z1:noB nm
        ·have y1:nm.toList.isEmpty=false:=z1
         have w1: ¬nm.toList=[]:=by simpa using y1
         cases hp1:isNameP nm
         ·have hq1:isNameR nm=false:=by rw[<-isName5_same,hp1]
          go_wp2_with (first
                        |(go_at_call 33;go_must(refine(bwithin_any _ _ _ _).mono ?_);rintro e wq ⟨rfl,rfl⟩)
                        |(go_at_call 23;go_must(refine(r5IsDay_any _ _).mono ?_);rintro e wq ⟨rfl,rfl⟩)
                        |(go_at_call 34;go_must(refine(bIsNameX_any _ _ (by assumption)).mono ?_);rintro e wq ⟨rfl,rfl⟩;(first|rw[hq1]|rw[hq2]|rw[hq3])))
          all_goals go_meet
          all_goals exact⟨bool_eq (by simp[nameOr, *]),rfl⟩
         ·have hq1:isNameR nm=true:=by rw[<-isName5_same,hp1]
          cases z2:noB ot
          ·have y2:ot.toList.isEmpty=false:=z2
           have w2: ¬ot.toList=[]:=by simpa using y2
           cases hp2:isNameP ot
           ·have hq2:isNameR ot=false:=by rw[<-isName5_same,hp2]
            go_wp2_with (first
                          |(go_at_call 33;go_must(refine(bwithin_any _ _ _ _).mono ?_);rintro e wq ⟨rfl,rfl⟩)
                          |(go_at_call 23;go_must(refine(r5IsDay_any _ _).mono ?_);rintro e wq ⟨rfl,rfl⟩)
                          |(go_at_call 34;go_must(refine(bIsNameX_any _ _ (by assumption)).mono ?_);rintro e wq ⟨rfl,rfl⟩;(first|rw[hq1]|rw[hq2]|rw[hq3])))
            all_goals go_meet
            all_goals exact⟨bool_eq (by simp[nameOr, *]),rfl⟩
           ·have hq2:isNameR ot=true:=by rw[<-isName5_same,hp2]
            cases z3:noB pl
            ·have y3:pl.toList.isEmpty=false:=z3
             have w3: ¬pl.toList=[]:=by simpa using y3
             cases hp3:isNameP pl
             ·have hq3:isNameR pl=false:=by rw[<-isName5_same,hp3]
              go_wp2_with (first
                            |(go_at_call 33;go_must(refine(bwithin_any _ _ _ _).mono ?_);rintro e wq ⟨rfl,rfl⟩)
                            |(go_at_call 23;go_must(refine(r5IsDay_any _ _).mono ?_);rintro e wq ⟨rfl,rfl⟩)
                            |(go_at_call 34;go_must(refine(bIsNameX_any _ _ (by assumption)).mono ?_);rintro e wq ⟨rfl,rfl⟩;(first|rw[hq1]|rw[hq2]|rw[hq3])))
              all_goals go_meet
              all_goals exact⟨bool_eq (by simp[nameOr, *]),rfl⟩
             ·have hq3:isNameR pl=true:=by rw[<-isName5_same,hp3]
              go_wp2_with (first
                            |(go_at_call 33;go_must(refine(bwithin_any _ _ _ _).mono ?_);rintro e wq ⟨rfl,rfl⟩)
                            |(go_at_call 23;go_must(refine(r5IsDay_any _ _).mono ?_);rintro e wq ⟨rfl,rfl⟩)
                            |(go_at_call 34;go_must(refine(bIsNameX_any _ _ (by assumption)).mono ?_);rintro e wq ⟨rfl,rfl⟩;(first|rw[hq1]|rw[hq2]|rw[hq3])))
              all_goals go_meet
              all_goals exact⟨bool_eq (by simp[nameOr, *]),rfl⟩
            ·have y3:pl.toList.isEmpty=true:=z3
             have w3:pl.toList=[]:=by simpa using y3
             go_wp2_with (first
                           |(go_at_call 33;go_must(refine(bwithin_any _ _ _ _).mono ?_);rintro e wq ⟨rfl,rfl⟩)
                           |(go_at_call 23;go_must(refine(r5IsDay_any _ _).mono ?_);rintro e wq ⟨rfl,rfl⟩)
                           |(go_at_call 34;go_must(refine(bIsNameX_any _ _ (by assumption)).mono ?_);rintro e wq ⟨rfl,rfl⟩;(first|rw[hq1]|rw[hq2]|rw[hq3])))
             all_goals go_meet
             all_goals exact⟨bool_eq (by simp[nameOr, *]),rfl⟩
          ·have y2:ot.toList.isEmpty=true:=z2
           have w2:ot.toList=[]:=by simpa using y2
           cases z3:noB pl
           ·have y3:pl.toList.isEmpty=false:=z3
            have w3: ¬pl.toList=[]:=by simpa using y3
            cases hp3:isNameP pl
            ·have hq3:isNameR pl=false:=by rw[<-isName5_same,hp3]
             go_wp2_with (first
                           |(go_at_call 33;go_must(refine(bwithin_any _ _ _ _).mono ?_);rintro e wq ⟨rfl,rfl⟩)
                           |(go_at_call 23;go_must(refine(r5IsDay_any _ _).mono ?_);rintro e wq ⟨rfl,rfl⟩)
                           |(go_at_call 34;go_must(refine(bIsNameX_any _ _ (by assumption)).mono ?_);rintro e wq ⟨rfl,rfl⟩;(first|rw[hq1]|rw[hq2]|rw[hq3])))
             all_goals go_meet
             all_goals exact⟨bool_eq (by simp[nameOr, *]),rfl⟩
            ·have hq3:isNameR pl=true:=by rw[<-isName5_same,hp3]
             go_wp2_with (first
                           |(go_at_call 33;go_must(refine(bwithin_any _ _ _ _).mono ?_);rintro e wq ⟨rfl,rfl⟩)
                           |(go_at_call 23;go_must(refine(r5IsDay_any _ _).mono ?_);rintro e wq ⟨rfl,rfl⟩)
                           |(go_at_call 34;go_must(refine(bIsNameX_any _ _ (by assumption)).mono ?_);rintro e wq ⟨rfl,rfl⟩;(first|rw[hq1]|rw[hq2]|rw[hq3])))
             all_goals go_meet
             all_goals exact⟨bool_eq (by simp[nameOr, *]),rfl⟩
           ·have y3:pl.toList.isEmpty=true:=z3
            have w3:pl.toList=[]:=by simpa using y3
            go_wp2_with (first
                          |(go_at_call 33;go_must(refine(bwithin_any _ _ _ _).mono ?_);rintro e wq ⟨rfl,rfl⟩)
                          |(go_at_call 23;go_must(refine(r5IsDay_any _ _).mono ?_);rintro e wq ⟨rfl,rfl⟩)
                          |(go_at_call 34;go_must(refine(bIsNameX_any _ _ (by assumption)).mono ?_);rintro e wq ⟨rfl,rfl⟩;(first|rw[hq1]|rw[hq2]|rw[hq3])))
            all_goals go_meet
            all_goals exact⟨bool_eq (by simp[nameOr, *]),rfl⟩
        ·have y1:nm.toList.isEmpty=true:=z1
         have w1:nm.toList=[]:=by simpa using y1
         cases z2:noB ot
         ·have y2:ot.toList.isEmpty=false:=z2
          have w2: ¬ot.toList=[]:=by simpa using y2
          cases hp2:isNameP ot
          ·have hq2:isNameR ot=false:=by rw[<-isName5_same,hp2]
           go_wp2_with (first
                         |(go_at_call 33;go_must(refine(bwithin_any _ _ _ _).mono ?_);rintro e wq ⟨rfl,rfl⟩)
                         |(go_at_call 23;go_must(refine(r5IsDay_any _ _).mono ?_);rintro e wq ⟨rfl,rfl⟩)
                         |(go_at_call 34;go_must(refine(bIsNameX_any _ _ (by assumption)).mono ?_);rintro e wq ⟨rfl,rfl⟩;(first|rw[hq1]|rw[hq2]|rw[hq3])))
           all_goals go_meet
           all_goals exact⟨bool_eq (by simp[nameOr, *]),rfl⟩
          ·have hq2:isNameR ot=true:=by rw[<-isName5_same,hp2]
           cases z3:noB pl
           ·have y3:pl.toList.isEmpty=false:=z3
            have w3: ¬pl.toList=[]:=by simpa using y3
            cases hp3:isNameP pl
            ·have hq3:isNameR pl=false:=by rw[<-isName5_same,hp3]
             go_wp2_with (first
                           |(go_at_call 33;go_must(refine(bwithin_any _ _ _ _).mono ?_);rintro e wq ⟨rfl,rfl⟩)
                           |(go_at_call 23;go_must(refine(r5IsDay_any _ _).mono ?_);rintro e wq ⟨rfl,rfl⟩)
                           |(go_at_call 34;go_must(refine(bIsNameX_any _ _ (by assumption)).mono ?_);rintro e wq ⟨rfl,rfl⟩;(first|rw[hq1]|rw[hq2]|rw[hq3])))
             all_goals go_meet
             all_goals exact⟨bool_eq (by simp[nameOr, *]),rfl⟩
            ·have hq3:isNameR pl=true:=by rw[<-isName5_same,hp3]
             go_wp2_with (first
                           |(go_at_call 33;go_must(refine(bwithin_any _ _ _ _).mono ?_);rintro e wq ⟨rfl,rfl⟩)
                           |(go_at_call 23;go_must(refine(r5IsDay_any _ _).mono ?_);rintro e wq ⟨rfl,rfl⟩)
                           |(go_at_call 34;go_must(refine(bIsNameX_any _ _ (by assumption)).mono ?_);rintro e wq ⟨rfl,rfl⟩;(first|rw[hq1]|rw[hq2]|rw[hq3])))
             all_goals go_meet
             all_goals exact⟨bool_eq (by simp[nameOr, *]),rfl⟩
           ·have y3:pl.toList.isEmpty=true:=z3
            have w3:pl.toList=[]:=by simpa using y3
            go_wp2_with (first
                          |(go_at_call 33;go_must(refine(bwithin_any _ _ _ _).mono ?_);rintro e wq ⟨rfl,rfl⟩)
                          |(go_at_call 23;go_must(refine(r5IsDay_any _ _).mono ?_);rintro e wq ⟨rfl,rfl⟩)
                          |(go_at_call 34;go_must(refine(bIsNameX_any _ _ (by assumption)).mono ?_);rintro e wq ⟨rfl,rfl⟩;(first|rw[hq1]|rw[hq2]|rw[hq3])))
            all_goals go_meet
            all_goals exact⟨bool_eq (by simp[nameOr, *]),rfl⟩
         ·have y2:ot.toList.isEmpty=true:=z2
          have w2:ot.toList=[]:=by simpa using y2
          cases z3:noB pl
          ·have y3:pl.toList.isEmpty=false:=z3
           have w3: ¬pl.toList=[]:=by simpa using y3
           cases hp3:isNameP pl
           ·have hq3:isNameR pl=false:=by rw[<-isName5_same,hp3]
            go_wp2_with (first
                          |(go_at_call 33;go_must(refine(bwithin_any _ _ _ _).mono ?_);rintro e wq ⟨rfl,rfl⟩)
                          |(go_at_call 23;go_must(refine(r5IsDay_any _ _).mono ?_);rintro e wq ⟨rfl,rfl⟩)
                          |(go_at_call 34;go_must(refine(bIsNameX_any _ _ (by assumption)).mono ?_);rintro e wq ⟨rfl,rfl⟩;(first|rw[hq1]|rw[hq2]|rw[hq3])))
            all_goals go_meet
            all_goals exact⟨bool_eq (by simp[nameOr, *]),rfl⟩
           ·have hq3:isNameR pl=true:=by rw[<-isName5_same,hp3]
            go_wp2_with (first
                          |(go_at_call 33;go_must(refine(bwithin_any _ _ _ _).mono ?_);rintro e wq ⟨rfl,rfl⟩)
                          |(go_at_call 23;go_must(refine(r5IsDay_any _ _).mono ?_);rintro e wq ⟨rfl,rfl⟩)
                          |(go_at_call 34;go_must(refine(bIsNameX_any _ _ (by assumption)).mono ?_);rintro e wq ⟨rfl,rfl⟩;(first|rw[hq1]|rw[hq2]|rw[hq3])))
            all_goals go_meet
            all_goals exact⟨bool_eq (by simp[nameOr, *]),rfl⟩
          ·have y3:pl.toList.isEmpty=true:=z3
           have w3:pl.toList=[]:=by simpa using y3
           go_wp2_with (first
                         |(go_at_call 33;go_must(refine(bwithin_any _ _ _ _).mono ?_);rintro e wq ⟨rfl,rfl⟩)
                         |(go_at_call 23;go_must(refine(r5IsDay_any _ _).mono ?_);rintro e wq ⟨rfl,rfl⟩)
                         |(go_at_call 34;go_must(refine(bIsNameX_any _ _ (by assumption)).mono ?_);rintro e wq ⟨rfl,rfl⟩;(first|rw[hq1]|rw[hq2]|rw[hq3])))
           all_goals go_meet
           all_goals exact⟨bool_eq (by simp[nameOr, *]),rfl⟩
       case rest=>
        obtain⟨rfl,rfl⟩:=hcut
        cases hn9:(!nameOr nm||!nameOr ot||!nameOr pl)
        ·have hk4:0<=kd/\kd<=4:=by
          unfold inR at hk9
          simpa using hk9
         have HRT:=Lib.hid (fun W=>rRight_any ⟨kd,nm,ot,pl,dy,tl,nu,de⟩ W hk4)
         unfold Rec.v at HRT
         cases hrt:rightRP ⟨kd,nm,ot,pl,dy,tl,nu,de⟩
         ·have HE:Hid (R=3):=by show _=_;rw[HX2.out];simp[rRecP,hk9,hd1,hd2,hn9,hrt]
          rw[hrt]at HRT
          go_wp2_with (go_at_call 35;go_must(refine(HRT.out _).mono ?_);rintro e wq ⟨rfl,z,rfl⟩)
          go_ret
          exact Ret.of (int_eq (by rw[HE.out])) (HB.out.trans (Below.mono (B:=wr.heap.size) (B_ext HBZ.out z) HB.out.size))
         ·rw[hrt]at HRT
          by_cases h44:kd=4
          ·subst h44
           by_cases hto:tl<=dy
           ·have HE:Hid (R=9):=by show _=_;rw[HX2.out];simp[rRecP,hk9,hd1,hd2,hn9,hrt,hto]
            go_wp2_with (go_at_call 35;go_must(refine(HRT.out _).mono ?_);rintro e wq ⟨rfl,z,rfl⟩)
            go_ret
            exact Ret.of (int_eq (by rw[HE.out])) (HB.out.trans (Below.mono (B:=wr.heap.size) (B_ext HBZ.out z) HB.out.size))
           ·have HE:Hid (R=firstErr checkRecP (l.drop (k+1))):=by show _=_;rw[HX2.out];simp[rRecP,hk9,hd1,hd2,hn9,hrt,hto]
            go_wp2_with (go_at_call 35;go_must(refine(HRT.out _).mono ?_);rintro e wq ⟨rfl,z,rfl⟩)
            go_round
            case rel=>exact⟨k+1,HLT.out,by go_num,HE.out,HB.out.trans (Below.mono (B:=wr.heap.size) (B_ext HBZ.out z) HB.out.size)⟩
            case measure=>have:=HLT.out;simp only[intOf];omega
          ·have h45:(kd==4)=false:=by simpa using h44
           have HE:Hid (R=firstErr checkRecP (l.drop (k+1))):=by show _=_;rw[HX2.out];simp[rRecP,hk9,hd1,hd2,hn9,hrt,h45]
           go_wp2_with (go_at_call 35;go_must(refine(HRT.out _).mono ?_);rintro e wq ⟨rfl,z,rfl⟩)
           go_round
           case rel=>exact⟨k+1,HLT.out,by go_num,HE.out,HB.out.trans (Below.mono (B:=wr.heap.size) (B_ext HBZ.out z) HB.out.size)⟩
           case measure=>have:=HLT.out;simp only[intOf];omega
        ·have HE:Hid (R=4):=by show _=_;rw[HX2.out];simp[rRecP,hk9,hd1,hd2,hn9]
         go_wp2_with fail
         go_ret
         exact Ret.of (int_eq (by rw[HE.out])) (HB.out.trans (Below.mono (B:=wr.heap.size) HBZ.out HB.out.size))
   ·have hki: ¬(k:Int)<(l.length:Int):=by omega
    have hx:=HX.out
    rw[List.drop_of_length_le (by omega),firstErr]at hx
    have HE:=Lib.hid hx
    have HB:=Lib.hid hB
    clear hx hB
    go_wp2_with fail
    go_ret
    exact Ret.of (int_eq (by rw[HE.out])) (HB.out.trans (Below.mono (B:=wr.heap.size) Bw HB.out.size))
end Go.Proofs.YtkhkhnellekofaaGreatDoor
