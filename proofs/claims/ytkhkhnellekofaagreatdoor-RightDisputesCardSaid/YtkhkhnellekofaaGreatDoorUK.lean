/- Walks: short, Mod; the program's Contradicts. -/
import Derived.Test.YtkhkhnellekofaaGreatDoorA3
import Derived.Test.YtkhkhnellekofaaGreatDoorAW
set_option linter.unusedSimpArgs false
set_option linter.unusedVariables false
namespace Go.Proofs.YtkhkhnellekofaaGreatDoor
open Go.RowKit Go.Shelf
attribute [local go_sem] World.cell?_alloc_mark ext_size ext_cell ext_frozen lt_add_r lt_add_r2 lt_add_r3 lt_add_r4 lt_add_r5 lt_add_r6 lt_add_r7 lt_add_r8
attribute [local go_sem] ext_setCell alloc_setCell_lt
def briefRec (x:Rec):Bool:=decide (x.name.size<=20)&&decide (x.other.size<=20)&&decide (x.place.size<=20)
def shortP (l:List Rec) (most:Nat):Bool:=!(decide (most<l.length)&&decide (l.length<=40)||decide (45<l.length))&&l.all briefRec
theorem short_lens {l:List Rec} {most:Nat} (h:shortP l most=true):recLens l/\l.length<=45/\(l.length<=most\/40<l.length):=by
 unfold shortP at h
 simp only[Bool.and_eq_true,Bool.not_eq_true',Bool.or_eq_false_iff,Bool.and_eq_false_iff,decide_eq_false_iff_not,List.all_eq_true]at h
 obtain⟨⟨h1,h2⟩,h3⟩:=h
 refine⟨fun x hx=> ?_,by omega,by omega⟩
 have:=h3 x hx
 unfold briefRec at this
 simp only[Bool.and_eq_true,decide_eq_true_eq]at this
 omega
set_option maxRecDepth 100000 in
set_option maxHeartbeats 2000000 in
theorem short_any (l:List Rec) (most:Nat) (A:Option Addr) (c:Nat) (w:World) (hm:most<=100) (hc:l.length<=c) (hS:Sl w 8 Rec.cells A l):
 Calls Tryz.prog 16 #[.slice A l.length c, .int .i64 most] w (Ret0 w (.bool (shortP l most))):=by
 have HS:=Lib.hid hS
 obtain⟨R,hR⟩: ∃R,R=shortP l most:=⟨_,rfl⟩
 rw[<-hR]
 unfold shortP at hR
 have HC:=Lib.hid hc
 clear hS hc
 go_enter Tryz.func16,Tryz.ntmps16
 by_cases h45:45<l.length
 ·have e1:decide (45<l.length)=true:=decide_eq_true h45
  have HRX:Hid (R=false):=by show _=_;rw[hR,e1];simp
  have g1: ¬(l.length:Int)<=40:=by omega
  have g2:(45:Int)<(l.length:Int):=by omega
  have g3:(most:Int)<(l.length:Int)\/ ¬(most:Int)<(l.length:Int):=by omega
  clear hR e1
  rcases g3 with g3|g3
  ·go_wp2_with fail
   go_ret
   exact⟨by rw[HRX.out];rfl,rfl⟩
  ·go_wp2_with fail
   go_ret
   exact⟨by rw[HRX.out];rfl,rfl⟩
 ·by_cases hmid:most<l.length/\l.length<=40
  ·have HRX:Hid (R=false):=by show _=_;rw[hR,decide_eq_true hmid.1,decide_eq_true hmid.2];simp
   have g1:(most:Int)<(l.length:Int):=by omega
   have g2:(l.length:Int)<=40:=by omega
   clear hR
   go_wp2_with fail
   go_ret
   exact⟨by rw[HRX.out];rfl,rfl⟩
  ·have HR0:Hid (R=(l.drop 0).all briefRec):=by
    show _=_
    rw[hR,decide_eq_false h45,List.drop_zero]
    have:(decide (most<l.length)&&decide (l.length<=40))=false:=by simp;omega
    rw[this]
    rfl
   have g2: ¬(45:Int)<(l.length:Int):=by omega
   have g3:((most:Int)<(l.length:Int)/\ ¬(l.length:Int)<=40)\/ ¬(most:Int)<(l.length:Int):=by omega
   clear hR
   rcases g3 with⟨g3,g4⟩|g3
   ·go_upto_region 4 with fail
    go_loopw [5] (fun i wr=> ∃k:Nat,k<=l.length/\i= .int .i64 k/\w=wr/\Hid (R=(l.drop k).all briefRec)) (fun i _=>l.length-(intOf i).toNat)
    case atStart=>exact⟨0,Nat.zero_le _,rfl,rfl,HR0.out⟩
    case round=>
     obtain⟨k,hk,rfl,rfl,HX⟩:=hrel
     by_cases hlt:k<l.length
     ·obtain⟨b,off,rfl,hb,hcc⟩:=HS.out.at hlt
      have hx:=HX.out
      rw[List.drop_eq_getElem_cons hlt,List.all_cons]at hx
      have HX2:=Lib.hid hx
      have HLT:=Lib.hid hlt
      generalize l[k]=x at*
      obtain⟨kd,nm,ot,pl,dy,tl,nu,de⟩:=x
      have i1:w.cell? ⟨b,off+k*8+1,none⟩=some (.string nm):=hcc 1 _ rfl
      have i2:w.cell? ⟨b,off+k*8+2,none⟩=some (.string ot):=hcc 2 _ rfl
      have i3:w.cell? ⟨b,off+k*8+3,none⟩=some (.string pl):=hcc 3 _ rfl
      have hki:(k:Int)<(l.length:Int):=by omega
      have hk0:(0:Int)<=(k:Int):=by omega
      clear hcc hx hlt
      by_cases l1:20<nm.size
      ·have HRX:Hid (R=false):=by show _=_;rw[HX2.out];unfold briefRec;simp;omega
       have q1:(20:Int)<(nm.size:Int):=by omega
       go_wp2_with fail
       go_ret
       exact⟨by rw[HRX.out];rfl,rfl⟩
      ·have q1: ¬(20:Int)<(nm.size:Int):=by omega
       by_cases l2:20<ot.size
       ·have HRX:Hid (R=false):=by show _=_;rw[HX2.out];unfold briefRec;simp;omega
        have q2:(20:Int)<(ot.size:Int):=by omega
        go_wp2_with fail
        go_ret
        exact⟨by rw[HRX.out];rfl,rfl⟩
       ·have q2: ¬(20:Int)<(ot.size:Int):=by omega
        by_cases l3:20<pl.size
        ·have HRX:Hid (R=false):=by show _=_;rw[HX2.out];unfold briefRec;simp;omega
         have q3:(20:Int)<(pl.size:Int):=by omega
         go_wp2_with fail
         go_ret
         exact⟨by rw[HRX.out];rfl,rfl⟩
        ·have q3: ¬(20:Int)<(pl.size:Int):=by omega
         have HRX:Hid (R=(l.drop (k+1)).all briefRec):=by
          show _=_
          rw[HX2.out]
          have:briefRec ⟨kd,nm,ot,pl,dy,tl,nu,de⟩=true:=by unfold briefRec;simp;omega
          rw[this,Bool.true_and]
         go_wp2_with fail
         go_round
         case rel=>exact⟨k+1,HLT.out,by go_num,by first|exact True.intro|rfl,HRX.out⟩
         case measure=>have:=HLT.out;simp only[intOf];omega
     ·have hki: ¬(k:Int)<(l.length:Int):=by omega
      have hx:=HX.out
      rw[List.drop_of_length_le (by omega),List.all_nil]at hx
      have HRX:=Lib.hid hx
      clear hx
      go_wp2_with fail
      go_ret
      exact⟨by rw[HRX.out];rfl,rfl⟩
   ·go_upto_region 4 with fail
    go_loopw [5] (fun i wr=> ∃k:Nat,k<=l.length/\i= .int .i64 k/\w=wr/\Hid (R=(l.drop k).all briefRec)) (fun i _=>l.length-(intOf i).toNat)
    case atStart=>exact⟨0,Nat.zero_le _,rfl,rfl,HR0.out⟩
    case round=>
     obtain⟨k,hk,rfl,rfl,HX⟩:=hrel
     by_cases hlt:k<l.length
     ·obtain⟨b,off,rfl,hb,hcc⟩:=HS.out.at hlt
      have hx:=HX.out
      rw[List.drop_eq_getElem_cons hlt,List.all_cons]at hx
      have HX2:=Lib.hid hx
      have HLT:=Lib.hid hlt
      generalize l[k]=x at*
      obtain⟨kd,nm,ot,pl,dy,tl,nu,de⟩:=x
      have i1:w.cell? ⟨b,off+k*8+1,none⟩=some (.string nm):=hcc 1 _ rfl
      have i2:w.cell? ⟨b,off+k*8+2,none⟩=some (.string ot):=hcc 2 _ rfl
      have i3:w.cell? ⟨b,off+k*8+3,none⟩=some (.string pl):=hcc 3 _ rfl
      have hki:(k:Int)<(l.length:Int):=by omega
      have hk0:(0:Int)<=(k:Int):=by omega
      clear hcc hx hlt
      by_cases l1:20<nm.size
      ·have HRX:Hid (R=false):=by show _=_;rw[HX2.out];unfold briefRec;simp;omega
       have q1:(20:Int)<(nm.size:Int):=by omega
       go_wp2_with fail
       go_ret
       exact⟨by rw[HRX.out];rfl,rfl⟩
      ·have q1: ¬(20:Int)<(nm.size:Int):=by omega
       by_cases l2:20<ot.size
       ·have HRX:Hid (R=false):=by show _=_;rw[HX2.out];unfold briefRec;simp;omega
        have q2:(20:Int)<(ot.size:Int):=by omega
        go_wp2_with fail
        go_ret
        exact⟨by rw[HRX.out];rfl,rfl⟩
       ·have q2: ¬(20:Int)<(ot.size:Int):=by omega
        by_cases l3:20<pl.size
        ·have HRX:Hid (R=false):=by show _=_;rw[HX2.out];unfold briefRec;simp;omega
         have q3:(20:Int)<(pl.size:Int):=by omega
         go_wp2_with fail
         go_ret
         exact⟨by rw[HRX.out];rfl,rfl⟩
        ·have q3: ¬(20:Int)<(pl.size:Int):=by omega
         have HRX:Hid (R=(l.drop (k+1)).all briefRec):=by
          show _=_
          rw[HX2.out]
          have:briefRec ⟨kd,nm,ot,pl,dy,tl,nu,de⟩=true:=by unfold briefRec;simp;omega
          rw[this,Bool.true_and]
         go_wp2_with fail
         go_round
         case rel=>exact⟨k+1,HLT.out,by go_num,by first|exact True.intro|rfl,HRX.out⟩
         case measure=>have:=HLT.out;simp only[intOf];omega
     ·have hki: ¬(k:Int)<(l.length:Int):=by omega
      have hx:=HX.out
      rw[List.drop_of_length_le (by omega),List.all_nil]at hx
      have HRX:=Lib.hid hx
      clear hx
      go_wp2_with fail
      go_ret
      exact⟨by rw[HRX.out];rfl,rfl⟩
set_option maxRecDepth 100000 in
set_option maxHeartbeats 2000000 in
theorem mod_any (n m:Int) (w:World) (h0:0<m) (h1:m<=100):Calls Tryz.prog 19 #[.int .i64 n, .int .i64 m] w (Ret0 w (.int .i64 (n%m))):=by
 have hz:(m==0)=false:=by simp;omega
 have hz2: ¬m=0:=by omega
 have e1:(n.tmod m).natAbs<m.natAbs:=tmod_lt n m (by omega)
 have w1:IntKind.i64.wrap (n.tmod m)=n.tmod m:=by rw[IntKind.wrap_i64];omega
 have w2:IntKind.i64.wrap (n.tmod m+m)=n.tmod m+m:=by rw[IntKind.wrap_i64];omega
 have e2:(n.tmod m+m).tmod m=n%m:=by
  have hp:0<=n.tmod m+m:=by omega
  rw[Int.tmod_eq_emod_of_nonneg hp,Int.add_emod_right]
  exact(Int.emod_emod_of_dvd _ (Int.dvd_refl m))▸(by
   rw[Int.tmod_eq_emod]
   split
   ·simp
   ·rw[show((m.natAbs:Nat):Int)=m by omega,Int.sub_emod];simp)
 have e3:0<=n%m/\n%m<m:=⟨Int.emod_nonneg _ (by omega),Int.emod_lt_of_pos _ h0⟩
 have w3:IntKind.i64.wrap (n%m)=n%m:=by rw[IntKind.wrap_i64];omega
 clear e1
 go_enter Tryz.func19,Tryz.ntmps19
 go_wp2_with fail
 go_ret
 exact⟨by first|rfl|(simp[*];done),rfl⟩
noncomputable def contraR (l:List Rec):Bool×Int:=if checkRecsP l != 0 then(false,checkRecsP l)else(contraP l,0)
set_option maxRecDepth 100000 in
set_option maxHeartbeats 2000000 in
theorem contraX_any (l:List Rec) (A:Option Addr) (c:Nat) (w:World) (hc:l.length<=c) (hz:recLens l) (hS:Sl w 8 Rec.cells A l):
 Calls Tryz.prog 17 #[.slice A l.length c] w (Ret w (.tuple #[.bool (contraR l).1, .int .i64 (contraR l).2])):=by
 have HCK:=Lib.hid (fun W (hB:Below w.heap.size w W)=>checkRecords_any l A l.length c W rfl hc hz (hS.keep hB))
 obtain⟨R,hR⟩: ∃R,R=contraR l:=⟨_,rfl⟩
 rw[<-hR]
 unfold contraR at hR
 by_cases h0:checkRecsP l=0
 ·have hok:=recs_ok h0
  rw[if_neg (by simp[h0])]at hR
  rw[h0]at HCK
  have HCT:=Lib.hid (fun W (hB:Below w.heap.size w W)=>contradicts_any l A c W hc (by omega) hok.2 (hS.keep hB))
  generalize contraP l=b at*
  have HR:=Lib.hid hR
  clear hR hS hok h0
  go_enter Tryz.func17,Tryz.ntmps17
  go_wp2_with (first
   |(go_at_call 18;go_must(refine(HCK.out _ Bw).mono ?_);rintro e wq ⟨rfl,z,rfl⟩)
   |(go_at_call 38;go_must(refine(HCT.out _ Bw).mono ?_);rintro e wq ⟨rfl,z2,rfl⟩))
  go_ret2
  rw[HR.out]
  exact Ret.of rfl Bw
 ·rw[if_pos (by simpa using h0)]at hR
  have HR:=Lib.hid hR
  generalize checkRecsP l=E at*
  clear hR hS
  go_enter Tryz.func17,Tryz.ntmps17
  go_wp2_with (go_at_call 18;go_must(refine(HCK.out _ Bw).mono ?_);rintro e wq ⟨rfl,z,rfl⟩)
  go_ret2
  rw[HR.out]
  exact Ret.of rfl Bw
end Go.Proofs.YtkhkhnellekofaaGreatDoor
