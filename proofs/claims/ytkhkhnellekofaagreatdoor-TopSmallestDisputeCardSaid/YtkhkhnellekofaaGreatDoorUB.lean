/- Walks of the reference's records: IsDay, IsShare, few, right, CheckRecords. -/
import Derived.Test.YtkhkhnellekofaaGreatDoorOE
import Derived.Test.YtkhkhnellekofaaGreatDoorJH
import Derived.Test.YtkhkhnellekofaaGreatDoorRJ
import Derived.Test.YtkhkhnellekofaaGreatDoorA3
import Derived.Test.YtkhkhnellekofaaGreatDoorX0
import Derived.Test.YtkhkhnellekofaaGreatDoorO1
set_option linter.unusedSimpArgs false
set_option linter.unusedVariables false
namespace Go.Proofs.YtkhkhnellekofaaGreatDoor
open Go.RowKit Go.Shelf
attribute [local go_sem] World.cell?_alloc_mark ext_size ext_cell ext_frozen lt_add_r lt_add_r2 lt_add_r3 lt_add_r4 lt_add_r5 lt_add_r6 lt_add_r7 lt_add_r8
attribute [local go_sem] ext_setCell alloc_setCell_lt
set_option maxRecDepth 100000 in
set_option maxHeartbeats 2000000 in
theorem hasText_any (xs:List ByteArray) (s:ByteArray) (A:Option Addr) (c:Nat) (w:World) (hl:xs.length<=100000) (hc:xs.length<=c) (hS:Sl w 1 sC A xs):
 Calls Tryz.prog 73 #[.slice A xs.length c, .string s] w (Ret0 w (.bool (xs.any (sameB s)))):=by
 have HS:=Lib.hid hS
 obtain⟨R,hR⟩: ∃R,R=(xs.drop 0).any (sameB s):=⟨_,rfl⟩
 rw[show xs.any (sameB s)=R from by rw[hR];rfl]
 have HR:=Lib.hid hR
 clear hS hR
 go_enter Tryz.func73,Tryz.ntmps73
 go_wp2_with fail
 go_loopw [5] (fun i wr=> ∃j:Nat,j<=xs.length/\i= .int .i64 j/\w=wr/\Hid (R=(xs.drop j).any (sameB s))) (fun i _=>xs.length-(intOf i).toNat)
 case atStart=>exact⟨0,Nat.zero_le _,rfl,rfl,HR.out⟩
 case round=>
  obtain⟨j,hj,rfl,rfl,HX⟩:=hrel
  by_cases hlt:j<xs.length
  ·obtain⟨b,off,rfl,hb,hcc⟩:=HS.out.at hlt
   have hx:=HX.out
   rw[List.drop_eq_getElem_cons hlt,List.any_cons]at hx
   have HX2:=Lib.hid hx
   have HLT:=Lib.hid hlt
   generalize xs[j]=x at*
   have x0:w.cell? ⟨b,off+j,none⟩=some (.string x):=by have:=hcc 0 _ rfl;simpa using this
   have hlt2:(j:Int)<(xs.length:Int):=by omega
   have hj0:(0:Int)<=(j:Int):=by omega
   clear hx hcc hlt
   cases he:(x.toList==s.toList)
   ·have he2:sameB s x=false:=by rw[sameB_sym];exact he
    have HE2:=Lib.hid he2
    clear he2
    go_wp2_with fail
    go_round
    case rel=>exact⟨j+1,HLT.out,by go_num,by first|exact True.intro|rfl,by show _=_;rw[HX2.out,HE2.out,Bool.false_or]⟩
    case measure=>have:=HLT.out;simp only[intOf];omega
   ·have he2:sameB s x=true:=by rw[sameB_sym];exact he
    have HE2:=Lib.hid he2
    clear he2
    go_wp2_with fail
    go_ret
    exact⟨by rw[HX2.out,HE2.out,Bool.true_or];rfl,rfl⟩
  ·have hnl: ¬((j:Int)<(xs.length:Int)):=by omega
   have hx:=HX.out
   rw[List.drop_of_length_le (by omega),List.any_nil]at hx
   have HX2:=Lib.hid hx
   clear hx
   go_wp2_with fail
   go_ret
   exact⟨by rw[HX2.out];rfl,rfl⟩
theorem take_keep {α:Type} {a b:List α} {n:Nat} (h:n<=a.length):(a++b).take n=a.take n:=List.take_append_of_le_length h
open Classical in
set_option maxRecDepth 100000 in
set_option maxHeartbeats 2000000 in
theorem rCircle_any (l:List Rec) (A:Option Addr) (c:Nat) (w:World) (hc:l.length<=c) (hl:l.length<=1000) (hS:Sl w 8 Rec.cells A l):
 Calls Tryz.prog 41 #[.slice A l.length c] w (Ret w (.bool (decide (Circle l)))):=by
 have HS:=Lib.hid hS
 clear hS
 obtain⟨R,hR⟩: ∃R,R=decide (Circle l):=⟨_,rfl⟩
 rw[<-hR]
 have HR:=Lib.hid hR
 clear hR
 go_enter Tryz.func41,Tryz.ntmps41
 go_wp2_with fail
 go_loopw [3] (fun i wr=> ∃k:Nat,k<=l.length/\i= .int .i64 k/\Hid (∀(j:Nat) x,j<k->l[j]?=some x->NoRing l x)/\Below w.heap.size w wr) (fun i _=>l.length-(intOf i).toNat)
 case atStart=>exact⟨0,Nat.zero_le _,rfl,fun j x hj=>absurd hj (Nat.not_lt_zero j),Below.refl _ _⟩
 case round=>
  obtain⟨k,hk,rfl,HNR,hB⟩:=hrel
  have hbs:=hB.size
  by_cases hlt:k<l.length
  ·obtain⟨b,off,hA,hb,hcc⟩:=(HS.out.keep hB).at hlt
   have hxk:=List.getElem?_eq_getElem hlt
   have hxm:l[k]∈l:=List.getElem_mem hlt
   obtain⟨x,hx⟩: ∃x,x=l[k]:=⟨_,rfl⟩
   rw[<-hx]at hcc hxk hxm
   have i0:wr.cell? ⟨b,off+k*8,none⟩=some (.int .i64 x.kind):=hcc 0 _ rfl
   have i1:wr.cell? ⟨b,off+k*8+1,none⟩=some (.string x.name):=hcc 1 _ rfl
   have i2:wr.cell? ⟨b,off+k*8+2,none⟩=some (.string x.other):=hcc 2 _ rfl
   have hki:(k:Int)<(l.length:Int):=by omega
   have hk0:(0:Int)<=(k:Int):=by omega
   have hkc:(k:Int)<=(c:Int):=by omega
   have HB:=Lib.hid hB
   have HLT:=Lib.hid hlt
   have HXK:=Lib.hid hxk
   have HXM:=Lib.hid hxm
   subst hA
   clear hcc hx hxk hxm hB
   by_cases hkd:x.kind=2
   ·have HKD:=Lib.hid hkd
    rw[hkd]at i0
    clear hkd
    obtain⟨W1,rfl⟩: ∃W,W=wr:=⟨_,rfl⟩
    have HCS:Hid (Chain l x.other [x.other] 0):=chain_start HXM.out
    have HOWN:Hid (OwnS (W1.alloc (.cells #[.string x.other] 9)) W1.heap.size 9 1 sC (.slice (some ⟨W1.heap.size,0,none⟩) 1 1) [x.other]):= .inr ⟨W1.heap.size,0,1,#[.string x.other],rfl,Nat.le_refl _,J_new _ _ _ rfl,Nat.le_refl _,by simp[maxLen],by simp,fun j u hj=>by
     match j,hj with
     |0,hj=>simpa[sC]using hj
     |j+1,hj=>simp[sC]at hj⟩
    go_upto_region 7 with fail
    go_loopw [4,5] (fun v i wi=> ∃(all:List ByteArray) (m:Nat),OwnS wi W1.heap.size 9 1 sC v all/\m<=all.length/\i= .int .i64 m/\Hid (Chain l x.other all m)/\Hid (x.name∉all.take m)/\Below W1.heap.size W1 wi) (fun _ i _=>l.length+1-(intOf i).toNat)
    case atStart=>exact⟨[x.other],0,HOWN.out,Nat.zero_le _,rfl,HCS.out,by show _∉_;simp,Bw⟩
    case round=>
     obtain⟨all,m,hown,hm,rfl,HCH,HNI,hB1⟩:=hrel
     obtain⟨wi,rfl⟩: ∃W,W=wr:=⟨_,rfl⟩
     have hfew:=chain_few HCH.out
     obtain⟨QA,qc,rfl,hQS,hqc⟩:=hown.sl sC_len
     have j1:wi.cell? ⟨b,off+k*8+1,none⟩=some (.string x.name):=(hB1.cell (p:=⟨b,_,none⟩) hb).trans i1
     have HB1:=Lib.hid hB1
     have HO:=Lib.hid hown
     have hb1:b<wi.heap.size:=Nat.lt_of_lt_of_le hb hB1.size
     by_cases hml:m<all.length
     ·obtain⟨g,o,rfl,hg,hqq⟩:=hQS.at hml
      obtain⟨a,ha⟩: ∃a,a=all[m]:=⟨_,rfl⟩
      have hak:all[m]?=some a:=by rw[ha];exact List.getElem?_eq_getElem hml
      have q0:wi.cell? ⟨g,o+m,none⟩=some (.string a):=by rw[ha];have:=hqq 0 _ rfl;simpa using this
      have hmi:(m:Int)<(all.length:Int):=by omega
      have hm0:(0:Int)<=(m:Int):=by omega
      have HAK:=Lib.hid hak
      have HML:=Lib.hid hml
      clear hqq ha hak hQS hown hB1
      cases he:(a.toList==x.name.toList)
      ·have hne:a≠x.name:=fun e=>by rw[e]at he;simp at he
       have HNI2:Hid (x.name∉all.take (m+1)):=by
        show _∉_
        rw[List.take_add_one,HAK.out]
        simp only[Option.toList_some,List.mem_append,List.mem_singleton,not_or]
        exact⟨HNI.out,fun e=>hne e.symm⟩
       have HCI:Hid (ChainIn l x.other all m 0):=chain_in HCH.out
       clear hne
       go_wp2_with fail
       go_quiet (fail)
       have HO2:=Lib.hid (HO.out.keep (n:=wi.heap.size) (w':=wi.drewN nq) (B_drewN (Below.refl _ _) _))
       have HB2:=Lib.hid (B_drewN HB1.out nq)
       go_upto_region 12 with fail
       go_loopw [4,6] (fun v i wn=> ∃(all2:List ByteArray) (n:Nat),OwnS wn W1.heap.size 9 1 sC v all2/\n<=l.length/\i= .int .i64 n/\Hid (ChainIn l x.other all2 m n)/\Hid (all2[m]?=some a)/\Hid (x.name∉all2.take (m+1))/\m<all2.length/\Below W1.heap.size W1 wn) (fun _ i _=>l.length-(intOf i).toNat)
       case atStart=>exact⟨all,0,HO2.out,Nat.zero_le _,rfl,HCI.out,HAK.out,HNI2.out,hml,HB2.out⟩
       case round=>
        obtain⟨all2,n,hown3,hn,rfl,HCN,HAK3,HNI3,hml3,hB3⟩:=hrel
        obtain⟨wn,rfl⟩: ∃W,W=wr:=⟨_,rfl⟩
        have hfew3:=chain_few HCN.out.toChain
        obtain⟨SA,sc,rfl,hSS,hsc⟩:=hown3.sl sC_len
        have HO3:=Lib.hid hown3
        have HB3:=Lib.hid hB3
        by_cases hnl:n<l.length
        ·obtain⟨b9,off9,hA9,hb9,hcc⟩:=(HS.out.keep (HB.out.trans (hB3.mono hbs))).at hnl
         simp only[Option.some.injEq,Addr.mk.injEq,and_true]at hA9
         obtain⟨rfl,rfl⟩:=hA9
         obtain⟨y,hy⟩: ∃y,y=l[n]:=⟨_,rfl⟩
         rw[<-hy]at hcc
         have HY:=Lib.hid hy
         have y0:wn.cell? ⟨b,off+n*8,none⟩=some (.int .i64 y.kind):=hcc 0 _ rfl
         have y1:wn.cell? ⟨b,off+n*8+1,none⟩=some (.string y.name):=hcc 1 _ rfl
         have y2:wn.cell? ⟨b,off+n*8+2,none⟩=some (.string y.other):=hcc 2 _ rfl
         obtain⟨g3,o3,rfl,hg3,hqq⟩:=hSS.at hml3
         have ha3:all2[m]=a:=by have:=HAK3.out;rw[List.getElem?_eq_getElem hml3]at this;exact Option.some.inj this
         have q3:wn.cell? ⟨g3,o3+m,none⟩=some (.string a):=by have:=hqq 0 _ (by rw[ha3];rfl);simpa using this
         have hni:(n:Int)<(l.length:Int):=by omega
         have hn0:(0:Int)<=(n:Int):=by omega
         have hmi3:(m:Int)<(all2.length:Int):=by omega
         have HNL:=Lib.hid hnl
         have HHT:=Lib.hid (fun W (hW:Below wn.heap.size wn W)=>hasText_any all2 y.other (some ⟨g3,o3,none⟩) sc W (by omega) hsc (hSS.keep hW))
         clear hcc hy hqq hSS hown3 hB3 ha3
         by_cases hyk:y.kind=2
         ·rw[hyk]at y0
          cases hye:(y.name.toList==a.toList)
          ·have hyn: ¬y.name=a:=fun e=>by rw[e]at hye;simp at hye
           have HSK:Hid (ChainIn l x.other all2 m (n+1)):=chain_skip HCN.out hnl (fun a' ha' _ h2=>absurd (by rw[HY.out,h2];have:=HAK3.out;rw[ha']at this;exact Option.some.inj this) hyn)
           clear hyn
           go_wp2_with fail
           (refine wp_region_ext_lit (by kernel_rfl) (by kernel_rfl) ?_
            repeat(first|go_big_quiet_skip|(go_big_quiet_want;go_big_quiet_op;first|go_big_quiet_on|(apply Exists.intro;refine⟨fun _=> ?_,?_⟩;(fail);go_big_quiet_on)))
            refine wpQuiet_nil ?_
            rintro _ ⟨zq,rfl⟩)
           go_wp2_with fail
           go_round
           case rel=>exact⟨all2,n+1,HO3.out.keep (n:=wn.heap.size) Bw,HNL.out,by go_num,HSK.out,HAK3.out,HNI3.out,hml3,HB3.out.trans (Below.mono (B:=wn.heap.size) Bw HB3.out.size)⟩
           case measure=>have:=HNL.out;simp only[intOf];omega
          ·have hyn:y.name=a:=same_iff.1 hye
           cases hin:all2.any (sameB y.other)
           ·have hno:(l[n]'hnl).other∉all2:=fun h=>by rw[<-HY.out]at h;rw[any_same.2 h]at hin;cases hin
            have HAD:Hid (ChainIn l x.other (all2++[y.other]) m (n+1)):=by
             have:=chain_add HCN.out hnl HAK3.out (by rw[<-HY.out];exact hyk) (by rw[<-HY.out];exact hyn) hno
             rw[<-HY.out]at this
             exact this
            have HNI4:Hid (x.name∉(all2++[y.other]).take (m+1)):=by
             show _∉_
             rw[take_keep (by omega)]
             exact HNI3.out
            have HAK4:Hid ((all2++[y.other])[m]?=some a):=by
             show _=_
             rw[List.getElem?_append_left hml3]
             exact HAK3.out
            rw[hin]at HHT
            clear hno hyn hin
            go_wp2_with fail
            (refine wp_region_ext_lit (by kernel_rfl) (by kernel_rfl) ?_
             repeat(first|go_big_quiet_skip|(go_big_quiet_want;go_big_quiet_op;first|go_big_quiet_on|(apply Exists.intro;refine⟨fun _=> ?_,?_⟩;(go_at_call 73;exact quietx0 (HHT.out _ Bw));go_big_quiet_on)))
             refine wpQuiet_nil ?_
             rintro _ ⟨zq,rfl⟩)
            have HO4:=Lib.hid (HO3.out.keep (below_ext wn zq))
            have HB4:=Lib.hid (HB3.out.trans ((below_ext wn zq).mono HB3.out.size))
            have y24:(wn.ext zq).cell? ⟨b,off+n*8+2,none⟩=some (.string y.other):=(ext_cell wn zq b _ hb9).trans y2
            have hb9':b<(wn.ext zq).heap.size:=Nat.lt_of_lt_of_le hb9 (below_ext wn zq).size
            clear y0 y1 y2 q3 hb9
            generalize wn.ext zq=W5 at*
            go_wp2_with (at_builtin
                         go_loud(refine wpList_append_S (v:= .slice (some ⟨g3,o3,none⟩) all2.length sc) (n:=all2.length) (m:=1) rfl _ _ rfl elStr5 sC_len sC_one rfl (xs:=all2) (ys:=[y.other]) (HO4.out.keep (n:=W5.heap.size) Bw) rfl rfl rfl (sl_one (J_new _ _ _ rfl)) (by simp[maxLen];omega) (by omega) (by have:=HB4.out.size;simp;omega) ?_)
                         intro v3 w3 h1 h2 h3
                         have hb3:Below W1.heap.size W1 w3:=Below.grown (B:=W1.heap.size) (a:=W1) (HB4.out.trans (Below.mono (B:=W5.heap.size) Bw HB4.out.size)) h2 (by have:=HB4.out.size;simp;omega) (fun j hj=>(HO4.out.ge j hj).1)
                         have H1:=Lib.hid h1
                         have HB5:=Lib.hid hb3
                         clear h1 h2 h3 hb3)
            go_round
            case rel=>exact⟨all2++[y.other],n+1,H1.out,HNL.out,by go_num,HAD.out,HAK4.out,HNI4.out,by simp;omega,HB5.out⟩
            case measure=>have:=HNL.out;simp only[intOf];omega
           ·have hno:(l[n]'hnl).other∈all2:=by rw[<-HY.out];exact any_same.1 hin
            have HSK:Hid (ChainIn l x.other all2 m (n+1)):=chain_skip HCN.out hnl (fun _ _ _ _=>hno)
            rw[hin]at HHT
            clear hno hyn hin
            go_wp2_with fail
            (refine wp_region_ext_lit (by kernel_rfl) (by kernel_rfl) ?_
             repeat(first|go_big_quiet_skip|(go_big_quiet_want;go_big_quiet_op;first|go_big_quiet_on|(apply Exists.intro;refine⟨fun _=> ?_,?_⟩;(go_at_call 73;exact quietx0 (HHT.out _ Bw));go_big_quiet_on)))
             refine wpQuiet_nil ?_
             rintro _ ⟨zq,rfl⟩)
            go_wp2_with fail
            go_round
            case rel=>exact⟨all2,n+1,HO3.out.keep (n:=wn.heap.size) Bw,HNL.out,by go_num,HSK.out,HAK3.out,HNI3.out,hml3,HB3.out.trans (Below.mono (B:=wn.heap.size) Bw HB3.out.size)⟩
            case measure=>have:=HNL.out;simp only[intOf];omega
         ·have HSK:Hid (ChainIn l x.other all2 m (n+1)):=chain_skip HCN.out hnl (fun _ _ h1 _=>absurd (by rw[HY.out];exact h1) hyk)
          have hyk2:(y.kind==2)=false:=by simpa using hyk
          go_wp2_with fail
          (refine wp_region_ext_lit (by kernel_rfl) (by kernel_rfl) ?_
           repeat(first|go_big_quiet_skip|(go_big_quiet_want;go_big_quiet_op;first|go_big_quiet_on|(apply Exists.intro;refine⟨fun _=> ?_,?_⟩;(fail);go_big_quiet_on)))
           refine wpQuiet_nil ?_
           rintro _ ⟨zq,rfl⟩)
          go_wp2_with fail
          go_round
          case rel=>exact⟨all2,n+1,HO3.out.keep (n:=wn.heap.size) Bw,HNL.out,by go_num,HSK.out,HAK3.out,HNI3.out,hml3,HB3.out.trans (Below.mono (B:=wn.heap.size) Bw HB3.out.size)⟩
          case measure=>have:=HNL.out;simp only[intOf];omega
        ·have hnn:n=l.length:=by omega
         have HN5:Hid (Chain l x.other all2 (m+1)):=by
          have:=HCN.out
          rw[hnn]at this
          exact chain_next this
         have hni: ¬(n:Int)<(l.length:Int):=by omega
         clear hnn hSS hown3 hB3
         go_wp2_with fail
         go_round
         case rel=>exact⟨all2,m+1,HO3.out,hml3,by go_num,HN5.out,HNI3.out,HB3.out⟩
         case measure=>simp only[intOf];omega
      ·have hcx:Circle l:=by
        have e:a=x.name:=same_iff.1 he
        have hm:a∈all:=List.mem_of_getElem? HAK.out
        rw[e]at hm
        exact ring_found HXM.out HKD.out HCH.out hm
       have HRF:Hid (R=true):=by show _=_;rw[HR.out];exact decide_eq_true hcx
       have HBE:=Lib.hid (HB.out.trans (HB1.out.mono hbs))
       clear hcx
       go_wp2_with fail
       go_quiet (fail)
       go_wp2_with fail
       go_ret
       exact Ret.of (bool_eq HRF.out.symm) (HBE.out.trans (Below.mono Bw HBE.out.size))
     ·have hmm:m=all.length:=by omega
      have HNR2:Hid (NoRing l x):=fun _=>by
       have h1:=HCH.out
       have h2:=HNI.out
       rw[hmm]at h1 h2
       rw[List.take_length]at h2
       exact fun h=>h2 ((chain_end h1 x.name).2 h)
      have hmi: ¬(m:Int)<(all.length:Int):=by omega
      clear hmm hQS hown hB1
      go_wp2_with fail
      go_round
      case rel=>
       exact⟨k+1,HLT.out,by go_num,fun j y hj hy=>by
        by_cases e:j=k
        ·subst e
         rw[HXK.out]at hy
         rw[<-Option.some.inj hy]
         exact HNR2.out
        ·exact HNR.out j y (by omega) hy,HB.out.trans (HB1.out.mono hbs)⟩
      case measure=>have:=HLT.out;simp only[intOf];omega
   ·go_wp2_with fail
    go_round
    case rel=>
     exact⟨k+1,HLT.out,by go_num,fun j y hj hy=>by
      by_cases e:j=k
      ·subst e
       rw[HXK.out]at hy
       rw[<-Option.some.inj hy]
       exact fun h=>absurd h hkd
      ·exact HNR.out j y (by omega) hy,HB.out.trans (Below.mono Bw HB.out.size)⟩
    case measure=>have:=HLT.out;simp only[intOf];omega
  ·have hno: ¬Circle l:=no_ring_end fun x hx=>by
    obtain⟨j,hj,e⟩:=List.mem_iff_getElem.1 hx
    exact HNR.out j x (by omega) (by rw[List.getElem?_eq_getElem hj,e])
   have HRF:Hid (R=false):=by show _=_;rw[HR.out];exact decide_eq_false hno
   have hki: ¬(k:Int)<(l.length:Int):=by omega
   have HB:=Lib.hid hB
   clear hno hB
   go_wp2_with fail
   go_ret
   exact Ret.of (bool_eq HRF.out.symm) (HB.out.trans (Below.mono Bw HB.out.size))
end Go.Proofs.YtkhkhnellekofaaGreatDoor
namespace Go.Proofs.YtkhkhnellekofaaGreatDoor
open Go.RowKit Go.Shelf
attribute [local go_sem] World.cell?_alloc_mark ext_size ext_cell ext_frozen lt_add_r lt_add_r2 lt_add_r3 lt_add_r4 lt_add_r5 lt_add_r6 lt_add_r7 lt_add_r8
attribute [local go_sem] ext_setCell alloc_setCell_lt
set_option maxRecDepth 100000 in
set_option maxHeartbeats 2000000 in
theorem r5IsDay_any (n:Int) (w:World):Calls Tryz.prog 23 #[.int .i64 n] w (Ret0 w (.bool (isDayP n))):=by
 go_enter Tryz.func23,Tryz.ntmps23
 go_wp2_with (go_at_call 33;go_must(refine(bwithin_any _ _ _ _).mono ?_);rintro e wq ⟨rfl,rfl⟩)
 go_ret
 exact⟨rfl,rfl⟩
set_option maxRecDepth 100000 in
set_option maxHeartbeats 2000000 in
theorem rIsShare_any (a b:Int) (w:World):Calls Tryz.prog 52 #[.agg #[.int .i64 a, .int .i64 b]] w (Ret w (.bool (isShareP 16 a b))):=by
 go_enter Tryz.func52,Tryz.ntmps52
 by_cases h1:inR b 1 16=true
 ·by_cases h2:inR a 0 b=true
  ·have x1:1<=b/\b<=16:=by simpa[inR]using h1
   have x2:0<=a/\a<=b:=by simpa[inR]using h2
   have g1:a.natAbs<=4611686018427387904:=by omega
   have g2:b.natAbs<=4611686018427387904:=by omega
   have G1:=Lib.hid g1
   have G2:=Lib.hid g2
   have hv:isShareP 16 a b=((Int.gcd a b:Int)==1):=by
    unfold isShareP
    simp only[x1.1,x1.2,x2.1,x2.2,decide_true,Bool.true_and]
    rw[Bool.eq_iff_iff,beq_iff_eq,beq_iff_eq]
    omega
   have HV:=Lib.hid hv
   clear g1 g2 hv x1 x2
   go_wp2_with (first
    |(go_at_call 33;refine(bwithin_any _ _ _ _).mono ?_;rintro e wq ⟨rfl,rfl⟩)
    |(go_at_call 85;refine(rGcd_any _ _ _ G1.out G2.out).mono ?_;rintro e w1 ⟨rfl,z1,rfl⟩))
   all_goals go_ret
   all_goals exact Ret.of (bool_eq (by rw[HV.out])) Bw
  ·have hv:isShareP 16 a b=false:=by
    unfold isShareP
    simp[inR]at h1 h2⊢
    omega
   go_wp2_with (go_at_call 33;refine(bwithin_any _ _ _ _).mono ?_;rintro e wq ⟨rfl,rfl⟩)
   all_goals go_ret
   all_goals exact Ret.of (bool_eq (by rw[hv])) Bw
 ·have hv:isShareP 16 a b=false:=by
   unfold isShareP
   simp[inR]at h1⊢
   omega
  go_wp2_with (go_at_call 33;refine(bwithin_any _ _ _ _).mono ?_;rintro e wq ⟨rfl,rfl⟩)
  all_goals go_ret
  all_goals exact Ret.of (bool_eq (by rw[hv])) Bw
set_option maxRecDepth 100000 in
set_option maxHeartbeats 2000000 in
theorem rFew_any (a b:Int) (w:World):Calls Tryz.prog 64 #[.agg #[.int .i64 a, .int .i64 b]] w (Ret w (.bool (fewRP a b))):=by
 obtain⟨R,hR⟩: ∃R,R=fewRP a b:=⟨_,rfl⟩
 rw[<-hR]
 unfold fewRP at hR
 have hs:=fun W=>rIsShare_any a b W
 generalize isShareP 16 a b=s at*
 have HS:=Lib.hid hs
 have HR:=Lib.hid hR
 clear hs hR
 go_enter Tryz.func64,Tryz.ntmps64
 cases s
 ·go_wp2_with (go_at_call 52;go_must(refine(HS.out _).mono ?_);rintro e wq ⟨rfl,z,rfl⟩)
  go_ret
  exact Ret.of (bool_eq (by rw[HR.out];rfl)) Bw
 ·by_cases h1:0<a
  ·have e1:decide (0<a)=true:=decide_eq_true h1
   have HR2:Hid (R=decide (b<=12)):=by show _=_;rw[HR.out,e1];rfl
   go_wp2_with (go_at_call 52;go_must(refine(HS.out _).mono ?_);rintro e wq ⟨rfl,z,rfl⟩)
   go_ret
   exact Ret.of (bool_eq (by rw[HR2.out])) Bw
  ·have e1:decide (0<a)=false:=decide_eq_false h1
   have HR2:Hid (R=false):=by show _=_;rw[HR.out,e1];rfl
   go_wp2_with (go_at_call 52;go_must(refine(HS.out _).mono ?_);rintro e wq ⟨rfl,z,rfl⟩)
   go_ret
   exact Ret.of (bool_eq (by rw[HR2.out])) Bw
set_option maxRecDepth 100000 in
set_option maxHeartbeats 2000000 in
theorem rRight_any (x:Rec) (w:World) (hk:0<=x.kind/\x.kind<=4):Calls Tryz.prog 35 #[x.v] w (Ret w (.bool (rightRP x))):=by
 obtain⟨R,hR⟩: ∃R,R=rightRP x:=⟨_,rfl⟩
 rw[<-hR]
 have HR:=Lib.hid hR
 clear hR
 obtain⟨kd,nm,ot,pl,dy,tl,nu,de⟩:=x
 have hkk:kd=0\/kd=1\/kd=2\/kd=3\/kd=4:=by
  simp only at hk
  omega
 have HKK:=Lib.hid hkk
 clear hk hkk
 unfold Rec.v
 go_enter Tryz.func35,Tryz.ntmps35
 go_upto_region 1 with fail
 go_cut [3,4]from 5 (fun u v wc=>u= .bool (kd==2)/\v= .bool (kd==3||kd==4)/\Below w.heap.size w wc/\wc.heap[w.heap.size]?=some (.cells #[.int .i64 kd, .string nm, .string ot, .string pl, .int .i64 dy, .int .i64 tl, .int .i64 nu, .int .i64 de] 65))
 case first=>
  rcases HKK.out with rfl|rfl|rfl|rfl|rfl<;>(go_quiet (fail);go_wp2_with fail;go_meet;exact⟨rfl,rfl,Bw,J_new _ _ _ rfl⟩)
 case rest=>
  obtain⟨rfl,rfl,hB,g0⟩:=hcut
  have d0:wc.cell? ⟨w.heap.size,0,none⟩=some (.int .i64 kd):=by simp only[World.cell?,g0];rfl
  have d1:wc.cell? ⟨w.heap.size,1,none⟩=some (.string nm):=by simp only[World.cell?,g0];rfl
  have d2:wc.cell? ⟨w.heap.size,2,none⟩=some (.string ot):=by simp only[World.cell?,g0];rfl
  have d3:wc.cell? ⟨w.heap.size,3,none⟩=some (.string pl):=by simp only[World.cell?,g0];rfl
  have d4:wc.cell? ⟨w.heap.size,4,none⟩=some (.int .i64 dy):=by simp only[World.cell?,g0];rfl
  have d5:wc.cell? ⟨w.heap.size,5,none⟩=some (.int .i64 tl):=by simp only[World.cell?,g0];rfl
  have d6:wc.cell? ⟨w.heap.size,6,none⟩=some (.int .i64 nu):=by simp only[World.cell?,g0];rfl
  have d7:wc.cell? ⟨w.heap.size,7,none⟩=some (.int .i64 de):=by simp only[World.cell?,g0];rfl
  have e0:w.heap.size<wc.heap.size:=blk_lt g0
  have HB:=Lib.hid hB
  clear hB g0
  cases z1:noB nm
  ·have y1:nm.toList.isEmpty=false:=z1
   have w1: ¬nm.toList=[]:=by simpa using y1
   rcases HKK.out with rfl|rfl|rfl|rfl|rfl
   ·cases z2:noB ot
    ·have y2:ot.toList.isEmpty=false:=z2
     have w2: ¬ot.toList=[]:=by simpa using y2
     (go_wp2_with fail
      go_ret
      exact Ret.of (bool_eq (by rw[HR.out];simp[rightRP, *])) (HB.out.trans (Below.mono (B:=wc.heap.size) Bw HB.out.size)))
    ·have y2:ot.toList.isEmpty=true:=z2
     have w2:ot.toList=[]:=by simpa using y2
     cases z3:noB pl
     ·have y3:pl.toList.isEmpty=false:=z3
      have w3: ¬pl.toList=[]:=by simpa using y3
      (go_wp2_with fail
       go_ret
       exact Ret.of (bool_eq (by rw[HR.out];simp[rightRP, *])) (HB.out.trans (Below.mono (B:=wc.heap.size) Bw HB.out.size)))
     ·have y3:pl.toList.isEmpty=true:=z3
      have w3:pl.toList=[]:=by simpa using y3
      by_cases t1:tl=0
      ·by_cases u1:nu=0
       ·by_cases u2:de=0
        ·(go_wp2_with fail
          go_ret
          exact Ret.of (bool_eq (by rw[HR.out];simp[rightRP, *])) (HB.out.trans (Below.mono (B:=wc.heap.size) Bw HB.out.size)))
        ·(go_wp2_with fail
          go_ret
          exact Ret.of (bool_eq (by rw[HR.out];simp[rightRP, *])) (HB.out.trans (Below.mono (B:=wc.heap.size) Bw HB.out.size)))
       ·(go_wp2_with fail
         go_ret
         exact Ret.of (bool_eq (by rw[HR.out];simp[rightRP, *])) (HB.out.trans (Below.mono (B:=wc.heap.size) Bw HB.out.size)))
      ·(go_wp2_with fail
        go_ret
        exact Ret.of (bool_eq (by rw[HR.out];simp[rightRP, *])) (HB.out.trans (Below.mono (B:=wc.heap.size) Bw HB.out.size)))
   ·cases z2:noB ot
    ·have y2:ot.toList.isEmpty=false:=z2
     have w2: ¬ot.toList=[]:=by simpa using y2
     (go_wp2_with fail
      go_ret
      exact Ret.of (bool_eq (by rw[HR.out];simp[rightRP, *])) (HB.out.trans (Below.mono (B:=wc.heap.size) Bw HB.out.size)))
    ·have y2:ot.toList.isEmpty=true:=z2
     have w2:ot.toList=[]:=by simpa using y2
     cases z3:noB pl
     ·have y3:pl.toList.isEmpty=false:=z3
      have w3: ¬pl.toList=[]:=by simpa using y3
      (go_wp2_with fail
       go_ret
       exact Ret.of (bool_eq (by rw[HR.out];simp[rightRP, *])) (HB.out.trans (Below.mono (B:=wc.heap.size) Bw HB.out.size)))
     ·have y3:pl.toList.isEmpty=true:=z3
      have w3:pl.toList=[]:=by simpa using y3
      by_cases t1:tl=0
      ·by_cases u1:nu=0
       ·by_cases u2:de=0
        ·(go_wp2_with fail
          go_ret
          exact Ret.of (bool_eq (by rw[HR.out];simp[rightRP, *])) (HB.out.trans (Below.mono (B:=wc.heap.size) Bw HB.out.size)))
        ·(go_wp2_with fail
          go_ret
          exact Ret.of (bool_eq (by rw[HR.out];simp[rightRP, *])) (HB.out.trans (Below.mono (B:=wc.heap.size) Bw HB.out.size)))
       ·(go_wp2_with fail
         go_ret
         exact Ret.of (bool_eq (by rw[HR.out];simp[rightRP, *])) (HB.out.trans (Below.mono (B:=wc.heap.size) Bw HB.out.size)))
      ·(go_wp2_with fail
        go_ret
        exact Ret.of (bool_eq (by rw[HR.out];simp[rightRP, *])) (HB.out.trans (Below.mono (B:=wc.heap.size) Bw HB.out.size)))
   ·cases z2:noB ot
    ·have y2:ot.toList.isEmpty=false:=z2
     have w2: ¬ot.toList=[]:=by simpa using y2
     cases z3:noB pl
     ·have y3:pl.toList.isEmpty=false:=z3
      have w3: ¬pl.toList=[]:=by simpa using y3
      (go_wp2_with fail
       go_ret
       exact Ret.of (bool_eq (by rw[HR.out];simp[rightRP, *])) (HB.out.trans (Below.mono (B:=wc.heap.size) Bw HB.out.size)))
     ·have y3:pl.toList.isEmpty=true:=z3
      have w3:pl.toList=[]:=by simpa using y3
      by_cases t0:dy=0
      ·by_cases t1:tl=0
       ·by_cases u1:nu=0
        ·by_cases u2:de=0
         ·(go_wp2_with fail
           go_ret
           exact Ret.of (bool_eq (by rw[HR.out];simp[rightRP, *])) (HB.out.trans (Below.mono (B:=wc.heap.size) Bw HB.out.size)))
         ·(go_wp2_with fail
           go_ret
           exact Ret.of (bool_eq (by rw[HR.out];simp[rightRP, *])) (HB.out.trans (Below.mono (B:=wc.heap.size) Bw HB.out.size)))
        ·(go_wp2_with fail
          go_ret
          exact Ret.of (bool_eq (by rw[HR.out];simp[rightRP, *])) (HB.out.trans (Below.mono (B:=wc.heap.size) Bw HB.out.size)))
       ·(go_wp2_with fail
         go_ret
         exact Ret.of (bool_eq (by rw[HR.out];simp[rightRP, *])) (HB.out.trans (Below.mono (B:=wc.heap.size) Bw HB.out.size)))
      ·(go_wp2_with fail
        go_ret
        exact Ret.of (bool_eq (by rw[HR.out];simp[rightRP, *])) (HB.out.trans (Below.mono (B:=wc.heap.size) Bw HB.out.size)))
    ·have y2:ot.toList.isEmpty=true:=z2
     have w2:ot.toList=[]:=by simpa using y2
     (go_wp2_with fail
      go_ret
      exact Ret.of (bool_eq (by rw[HR.out];simp[rightRP, *])) (HB.out.trans (Below.mono (B:=wc.heap.size) Bw HB.out.size)))
   ·cases z2:noB ot
    ·have y2:ot.toList.isEmpty=false:=z2
     have w2: ¬ot.toList=[]:=by simpa using y2
     (go_wp2_with fail
      go_ret
      exact Ret.of (bool_eq (by rw[HR.out];simp[rightRP, *])) (HB.out.trans (Below.mono (B:=wc.heap.size) Bw HB.out.size)))
    ·have y2:ot.toList.isEmpty=true:=z2
     have w2:ot.toList=[]:=by simpa using y2
     cases z3:noB pl
     ·have y3:pl.toList.isEmpty=false:=z3
      have w3: ¬pl.toList=[]:=by simpa using y3
      by_cases t1:tl=0
      ·go_wp2_with (go_at_call 64;go_must(refine(rFew_any _ _ _).mono ?_);rintro e wq ⟨rfl,z,rfl⟩)
       go_ret
       exact Ret.of (bool_eq (by rw[HR.out];simp[rightRP, *])) (HB.out.trans (Below.mono (B:=wc.heap.size) Bw HB.out.size))
      ·(go_wp2_with fail
        go_ret
        exact Ret.of (bool_eq (by rw[HR.out];simp[rightRP, *])) (HB.out.trans (Below.mono (B:=wc.heap.size) Bw HB.out.size)))
     ·have y3:pl.toList.isEmpty=true:=z3
      have w3:pl.toList=[]:=by simpa using y3
      (go_wp2_with fail
       go_ret
       exact Ret.of (bool_eq (by rw[HR.out];simp[rightRP, *])) (HB.out.trans (Below.mono (B:=wc.heap.size) Bw HB.out.size)))
   ·cases z2:noB ot
    ·have y2:ot.toList.isEmpty=false:=z2
     have w2: ¬ot.toList=[]:=by simpa using y2
     (go_wp2_with fail
      go_ret
      exact Ret.of (bool_eq (by rw[HR.out];simp[rightRP, *])) (HB.out.trans (Below.mono (B:=wc.heap.size) Bw HB.out.size)))
    ·have y2:ot.toList.isEmpty=true:=z2
     have w2:ot.toList=[]:=by simpa using y2
     cases z3:noB pl
     ·have y3:pl.toList.isEmpty=false:=z3
      have w3: ¬pl.toList=[]:=by simpa using y3
      by_cases u1:nu=0
      ·by_cases u2:de=0
       ·(go_wp2_with fail
         go_ret
         exact Ret.of (bool_eq (by rw[HR.out];simp[rightRP, *])) (HB.out.trans (Below.mono (B:=wc.heap.size) Bw HB.out.size)))
       ·(go_wp2_with fail
         go_ret
         exact Ret.of (bool_eq (by rw[HR.out];simp[rightRP, *])) (HB.out.trans (Below.mono (B:=wc.heap.size) Bw HB.out.size)))
      ·(go_wp2_with fail
        go_ret
        exact Ret.of (bool_eq (by rw[HR.out];simp[rightRP, *])) (HB.out.trans (Below.mono (B:=wc.heap.size) Bw HB.out.size)))
     ·have y3:pl.toList.isEmpty=true:=z3
      have w3:pl.toList=[]:=by simpa using y3
      (go_wp2_with fail
       go_ret
       exact Ret.of (bool_eq (by rw[HR.out];simp[rightRP, *])) (HB.out.trans (Below.mono (B:=wc.heap.size) Bw HB.out.size)))
  ·have y1:nm.toList.isEmpty=true:=z1
   have w1:nm.toList=[]:=by simpa using y1
   (go_wp2_with fail
    go_ret
    exact Ret.of (bool_eq (by rw[HR.out];simp[rightRP, *])) (HB.out.trans (Below.mono (B:=wc.heap.size) Bw HB.out.size)))
end Go.Proofs.YtkhkhnellekofaaGreatDoor
