/- Plain: what LeastDispute tells of records that are refused, too many, or without contradiction. -/
import Derived.Test.YtkhkhnellekofaaGreatDoorUR
import Derived.Test.YtkhkhnellekofaaGreatDoorOE
import Derived.Test.YtkhkhnellekofaaGreatDoorUP
import Derived.Test.YtkhkhnellekofaaGreatDoorRB
import Derived.Test.YtkhkhnellekofaaGreatDoorRP
import Derived.Test.YtkhkhnellekofaaGreatDoorA3
set_option linter.unusedSimpArgs false
set_option linter.unusedVariables false
namespace Go.Proofs.YtkhkhnellekofaaGreatDoor
open Go.RowKit Go.Shelf
attribute [local go_sem] World.cell?_alloc_mark ext_size ext_cell ext_frozen lt_add_r lt_add_r2 lt_add_r3 lt_add_r4 lt_add_r5 lt_add_r6 lt_add_r7 lt_add_r8
attribute [local go_sem] ext_setCell alloc_setCell_lt
noncomputable def dispErr (l:List Rec):Int:=if checkRecsP l != 0 then checkRecsP l else if contraP l then 0 else 12
def DispPost (w:World) (E:Int) (D:List Nat) (e:Ending) (w':World):Prop:=
 ∃v,e= .returned (.tuple #[v, .int .i64 E])/\OwnS w' w.heap.size 3 1 intC v D/\Below w.heap.size w w'
set_option maxRecDepth 100000 in
set_option maxHeartbeats 2000000 in
theorem dispute_any (l:List Rec) (A:Option Addr) (c:Nat) (w:World) (hc:l.length<=c) (hz:recLens l) (hS:Sl w 8 Rec.cells A l):
 Calls Tryz.prog 13 #[.slice A l.length c] w (DispPost w (dispErr l) (if dispErr l=0 then dispP l else[])):=by
 have HCK:=Lib.hid (fun W (hB:Below w.heap.size w W)=>checkRecords_any l A l.length c W rfl hc hz (hS.keep hB))
 by_cases h0:checkRecsP l=0
 ·have hok:=recs_ok h0
  have HOK:=Lib.hid hok.2
  have hl:l.length<=1000:=by have:=hok.1;omega
  rw[h0]at HCK
  have HCT:=Lib.hid (fun W (hB:Below w.heap.size w W)=>contradicts_any l A c W hc hl hok.2 (hS.keep hB))
  cases hcp:contraP l
  ·have he:dispErr l=12:=by unfold dispErr;rw[if_neg (by simp[h0]),hcp];rfl
   rw[he,if_neg (by decide)]
   rw[hcp]at HCT
   clear h0 hcp he hok hS hz
   go_enter Tryz.func13,Tryz.ntmps13
   go_wp2_with (first
    |(go_at_call 18;go_must(refine(HCK.out _ Bw).mono ?_);rintro e wq ⟨rfl,z0,rfl⟩)
    |(go_at_call 38;go_must(refine(HCT.out _ Bw).mono ?_);rintro e wq ⟨rfl,z1,rfl⟩))
   go_ret2
   exact⟨_,rfl,OwnS.nil,Bw⟩
  ·have he:dispErr l=0:=by unfold dispErr;rw[if_neg (by simp[h0]),hcp];rfl
   rw[he,if_pos rfl]
   rw[hcp]at HCT
   have HLESS:=Lib.hid (fun(st:List Nat) (SA:Option Addr) (sc i:Nat) W (hi:i<st.length) (hl2:st.length<=1000) (_:st.length<=sc) (hT:Sl W 1 intC SA st) (_:Below w.heap.size w W)=>without_any st SA sc i W hl2 hi hT)
   have HOF2:=Lib.hid (fun(m:List Nat) W (VA:Option Addr) vc (hv:m.length<=vc) (hm:m.length<=1000) (hin: ∀x∈m,x<l.length) (h:Sl W 1 intC VA m) (hW:Below w.heap.size w W)=>some_any l m A c VA vc W hc hv hm hin (hS.keep hW) h)
   have HCO:=Lib.hid (fun(m:List Nat) W VA vc (hm:m.length<=1000) (hv:(ofP l m).length<=vc) (h:Sl W 8 Rec.cells VA (ofP l m))=>contradicts_any (ofP l m) VA vc W hv (by have:=of_len l m;omega) (fun x hx=>HOK.out x (of_mem x hx)) h)
   obtain⟨D,hD⟩: ∃D,D=dispP l:=⟨_,rfl⟩
   rw[<-hD]
   have HD:=Lib.hid hD
   clear hS hok hD h0 hcp he hz
   go_enter Tryz.func13,Tryz.ntmps13
   go_upto_region 8 with(first
    |(go_at_call 18;go_must(refine(HCK.out _ Bw).mono ?_);rintro e wq ⟨rfl,z0,rfl⟩)
    |(go_at_call 38;go_must(refine(HCT.out _ Bw).mono ?_);rintro e wq ⟨rfl,z1,rfl⟩))
   have hb0:Below w.heap.size w ((w.ext z0).ext z1):=Bw
   generalize(w.ext z0).ext z1=W0 at*
   have HB0:=Lib.hid hb0
   clear hb0 HCK HCT
   go_loopw [5,19] (fun v i wr=> ∃k:Nat,k<=l.length/\i= .int .i64 k/\OwnS wr w.heap.size 3 1 intC v (List.range k)/\Below w.heap.size w wr) (fun _ i _=>l.length-(intOf i).toNat)
   case atStart=>exact⟨0,Nat.zero_le _,rfl,OwnS.nil,HB0.out⟩
   case round=>
    obtain⟨k,hk,rfl,hown,hB⟩:=hrel
    have HO:=Lib.hid hown
    have HB:=Lib.hid hB
    have hbs:=hB.size
    obtain⟨VA,vc,hv,_,hvc⟩:=hown.sl intC_len
    rw[List.length_range]at hv hvc
    subst hv
    by_cases hlt:k<l.length
    ·have HLT:=Lib.hid hlt
     have hki:(k:Int)<(l.length:Int):=by omega
     clear hown hB
     go_wp2_with (at_builtin
                  go_loud(refine wpList_append_S (v:= .slice VA k vc) (n:=k) (m:=1) rfl _ _ rfl elInt intC_len intC_one rfl (xs:=List.range k) (ys:=[k]) (HO.out.keep (n:=wr.heap.size) Bw) List.length_range rfl rfl (sl_int (J_new _ _ _ rfl)) (by simp[maxLen];omega) (by omega) (by simp;omega) ?_)
                  intro v3 w3 h1 h2 h3
                  have hb3:=Below.grown (B:=w.heap.size) (a:=w) (HB.out.trans (Below.mono (B:=wr.heap.size) (B_alloc (Below.refl _ _) _) hbs)) h2 (by simp;omega) (fun j hj=>(HO.out.ge j hj).1)
                  have H1:=Lib.hid h1
                  have HB3:=Lib.hid hb3
                  clear h1 h2 h3 hb3)
     go_round
     case rel=>exact⟨k+1,HLT.out,by go_num,by rw[List.range_succ];exact H1.out,HB3.out⟩
     case measure=>have:=HLT.out;simp only[intOf];omega
    ·have hki: ¬(k:Int)<(l.length:Int):=by omega
     obtain rfl:k=l.length:=by omega
     clear hown hB hlt
     go_upto_region 13 with fail
     go_loopw [5,7] (fun v i wr=> ∃(f k:Nat) (st:List Nat),i= .int .i64 k/\(∀x∈st,x<l.length)/\st.length<=l.length/\st.length-k<=f/\OwnS wr w.heap.size 3 1 intC v st/\Below w.heap.size w wr/\Hid (D=dispGo l f st k)) (fun v i _=>lenV v-(intOf i).toNat)
     case atStart=>exact⟨l.length,0,List.range l.length,rfl,fun x hx=>List.mem_range.1 hx,by simp,by simp,HO.out,HB.out,HD.out⟩
     case round=>
      obtain⟨f,k,st,rfl,hin,hsl,hf,hown,hB,HX⟩:=hrel
      obtain⟨SA,sc,rfl,hss,hvc⟩:=hown.sl intC_len
      by_cases hlt:k<st.length
      ·have HLT:=Lib.hid hlt
       have HSL:Hid (st.length<=1000):=by show _<=_;omega
       have HSL2:Hid ((st.eraseIdx k).length<=1000):=by show _<=_;have:=List.length_eraseIdx_le (l:=st) (i:=k);omega
       have HSL3:Hid ((st.eraseIdx k).length<=l.length):=by show _<=_;have:=List.length_eraseIdx_le (l:=st) (i:=k);omega
       have HEQ:Hid ((st.eraseIdx k).length+1=st.length):=by show _=_;rw[List.length_eraseIdx_of_lt hlt];omega
       have HIN2:Hid (∀x∈st.eraseIdx k,x<l.length):=fun x hx=>hin x ((List.eraseIdx_sublist st k).subset hx)
       have HIN:=Lib.hid hin
       have SS:=Lib.hid hss
       have HO2:=Lib.hid hown
       have HB:=Lib.hid hB
       have hbs:=hB.size
       have hki:(k:Int)<(st.length:Int):=by omega
       have hk0:(0:Int)<=(k:Int):=by omega
       cases hce:contraP (ofP l (st.eraseIdx k))
       ·obtain⟨g,hg,hgf⟩:=disp_on hlt hf hce
        have HX2:=Lib.hid (HX.out.trans hg)
        have HGF:=Lib.hid hgf
        have HCE:=Lib.hid hce
        clear hce hg hgf hf hown hB hss hlt hin HX
        go_wp2_with (first
                      |(go_at_call 43;go_must(refine(HLESS.out st SA sc k _ HLT.out HSL.out hvc (SS.out.keep (n:=wr.heap.size) Bw) (by have:=HB.out;repeat(first|exact B_refl|exact Below.refl _ _|assumption|with_reducible refine B_alloc ?_ _|with_reducible refine B_ext ?_ _|with_reducible refine B_drew ?_|with_reducible refine B_drewN ?_ _|with_reducible refine B_set ?_ (by simp;omega) _))).mono ?_);rintro e w4 ⟨v4,rfl,o4,b4⟩;have b4':=HB.out.trans (Below.mono (B:=wr.heap.size) b4 hbs);obtain⟨A4,c4,rfl,s4,hc4⟩:=o4.sl intC_len)
                      |(go_at_call 39;go_must(refine(HOF2.out _ _ A4 c4 hc4 HSL2.out HIN2.out s4 b4').mono ?_);rintro e w5 ⟨v5,rfl,o5,b5⟩;have b2:=b4'.trans (b5.mono b4'.size);obtain⟨A5,c5,rfl,s5,hc5⟩:=o5.sl recC_len)
                      |(go_at_call 38;go_must(refine(HCO.out _ _ A5 c5 HSL2.out hc5 s5).mono ?_);rw[HCE.out];rintro e w6 ⟨rfl,z6,rfl⟩))
        go_round
        case rel=>exact⟨g,k+1,st,by go_num,HIN.out,hsl,HGF.out,HO2.out.keep (b4.trans ((B_ext b5 _).mono b4.size)),B_ext b2 _,HX2.out⟩
        case measure=>have:=HLT.out;simp only[intOf,lenV];omega
       ·obtain⟨g,hg,hgf⟩:=disp_cut hlt hf hce
        have HX2:=Lib.hid (HX.out.trans hg)
        have HGF:=Lib.hid hgf
        have HCE:=Lib.hid hce
        clear hce hg hgf hf hown hB hss hlt hin HX
        go_wp2_with (first
                      |(go_at_call 43;go_must(refine(HLESS.out st SA sc k _ HLT.out HSL.out hvc (SS.out.keep (n:=wr.heap.size) Bw) (by have:=HB.out;repeat(first|exact B_refl|exact Below.refl _ _|assumption|with_reducible refine B_alloc ?_ _|with_reducible refine B_ext ?_ _|with_reducible refine B_drew ?_|with_reducible refine B_drewN ?_ _|with_reducible refine B_set ?_ (by simp;omega) _))).mono ?_);rintro e w4 ⟨v4,rfl,o4,b4⟩;have b4':=HB.out.trans (Below.mono (B:=wr.heap.size) b4 hbs);obtain⟨A4,c4,rfl,s4,hc4⟩:=o4.sl intC_len)
                      |(go_at_call 39;go_must(refine(HOF2.out _ _ A4 c4 hc4 HSL2.out HIN2.out s4 b4').mono ?_);rintro e w5 ⟨v5,rfl,o5,b5⟩;have b2:=b4'.trans (b5.mono b4'.size);obtain⟨A5,c5,rfl,s5,hc5⟩:=o5.sl recC_len)
                      |(go_at_call 38;go_must(refine(HCO.out _ _ A5 c5 HSL2.out hc5 s5).mono ?_);rw[HCE.out];rintro e w6 ⟨rfl,z6,rfl⟩))
        go_round
        case rel=>exact⟨g,k,st.eraseIdx k,by go_num,HIN2.out,HSL3.out,HGF.out,(o4.base_le hbs).keep (B_ext b5 _),B_ext b2 _,HX2.out⟩
        case measure=>have:=HLT.out;have:=HEQ.out;simp only[intOf,lenV];omega
      ·have HRX:=Lib.hid (HX.out.trans (disp_end hlt))
       have hki: ¬(k:Int)<(st.length:Int):=by omega
       have HO2:=Lib.hid hown
       have HB2:=Lib.hid hB
       clear hown hB hlt hss
       go_wp2_with fail
       go_ret2
       exact⟨_,rfl,by rw[HRX.out];exact HO2.out,HB2.out⟩
 ·have he:dispErr l=checkRecsP l:=by unfold dispErr;rw[if_pos (by simpa using h0)]
  rw[he,if_neg h0]
  generalize checkRecsP l=E at*
  clear he hS hz
  go_enter Tryz.func13,Tryz.ntmps13
  go_wp2_with (go_at_call 18;go_must(refine(HCK.out _ Bw).mono ?_);rintro e wq ⟨rfl,z0,rfl⟩)
  go_ret2
  exact⟨_,rfl,OwnS.nil,Bw⟩
end Go.Proofs.YtkhkhnellekofaaGreatDoor
namespace Go.Proofs.YtkhkhnellekofaaGreatDoor
open Go.RowKit Go.Shelf
theorem of_range (l:List Rec):ofP l (List.range l.length)=l:=by
 unfold ofP
 apply List.ext_getElem?
 intro k
 have:(List.range l.length).filterMap (fun i=>l[i]?)=l:=by
  induction l with
  |nil=>rfl
  |cons x l ih=>
   rw[List.length_cons,List.range_succ_eq_map,List.filterMap_cons,List.filterMap_map]
   simp only[List.getElem?_cons_zero]
   congr 1
 rw[this]
theorem disp_set {l:List Rec} (hn:Nonneg l) (hc:contraP l=true):Minimal l (dispP l)/\SetOf l.length (dispP l):=by
 have h:=disp_min hn l.length (List.range l.length) 0 (by simp) (by rw[of_range];exact hc) (fun j hj=>absurd hj (by omega))
 refine⟨h.1,SetOf.sub ⟨List.pairwise_lt_range,fun i hi=>List.mem_range.1 hi⟩ h.2⟩
theorem miss_nats {n:Nat} {ns:List Nat} (h: ∀i∈ns,i<n):missP n (ns.map (fun(k:Nat)=>(k:Int)))=false:=by
 unfold missP
 rw[List.any_eq_false]
 intro x hx
 obtain⟨k,hk,rfl⟩:=List.mem_map.1 hx
 have:=h k hk
 unfold inR
 simp
 omega
theorem dis_go {ns:List Nat}: ∀ {p:Nat},(p::ns).Pairwise (· < ·)->disGo (p:Int) (ns.map (fun(k:Nat)=>(k:Int)))=false:=by
 induction ns with
 |nil=>intro p _;rfl
 |cons x ns ih=>
  intro p h
  have h1:=(List.pairwise_cons.1 h).1 x (by simp)
  have h2:=ih (List.pairwise_cons.1 h).2
  rw[List.map_cons,disGo,h2,Bool.or_false,decide_eq_false_iff_not]
  omega
theorem dis_nats {ns:List Nat} (h:ns.Pairwise (· < ·)):disAt (ns.map (fun(k:Nat)=>(k:Int))) 0=false:=by
 unfold disAt
 rw[List.drop_zero]
 cases ns with
 |nil=>rfl
 |cons p ns=>exact dis_go h
theorem min_b {l:List Rec} {ns:List Nat} (h:Minimal l ns):minB l ns=true:=by
 unfold minB leftOk
 rw[h.1,List.drop_zero,Bool.true_and,List.all_eq_true]
 intro i hi
 rw[h.2 i (List.mem_range.1 hi)]
 rfl
end Go.Proofs.YtkhkhnellekofaaGreatDoor
namespace Go.Proofs.YtkhkhnellekofaaGreatDoor
open Go.RowKit Go.Shelf
theorem sl_ints {w:World} {A:Option Addr} {ns:List Nat} (h:Sl w 1 intC A ns):Sl w 1 zC A (ns.map (fun(k:Nat)=>(k:Int))):=fun hl=>by
 obtain⟨b,off,hA,hb,hc⟩:=h (by simpa using hl)
 refine⟨b,off,hA,hb,fun k x hk j u hu=> ?_⟩
 rw[List.getElem?_map]at hk
 obtain⟨n,hn,rfl⟩:=Option.map_eq_some_iff.1 hk
 exact hc k n hn j u hu
theorem least_err {l:List Rec} (h:checkRecsP l≠0):leastR l=([],checkRecsP l):=by
 unfold leastR
 rw[if_pos (by simpa using h)]
theorem least_large {l:List Rec} (h:checkRecsP l=0) (h12:12<l.length):leastR l=([],8):=by
 unfold leastR
 rw[if_neg (by simp[h]),if_pos (by simpa using h12)]
theorem sorted_sub: ∀(n:Nat) (t:List Nat) (k:Nat),t.Pairwise (· < ·)->(∀i∈t,k<=i/\i<k+n)->t.Sublist (List.range' k n)
 |0,[],_,_,_=>List.nil_sublist _
 |0,x::_,_,_,h=>by have:=h x (by simp);omega
 |n+1,[],_,_,_=>List.nil_sublist _
 |n+1,x::r,k,hp,h=>by
  rw[List.range'_succ]
  have hr:=List.pairwise_cons.1 hp
  have hx:=h x (by simp)
  by_cases e:x=k
  ·subst e
   exact(sorted_sub n r (x+1) hr.2 fun i hi=>by
    have h1:=hr.1 i hi
    have h2:=h i (by simp[hi])
    omega).cons_cons x
  ·exact(sorted_sub n (x::r) (k+1) hp fun i hi=>by
    have h2:=h i hi
    rcases List.mem_cons.1 hi with rfl|hi'
    ·omega
    ·have h1:=hr.1 i hi'
     omega).cons k
theorem none_of {l:List Rec} (hn:Nonneg l) (hc:contraP l=false): ∀t,SetOf l.length t->contraP (ofP l t)=false:=fun t ht=>by
 cases h:contraP (ofP l t)
 ·rfl
 ·have hsub:t.Sublist (List.range l.length):=by
   rw[List.range_eq_range']
   exact sorted_sub l.length t 0 ht.1 fun i hi=>⟨Nat.zero_le _,by have:=ht.2 i hi;omega⟩
  have:=contra_mono (of_sub (l:=l) hsub) (by rw[of_range];exact hn) h
  rw[of_range]at this
  rw[this]at hc
  cases hc
theorem least_got {l:List Rec} (hc:contraP l=true):IsLeast l (leastGo l l.length 1):=by
 refine(least_ref l).2 fun h=> ?_
 have:=(least_ref l).1 h (List.range l.length) ⟨List.pairwise_lt_range,fun i hi=>List.mem_range.1 hi⟩
 rw[of_range,hc]at this
 cases this
end Go.Proofs.YtkhkhnellekofaaGreatDoor
