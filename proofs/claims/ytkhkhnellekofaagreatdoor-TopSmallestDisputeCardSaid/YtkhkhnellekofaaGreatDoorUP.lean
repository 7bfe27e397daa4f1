/- Sets of numbers that are proofs: the plain law; the reference's CheckSet, Minimal. -/
import Derived.Test.YtkhkhnellekofaaGreatDoorE2
import Derived.Test.YtkhkhnellekofaaGreatDoorE5
import Derived.Test.YtkhkhnellekofaaGreatDoorA3
import Derived.Test.YtkhkhnellekofaaGreatDoorAW
import Derived.Test.YtkhkhnellekofaaGreatDoorUE
import Derived.Test.YtkhkhnellekofaaGreatDoorUB
set_option linter.unusedSimpArgs false
set_option linter.unusedVariables false
namespace Go.Proofs.YtkhkhnellekofaaGreatDoor
open Go.RowKit Go.Shelf
attribute [local go_sem] World.cell?_alloc_mark ext_size ext_cell ext_frozen lt_add_r lt_add_r2 lt_add_r3 lt_add_r4 lt_add_r5 lt_add_r6 lt_add_r7 lt_add_r8
attribute [local go_sem] ext_setCell alloc_setCell_lt
def OwnPost {α:Type} (w:World) (e:TypeId) (size:Nat) (f:α->List Value) (xs:List α) (en:Ending) (w':World):Prop:=
 ∃v,en= .returned v/\OwnS w' w.heap.size e size f v xs/\Below w.heap.size w w'
set_option maxRecDepth 100000 in
set_option maxHeartbeats 2000000 in
theorem copyInts_any (xs:List Nat) (A:Option Addr) (c:Nat) (w:World) (hl:xs.length<=100000) (hS:Sl w 1 intC A xs):
 Calls Tryz.prog 26 #[.slice A xs.length c] w (OwnPost w 3 1 intC xs):=by
 have HS:=Lib.hid hS
 clear hS
 go_enter Tryz.func26,Tryz.ntmps26
 go_wp2_with (at_builtin;refine wpList_append_sl rfl _ _ rfl elInt intC_len intC_one rfl (World.ownsRow_made w #[] 0 (Nat.le_refl _) (Nat.zero_le _) (by simp)) rfl rfl (HS.out.keep Bw) ?q1 ?q2 (by simp) ?_)
 case q1=>simp[maxLen];omega
 case q2=>simp;omega
 intro v' w' h1 h2 h3
 go_wp2_with fail
 go_ret
 refine⟨v',rfl,OwnS.of_own intC_len (by simpa using h1),Below.grown Bw h2 (by simp) (by intro k hk;simp[Value.ownBlock]at hk;omega)⟩
set_option maxRecDepth 100000 in
set_option maxHeartbeats 2000000 in
theorem copyZ_any (xs:List Int) (A:Option Addr) (c:Nat) (w:World) (hl:xs.length<=100000) (hS:Sl w 1 zC A xs):
 Calls Tryz.prog 26 #[.slice A xs.length c] w (OwnPost w 3 1 zC xs):=by
 have HS:=Lib.hid hS
 clear hS
 go_enter Tryz.func26,Tryz.ntmps26
 go_wp2_with (at_builtin;refine wpList_append_sl rfl _ _ rfl elInt zC_len zC_one rfl (World.ownsRow_made w #[] 0 (Nat.le_refl _) (Nat.zero_le _) (by simp)) rfl rfl (HS.out.keep Bw) ?q1 ?q2 (by simp) ?_)
 case q1=>simp[maxLen];omega
 case q2=>simp;omega
 intro v' w' h1 h2 h3
 go_wp2_with fail
 go_ret
 refine⟨v',rfl,OwnS.of_own zC_len (by simpa using h1),Below.grown Bw h2 (by simp) (by intro k hk;simp[Value.ownBlock]at hk;omega)⟩
set_option maxRecDepth 100000 in
set_option maxHeartbeats 2000000 in
theorem rOf_any (l:List Rec) (set:List Nat) (A:Option Addr) (c:Nat) (SA:Option Addr) (sc:Nat) (w:World) (hc:l.length<=c) (hsc:set.length<=sc) (hsl:set.length<=1000) (hin: ∀i∈set,i<l.length) (hS:Sl w 8 Rec.cells A l) (hT:Sl w 1 intC SA set):
 Calls Tryz.prog 44 #[.slice A l.length c, .slice SA set.length sc] w (OwnPost w 65 8 Rec.cells (ofP l set)):=by
 have HS:=Lib.hid hS
 have HT:=Lib.hid hT
 have HIN:=Lib.hid hin
 clear hS hT hin
 go_enter Tryz.func44,Tryz.ntmps44
 go_wp2_with fail
 go_loopw [5,6] (fun v i wr=> ∃k:Nat,k<=set.length/\i= .int .i64 k/\OwnS wr w.heap.size 65 8 Rec.cells v (ofP l (set.take k))/\Below w.heap.size w wr) (fun _ i _=>set.length-(intOf i).toNat)
 case atStart=>exact⟨0,Nat.zero_le _,rfl,OwnS.nil,Below.refl _ _⟩
 case round=>
  obtain⟨k,hk,rfl,hown,hB⟩:=hrel
  obtain⟨VA,vc,rfl,_,hvc⟩:=hown.sl recC_len
  have HO:=Lib.hid hown
  have HB:=Lib.hid hB
  have hbs:=hB.size
  by_cases hlt:k<set.length
  ·obtain⟨b,off,rfl,hb,hcc⟩:=(HT.out.keep hB).at hlt
   have hi:=HIN.out set[k] (List.getElem_mem hlt)
   have hsn:=of_snoc hlt hi
   have i0:wr.cell? ⟨b,off+k,none⟩=some (.int .i64 (set[k]:Int)):=by have:=hcc 0 _ rfl;simpa using this
   have hol:=of_len l (set.take k)
   rw[List.length_take]at hol
   obtain⟨m,hm⟩: ∃m,m=set[k]:=⟨_,rfl⟩
   rw[<-hm]at i0 hi
   have HSN:Hid (ofP l (set.take (k+1))=ofP l (set.take k)++[l[m]]):=by
    show _=_
    rw[hsn]
    simp only[hm]
   clear hcc hsn hm
   obtain⟨rb,roff,rfl,hrb,hrc⟩:=(HS.out.keep hB).at hi
   have HLT:=Lib.hid hlt
   generalize l[m]=x at*
   generalize ofP l (set.take k)=acc at*
   obtain⟨kd,nm,ot,pl,dy,tl,nu,de⟩:=x
   have j0:wr.cell? ⟨rb,roff+m*8,none⟩=some (.int .i64 kd):=hrc 0 _ rfl
   have j1:wr.cell? ⟨rb,roff+m*8+1,none⟩=some (.string nm):=hrc 1 _ rfl
   have j2:wr.cell? ⟨rb,roff+m*8+2,none⟩=some (.string ot):=hrc 2 _ rfl
   have j3:wr.cell? ⟨rb,roff+m*8+3,none⟩=some (.string pl):=hrc 3 _ rfl
   have j4:wr.cell? ⟨rb,roff+m*8+4,none⟩=some (.int .i64 dy):=hrc 4 _ rfl
   have j5:wr.cell? ⟨rb,roff+m*8+5,none⟩=some (.int .i64 tl):=hrc 5 _ rfl
   have j6:wr.cell? ⟨rb,roff+m*8+6,none⟩=some (.int .i64 nu):=hrc 6 _ rfl
   have j7:wr.cell? ⟨rb,roff+m*8+7,none⟩=some (.int .i64 de):=hrc 7 _ rfl
   have hki:(k:Int)<(set.length:Int):=by omega
   have hk0:(0:Int)<=(k:Int):=by omega
   have hkc:(k:Int)<=(sc:Int):=by omega
   have hmi:(m:Int)<(l.length:Int):=by omega
   have hm0:(0:Int)<=(m:Int):=by omega
   have hmc:(m:Int)<=(c:Int):=by omega
   have hal:acc.length<=1000:=by omega
   clear hrc hown hB hol
   go_wp2_with (at_builtin
                go_loud(refine wpList_append_S (v:= .slice VA acc.length vc) (n:=acc.length) (m:=1) rfl _ _ rfl elRec recC_len recC_one rfl (xs:=acc) (ys:=[⟨kd,nm,ot,pl,dy,tl,nu,de⟩]) (HO.out.keep (n:=wr.heap.size) Bw) rfl rfl rfl (sl_rec (J_new _ _ _ rfl)) (by simp[maxLen];omega) (by omega) (by simp;omega) ?_)
                intro v3 w3 h1 h2 h3
                have hb3:=Below.grown (B:=w.heap.size) (a:=w) (HB.out.trans (Below.mono (B:=wr.heap.size) (B_alloc (Below.refl _ _) _) hbs)) h2 (by simp;omega) (fun j hj=>(HO.out.ge j hj).1)
                have H1:=Lib.hid h1
                have HB3:=Lib.hid hb3
                clear h1 h2 h3 hb3)
   go_round
   case rel=>exact⟨k+1,HLT.out,by go_num,by rw[HSN.out];exact H1.out,HB3.out⟩
   case measure=>have:=HLT.out;simp only[intOf];omega
  ·have hki: ¬(k:Int)<(set.length:Int):=by omega
   have hkt:set.take k=set:=List.take_of_length_le (by omega)
   clear hown
   generalize hxs:ofP l (set.take k)=xs at*
   rw[hkt]at hxs
   subst hxs
   clear hkt
   go_wp2_with fail
   go_ret
   exact⟨_,rfl,HO.out,HB.out⟩
theorem sl_part5 {α:Type} {w:World} {f:α->List Value} {b off:Nat} {xs:List α} (h:Sl w 1 f (some ⟨b,off,none⟩) xs) (k:Nat):Sl w 1 f (some ⟨b,off+k,none⟩) (xs.drop k):=fun hl=>by
 rw[List.length_drop]at hl
 obtain⟨b',off',hA,hb,hc⟩:=h (by omega)
 simp only[Option.some.injEq,Addr.mk.injEq,and_true]at hA
 obtain⟨rfl,rfl⟩:=hA
 refine⟨b,off+k,rfl,hb,fun j x hx u v hu=> ?_⟩
 rw[List.getElem?_drop]at hx
 have:=hc (k+j) x hx u v hu
 rw[<-this]
 congr 2
 omega
set_option maxRecDepth 100000 in
set_option maxHeartbeats 2000000 in
theorem less_any (set:List Nat) (A:Option Addr) (c i:Nat) (w:World) (hi:i<set.length) (hc:set.length<=c) (hl:set.length<=1000) (hS:Sl w 1 intC A set):
 Calls Tryz.prog 45 #[.slice A set.length c, .int .i64 i] w (OwnPost w 3 1 intC (set.eraseIdx i)):=by
 obtain⟨b,off,rfl,hb,_⟩:=hS (by omega)
 rw[List.eraseIdx_eq_take_drop_succ]
 have hti:(set.take i).length=i:=by rw[List.length_take];omega
 have HS:=Lib.hid hS
 have HCP:=Lib.hid (fun W (hW:Below w.heap.size w W)=>by
  have:=copyInts_any (set.take i) (some ⟨b,off,none⟩) c W (by omega) ((hS.take i).keep hW)
  rw[hti]at this
  exact this)
 have HSP:=Lib.hid (sl_part5 hS (i+1))
 have h0:(0:Int)<=(i:Int):=by omega
 have h1:(i:Int)<=(c:Int):=by omega
 have h2:(0:Int)<=(i:Int)+1:=by omega
 have h3:(i:Int)+1<=(set.length:Int):=by omega
 have h4:((i:Int)+1).toNat=i+1:=by omega
 have h5:IntKind.i64.wrap ((i:Int)+1)=(i:Int)+1:=by rw[IntKind.wrap_i64];omega
 clear hS
 go_enter Tryz.func45,Tryz.ntmps45
 go_wp2_with fail
 refine wp_region_mark 8 (fun bb w'=>bb=true\/True) (by kernel_rfl) (.inr trivial) ?hrest
 case hrest=>
  have g1:(i:Int)<=(i:Int)+1:=by omega
  have g2:(i:Int)+1<=(c:Int):=by omega
  have HLT9:Hid (set.length-(i+1)=(set.drop (i+1)).length):=by show _=_;simp
  have HTI:=Lib.hid hti
  clear hti
  by_cases hcap:c=i+1
  ·subst hcap
   have hd:set.drop (i+1)=[]:=List.drop_of_length_le (by omega)
   have HD:Hid (∀W,Sl W 1 intC (some ⟨b,off,none⟩) (set.drop (i+1))):=fun W=>by rw[hd];exact Sl.nil
   clear hd
   intro hHeld
   refine TkM 0 ?_
   refine TkM 1 ?_
   refine TkM 2 ?_
   refine TkM 4 ?_
   refine TkM 5 ?_
   refine TkM 6 ?_
   refine TkM 7 ?_
   refine wpAnyM_ready (rs:=[3]) (by kernel_rfl) (by simp) (AllReadyM.cons (List.getElem?_toArray.trans rfl) false (by kernel_rfl) (fun K hK=> ?_) AllReadyM.nil)
   go_simp
   refine(HCP.out _ Bw).mono ?_
   rintro e w1 ⟨v1,rfl,o1,b1⟩
   obtain⟨VA,vc,hv1,_,hvc⟩:=o1.sl intC_len
   rw[HTI.out]at hv1
   subst hv1
   have hbw:Below w.heap.size w w1:=(B_drew (Below.refl _ _)).trans b1
   refine hK.out _ _ ?_ (fun hHeld=> ?_)
   focus((try dsimp only);exact .inr trivial)
   clear hK K
   try simp only[Act.put,List.setIfInBounds_toArray,List.set_cons_zero,List.set_cons_succ]
   refine wpAnyM_ready (rs:=[8]) (by kernel_rfl) (by simp) (AllReadyM.cons (List.getElem?_toArray.trans rfl) true (by kernel_rfl) (fun K hK=> ?_) AllReadyM.nil)
   refine step_append_S (v:= .slice VA i vc) (n:=i) (m:=0) rfl _ _ rfl elInt intC_len intC_one rfl (xs:=set.take i) (ys:=set.drop (i+1)) o1 HTI.out rfl (by rw[<-HLT9.out];omega) (HD.out _) (by simp only[maxLen];omega) (by omega) (by have:=b1.size;simp at this⊢;omega) ?_
   intro v3 w3 h1 h2 h3
   have hb3:Below w.heap.size w w3:=Below.grown hbw h2 hbw.size (fun j hj=>(o1.ge j hj).1)
   have H1:=Lib.hid h1
   have HB3:=Lib.hid hb3
   clear h1 h2 h3 hb3
   refine hK.out _ _ ?_ (fun hHeld=> ?_)
   focus((try dsimp only);exact .inl rfl)
   clear hK K
   try simp only[Act.put,List.setIfInBounds_toArray,List.set_cons_zero,List.set_cons_succ]
   refine wpAnyM_ready (rs:=[9]) (by kernel_rfl) (by simp) (AllReadyM.cons (List.getElem?_toArray.trans rfl) true (by kernel_rfl) (fun K hK=> ?_) AllReadyM.nil)
   go_simp
   refine hK.out _ _ ?_ (fun hHeld=> ?_)
   focus((try dsimp only);exact .inl rfl)
   clear hK K
   try simp only[Act.put,List.setIfInBounds_toArray,List.set_cons_zero,List.set_cons_succ]
   refine wpAnyM_done (by kernel_rfl) ?_ _
   clear hHeld
   go_wp2_with fail
   go_ret
   exact⟨_,rfl,H1.out.base_le (by(try simp)),HB3.out⟩
  ·have hcap2: ¬c=i+1:=hcap
   intro hHeld
   refine TkM 0 ?_
   refine TkM 1 ?_
   refine TkM 2 ?_
   refine TkM 4 ?_
   refine TkM 5 ?_
   refine TkM 6 ?_
   refine TkM 7 ?_
   refine wpAnyM_ready (rs:=[3]) (by kernel_rfl) (by simp) (AllReadyM.cons (List.getElem?_toArray.trans rfl) false (by kernel_rfl) (fun K hK=> ?_) AllReadyM.nil)
   go_simp
   refine(HCP.out _ Bw).mono ?_
   rintro e w1 ⟨v1,rfl,o1,b1⟩
   obtain⟨VA,vc,hv1,_,hvc⟩:=o1.sl intC_len
   rw[HTI.out]at hv1
   subst hv1
   have hbw:Below w.heap.size w w1:=(B_drew (Below.refl _ _)).trans b1
   refine hK.out _ _ ?_ (fun hHeld=> ?_)
   focus((try dsimp only);exact .inr trivial)
   clear hK K
   try simp only[Act.put,List.setIfInBounds_toArray,List.set_cons_zero,List.set_cons_succ]
   refine wpAnyM_ready (rs:=[8]) (by kernel_rfl) (by simp) (AllReadyM.cons (List.getElem?_toArray.trans rfl) true (by kernel_rfl) (fun K hK=> ?_) AllReadyM.nil)
   refine step_append_S (v:= .slice VA i vc) (n:=i) (m:=set.length-(i+1)) rfl _ _ rfl elInt intC_len intC_one rfl (xs:=set.take i) (ys:=set.drop (i+1)) o1 HTI.out rfl (HLT9.out) (HSP.out.keep hbw) (by simp only[maxLen];omega) (by omega) (by have:=b1.size;simp at this⊢;omega) ?_
   intro v3 w3 h1 h2 h3
   have hb3:Below w.heap.size w w3:=Below.grown hbw h2 hbw.size (fun j hj=>(o1.ge j hj).1)
   have H1:=Lib.hid h1
   have HB3:=Lib.hid hb3
   clear h1 h2 h3 hb3
   refine hK.out _ _ ?_ (fun hHeld=> ?_)
   focus((try dsimp only);exact .inl rfl)
   clear hK K
   try simp only[Act.put,List.setIfInBounds_toArray,List.set_cons_zero,List.set_cons_succ]
   refine wpAnyM_ready (rs:=[9]) (by kernel_rfl) (by simp) (AllReadyM.cons (List.getElem?_toArray.trans rfl) true (by kernel_rfl) (fun K hK=> ?_) AllReadyM.nil)
   go_simp
   refine hK.out _ _ ?_ (fun hHeld=> ?_)
   focus((try dsimp only);exact .inl rfl)
   clear hK K
   try simp only[Act.put,List.setIfInBounds_toArray,List.set_cons_zero,List.set_cons_succ]
   refine wpAnyM_done (by kernel_rfl) ?_ _
   clear hHeld
   go_wp2_with fail
   go_ret
   exact⟨_,rfl,H1.out.base_le (by(try simp)),HB3.out⟩
end Go.Proofs.YtkhkhnellekofaaGreatDoor
namespace Go.Proofs.YtkhkhnellekofaaGreatDoor
open Go.RowKit Go.Shelf
attribute [local go_sem] World.cell?_alloc_mark ext_size ext_cell ext_frozen lt_add_r lt_add_r2 lt_add_r3 lt_add_r4 lt_add_r5 lt_add_r6 lt_add_r7 lt_add_r8
attribute [local go_sem] ext_setCell alloc_setCell_lt
def missP (n:Nat) (s:List Int):Bool:=s.any fun x=>!inR x 0 ((n:Int)-1)
def disGo:Int->List Int->Bool
 |_,[]=>false
 |p,x::r=>decide (x<=p)||disGo x r
def disAt (s:List Int) (j:Nat):Bool:=match s.drop j with
 | []=>false
 |p::r=>disGo p r
def setErrP (n:Nat) (s:List Int):Int:=if missP n s then 6 else if disAt s 0 then 9 else 0
noncomputable def leftOk (l:List Rec) (ns:List Nat) (k:Nat):Bool:=((List.range ns.length).drop k).all fun i=>!contraP (ofP l (ns.eraseIdx i))
noncomputable def minB (l:List Rec) (ns:List Nat):Bool:=contraP (ofP l ns)&&leftOk l ns 0
theorem miss_step {n:Nat} {s:List Int} {k:Nat} (h:k<s.length):missP n (s.drop k)=(!inR s[k] 0 ((n:Int)-1)||missP n (s.drop (k+1))):=by
 rw[List.drop_eq_getElem_cons h]
 rfl
theorem miss_end {n:Nat} {s:List Int} {k:Nat} (h: ¬k<s.length):missP n (s.drop k)=false:=by
 rw[List.drop_of_length_le (by omega)]
 rfl
theorem dis_step {s:List Int} {j:Nat} (h:j+1<s.length):disAt s j=(decide (s[j+1]<=s[j])||disAt s (j+1)):=by
 unfold disAt
 rw[List.drop_eq_getElem_cons (show j<s.length by omega),List.drop_eq_getElem_cons h]
 rfl
theorem dis_end {s:List Int} {j:Nat} (h: ¬j+1<s.length):disAt s j=false:=by
 unfold disAt
 by_cases hj:j<s.length
 ·rw[List.drop_eq_getElem_cons hj,List.drop_of_length_le (by omega)]
  rfl
 ·rw[List.drop_of_length_le (by omega)]
theorem left_step {l:List Rec} {ns:List Nat} {k:Nat} (h:k<ns.length):leftOk l ns k=(!contraP (ofP l (ns.eraseIdx k))&&leftOk l ns (k+1)):=by
 unfold leftOk
 rw[List.drop_eq_getElem_cons (by simpa using h),List.all_cons,List.getElem_range]
theorem left_end {l:List Rec} {ns:List Nat} {k:Nat} (h: ¬k<ns.length):leftOk l ns k=true:=by
 unfold leftOk
 rw[List.drop_of_length_le (by simpa using h)]
 rfl
theorem nats_of {n:Nat}: ∀ {s:List Int},missP n s=false-> ∃ns:List Nat,s=ns.map (fun(k:Nat)=>(k:Int))/\ ∀i∈ns,i<n
 | [],_=>⟨[],rfl,by simp⟩
 |x::s,h=>by
  have h2:(!inR x 0 ((n:Int)-1)||missP n s)=false:=h
  simp only[Bool.or_eq_false_iff,Bool.not_eq_false']at h2
  obtain⟨ns,rfl,hn⟩:=nats_of h2.2
  have hx:=h2.1
  unfold inR at hx
  simp only[Bool.and_eq_true,decide_eq_true_eq]at hx
  refine⟨x.toNat::ns,by simp;omega,fun i hi=> ?_⟩
  rcases List.mem_cons.1 hi with rfl|hi
  ·omega
  ·exact hn i hi
theorem sl_nats {w:World} {A:Option Addr} {ns:List Nat} (h:Sl w 1 zC A (ns.map (fun(k:Nat)=>(k:Int)))):Sl w 1 intC A ns:=fun hl=>by
 obtain⟨b,off,hA,hb,hc⟩:=h (by simpa using hl)
 refine⟨b,off,hA,hb,fun k x hk j u hu=>hc k (x:Int) (by rw[List.getElem?_map,hk];rfl) j u hu⟩
set_option maxRecDepth 100000 in
set_option maxHeartbeats 2000000 in
theorem rCheckSet_any (n c:Nat) (A:Option Addr) (s:List Int) (SA:Option Addr) (sc:Nat) (w:World) (hn:n<=100000) (hl:s.length<=1000) (hS:Sl w 1 zC SA s):
 Calls Tryz.prog 12 #[.slice A n c, .slice SA s.length sc] w (Ret w (.int .i64 (setErrP n s))):=by
 have HS:=Lib.hid hS
 obtain⟨R,hR⟩: ∃R,R=setErrP n s:=⟨_,rfl⟩
 rw[<-hR]
 have HR:=Lib.hid hR
 have w0:IntKind.i64.wrap ((n:Int)-1)=(n:Int)-1:=by rw[IntKind.wrap_i64];omega
 clear hS hR
 go_enter Tryz.func12,Tryz.ntmps12
 go_upto_region 2 with fail
 go_loopw [5] (fun i wr=> ∃k:Nat,k<=s.length/\i= .int .i64 k/\w=wr/\Hid (missP n s=missP n (s.drop k))) (fun i _=>s.length-(intOf i).toNat)
 case atStart=>exact⟨0,Nat.zero_le _,rfl,rfl,rfl⟩
 case round=>
  obtain⟨k,hk,rfl,rfl,HX⟩:=hrel
  by_cases hlt:k<s.length
  ·obtain⟨b,off,rfl,hb,hcc⟩:=HS.out.at hlt
   have HX2:=Lib.hid (HX.out.trans (miss_step hlt))
   have i0:w.cell? ⟨b,off+k,none⟩=some (.int .i64 s[k]):=by have:=hcc 0 _ rfl;simpa using this
   have HLT:=Lib.hid hlt
   have hki:(k:Int)<(s.length:Int):=by omega
   have hk0:(0:Int)<=(k:Int):=by omega
   clear hcc
   generalize s[k]=x at*
   clear hlt
   cases hw:inR x 0 ((n:Int)-1)
   ·have HRX:Hid (R=6):=by
     show _=_
     rw[HR.out]
     unfold setErrP
     rw[HX2.out,hw]
     rfl
    go_wp2_with (go_at_call 33;go_must(refine(bwithin_any _ _ _ _).mono ?_);rintro e wq ⟨rfl,rfl⟩;rw[hw])
    go_ret
    exact Ret.of (by rw[HRX.out];rfl) (Below.refl _ _)
   ·have HX3:Hid (missP n s=missP n (s.drop (k+1))):=by
     show _=_
     rw[HX2.out,hw]
     rfl
    go_wp2_with (go_at_call 33;go_must(refine(bwithin_any _ _ _ _).mono ?_);rintro e wq ⟨rfl,rfl⟩;rw[hw])
    go_round
    case rel=>exact⟨k+1,HLT.out,by go_num,by first|exact True.intro|rfl,HX3.out⟩
    case measure=>have:=HLT.out;simp only[intOf];omega
  ·have HM:=Lib.hid (HX.out.trans (miss_end hlt))
   have hki: ¬(k:Int)<(s.length:Int):=by omega
   clear hlt
   go_upto_region 7 with fail
   go_loopw [6] (fun i wr=> ∃j:Nat,i= .int .i64 ((j:Int)+1)/\Below w.heap.size w wr/\Hid (disAt s 0=disAt s j)) (fun i _=>s.length-(intOf i).toNat)
   case atStart=>exact⟨0,by first|rfl|simp,Below.refl _ _,rfl⟩
   case round=>
    obtain⟨j,rfl,hB,HX⟩:=hrel
    have HB:=Lib.hid hB
    by_cases hlt:j+1<s.length
    ·obtain⟨b,off,rfl,hb,hcc⟩:=(HS.out.keep hB).at hlt
     obtain⟨b2,off2,hE,_,hcc2⟩:=(HS.out.keep hB).at (show j<s.length by omega)
     simp only[Option.some.injEq,Addr.mk.injEq,and_true]at hE
     obtain⟨rfl,rfl⟩:=hE
     have HX2:=Lib.hid (HX.out.trans (dis_step hlt))
     have i1:wr.cell? ⟨b,off+(j+1),none⟩=some (.int .i64 s[j+1]):=by have:=hcc 0 _ rfl;simpa using this
     have i0:wr.cell? ⟨b,off+j,none⟩=some (.int .i64 s[j]):=by have:=hcc2 0 _ rfl;simpa using this
     have HLT:=Lib.hid hlt
     have hki:(j:Int)+1<(s.length:Int):=by omega
     have hk0:(0:Int)<=(j:Int):=by omega
     have hk1:(0:Int)<=(j:Int)+1:=by omega
     have hk2:(j:Int)<(s.length:Int):=by omega
     have hkn:((j:Int)+1).toNat=j+1:=by omega
     have w1:IntKind.i64.wrap ((j:Int)+1-1)=(j:Int):=by rw[IntKind.wrap_i64];omega
     have w2:IntKind.i64.wrap (j:Int)=(j:Int):=by rw[IntKind.wrap_i64];omega
     have w3:IntKind.i64.wrap ((j:Int)+1+1)=(j:Int)+1+1:=by rw[IntKind.wrap_i64];omega
     clear hcc hcc2 hB
     generalize s[j]=x at*
     generalize s[j+1]=y at*
     clear hlt
     by_cases hle:y<=x
     ·have HRX:Hid (R=9):=by
       show _=_
       rw[HR.out]
       unfold setErrP
       rw[HM.out,HX2.out,decide_eq_true hle]
       rfl
      go_upto_region 9 with fail
      (refine wp_region_ext_lit (by kernel_rfl) (by kernel_rfl) ?_
       repeat(first|go_big_quiet_skip|(go_big_quiet_want;go_big_quiet_op;first|go_big_quiet_on|(apply Exists.intro;refine⟨fun _=> ?_,?_⟩;(fail);go_big_quiet_on)))
       refine wpQuiet_nil ?_
       rintro _ ⟨zq,rfl⟩)
      go_wp2_with fail
      go_ret
      exact Ret.of (by rw[HRX.out];rfl) (by have:=HB.out;repeat(first|exact B_refl|exact Below.refl _ _|assumption|with_reducible refine B_alloc ?_ _|with_reducible refine B_ext ?_ _|with_reducible refine B_drew ?_|with_reducible refine B_drewN ?_ _|with_reducible refine B_set ?_ (by simp;omega) _))
     ·have HX3:Hid (disAt s 0=disAt s (j+1)):=by
       show _=_
       rw[HX2.out,decide_eq_false hle]
       rfl
      have hl2:x<y:=by omega
      have hl3:decide (y<=x)=false:=by simp;omega
      have hl4:(x≥y)=False:=by simp;omega
      go_upto_region 9 with fail
      (refine wp_region_ext_lit (by kernel_rfl) (by kernel_rfl) ?_
       repeat(first|go_big_quiet_skip|(go_big_quiet_want;go_big_quiet_op;first|go_big_quiet_on|(apply Exists.intro;refine⟨fun _=> ?_,?_⟩;(fail);go_big_quiet_on)))
       refine wpQuiet_nil ?_
       rintro _ ⟨zq,rfl⟩)
      go_wp2_with fail
      go_round
      case rel=>exact⟨j+1,by go_num,by have:=HB.out;repeat(first|exact B_refl|exact Below.refl _ _|assumption|with_reducible refine B_alloc ?_ _|with_reducible refine B_ext ?_ _|with_reducible refine B_drew ?_|with_reducible refine B_drewN ?_ _|with_reducible refine B_set ?_ (by simp;omega) _),HX3.out⟩
      case measure=>have:=HLT.out;simp only[intOf];omega
    ·have HRX:Hid (R=0):=by
      show _=_
      rw[HR.out]
      unfold setErrP
      rw[HM.out,HX.out,dis_end hlt]
      rfl
     have hki: ¬(j:Int)+1<(s.length:Int):=by omega
     go_wp2_with fail
     go_ret
     exact Ret.of (by rw[HRX.out];rfl) (by have:=HB.out;repeat(first|exact B_refl|exact Below.refl _ _|assumption|with_reducible refine B_alloc ?_ _|with_reducible refine B_ext ?_ _|with_reducible refine B_drew ?_|with_reducible refine B_drewN ?_ _|with_reducible refine B_set ?_ (by simp;omega) _))
set_option maxRecDepth 100000 in
set_option maxHeartbeats 2000000 in
theorem rMinimal_any (l:List Rec) (ns:List Nat) (A:Option Addr) (c:Nat) (SA:Option Addr) (sc:Nat) (w:World) (hc:l.length<=c) (hl:ns.length<=1000) (hsc:ns.length<=sc) (hin: ∀i∈ns,i<l.length) (hok: ∀x∈l,checkRecP x=0) (hS:Sl w 8 Rec.cells A l) (hT:Sl w 1 intC SA ns):
 Calls Tryz.prog 14 #[.slice A l.length c, .slice SA ns.length sc] w (fun e w'=>e= .returned (.bool (minB l ns))/\Below w.heap.size w w'):=by
 have HS:=Lib.hid hS
 have HT:=Lib.hid hT
 have HOK:=Lib.hid hok
 have HIN:=Lib.hid hin
 obtain⟨R,hR⟩: ∃R,R=minB l ns:=⟨_,rfl⟩
 rw[<-hR]
 have HR:=Lib.hid hR
 have HOF:=Lib.hid (fun W (hW:Below w.heap.size w W)=>rOf_any l ns A c SA sc W hc hsc hl hin (hS.keep hW) (hT.keep hW))
 have HLESS:=Lib.hid (fun i W (hi:i<ns.length) (hW:Below w.heap.size w W)=>less_any ns SA sc i W hi hsc hl (hT.keep hW))
 have HOF2:=Lib.hid (fun(i:Nat) W (VA:Option Addr) vc (hv:(ns.eraseIdx i).length<=vc) (h:Sl W 1 intC VA (ns.eraseIdx i)) (hW:Below w.heap.size w W)=>rOf_any l (ns.eraseIdx i) A c VA vc W hc hv (by have:=List.length_eraseIdx_le (l:=ns) (i:=i);omega) (fun x hx=>HIN.out x ((List.eraseIdx_sublist ns i).subset hx)) (hS.keep hW) h)
 have HCO:=Lib.hid (fun(m:List Nat) W VA vc (hm:m.length<=1000) (hv:(ofP l m).length<=vc) (h:Sl W 8 Rec.cells VA (ofP l m))=>rContradicts_any (ofP l m) VA vc W hv (by have:=of_len l m;omega) (fun x hx=>HOK.out x (of_mem x hx)) h)
 clear hS hT hok hin hR
 go_enter Tryz.func14,Tryz.ntmps14
 cases hcp:contraP (ofP l ns)
 ·have HRX:Hid (R=false):=by
   show _=_
   rw[HR.out]
   unfold minB
   rw[hcp]
   rfl
  have HCP:=Lib.hid hcp
  clear hcp
  go_wp2_with (first
   |(go_at_call 44;go_must(refine(HOF.out _ Bw).mono ?_);rintro e w1 ⟨v1,rfl,o1,b1⟩;obtain⟨A1,c1,rfl,s1,hc1⟩:=o1.sl recC_len)
   |(go_at_call 11;go_must(refine(HCO.out ns _ A1 c1 hl hc1 s1).mono ?_);rw[HCP.out];rintro e w2 ⟨rfl,z,rfl⟩))
  go_ret
  exact⟨by rw[HRX.out];rfl,Bw⟩
 ·have HRX:Hid (R=leftOk l ns 0):=by
   show _=_
   rw[HR.out]
   unfold minB
   rw[hcp]
   rfl
  have HCP:=Lib.hid hcp
  clear hcp
  go_upto_region 4 with(first
   |(go_at_call 44;go_must(refine(HOF.out _ Bw).mono ?_);rintro e w1 ⟨v1,rfl,o1,b1⟩;obtain⟨A1,c1,rfl,s1,hc1⟩:=o1.sl recC_len)
   |(go_at_call 11;go_must(refine(HCO.out ns _ A1 c1 hl hc1 s1).mono ?_);rw[HCP.out];rintro e w2 ⟨rfl,z,rfl⟩))
  have hb0:Below w.heap.size w (w1.ext z):=Bw
  clear s1 o1 b1 hc1
  generalize w1.ext z=W0 at*
  have HB0:=Lib.hid hb0
  clear hb0
  go_loopw [5] (fun i wr=> ∃k:Nat,k<=ns.length/\i= .int .i64 k/\Below w.heap.size w wr/\Hid (leftOk l ns 0=leftOk l ns k)) (fun i _=>ns.length-(intOf i).toNat)
  case atStart=>exact⟨0,Nat.zero_le _,rfl,HB0.out,rfl⟩
  case round=>
   obtain⟨k,hk,rfl,hB,HX⟩:=hrel
   have HB:=Lib.hid hB
   have hbs:=hB.size
   by_cases hlt:k<ns.length
   ·have HX2:=Lib.hid (HX.out.trans (left_step hlt))
    have HLT:=Lib.hid hlt
    have hki:(k:Int)<(ns.length:Int):=by omega
    have hk0:(0:Int)<=(k:Int):=by omega
    have hel:(ns.eraseIdx k).length<=1000:=by have:=List.length_eraseIdx_le (l:=ns) (i:=k);omega
    clear hB hlt
    cases hce:contraP (ofP l (ns.eraseIdx k))
    ·have HX3:Hid (leftOk l ns 0=leftOk l ns (k+1)):=by
      show _=_
      rw[HX2.out,hce]
      rfl
     have HCE:=Lib.hid hce
     clear hce
     go_wp2_with (first
      |(go_at_call 45;go_must(refine(HLESS.out k _ HLT.out (by have:=HB.out;repeat(first|exact B_refl|exact Below.refl _ _|assumption|with_reducible refine B_alloc ?_ _|with_reducible refine B_ext ?_ _|with_reducible refine B_drew ?_|with_reducible refine B_drewN ?_ _|with_reducible refine B_set ?_ (by simp;omega) _))).mono ?_);rintro e w4 ⟨v4,rfl,o4,b4⟩;have b4':=HB.out.trans (b4.mono hbs);clear b4;obtain⟨A4,c4,rfl,s4,hc4⟩:=o4.sl intC_len)
      |(go_at_call 44;go_must(refine(HOF2.out k _ A4 c4 hc4 s4 b4').mono ?_);rintro e w5 ⟨v5,rfl,o5,b5⟩;have b2:=b4'.trans (b5.mono b4'.size);clear b5;obtain⟨A5,c5,rfl,s5,hc5⟩:=o5.sl recC_len)
      |(go_at_call 11;go_must(refine(HCO.out _ _ A5 c5 hel hc5 s5).mono ?_);rw[HCE.out];rintro e w6 ⟨rfl,z6,rfl⟩))
     go_round
     case rel=>exact⟨k+1,HLT.out,by go_num,B_ext b2 _,HX3.out⟩
     case measure=>have:=HLT.out;simp only[intOf];omega
    ·have HRY:Hid (R=false):=by
      show _=_
      rw[HRX.out,HX2.out,hce]
      rfl
     have HCE:=Lib.hid hce
     clear hce
     go_wp2_with (first
      |(go_at_call 45;go_must(refine(HLESS.out k _ HLT.out (by have:=HB.out;repeat(first|exact B_refl|exact Below.refl _ _|assumption|with_reducible refine B_alloc ?_ _|with_reducible refine B_ext ?_ _|with_reducible refine B_drew ?_|with_reducible refine B_drewN ?_ _|with_reducible refine B_set ?_ (by simp;omega) _))).mono ?_);rintro e w4 ⟨v4,rfl,o4,b4⟩;have b4':=HB.out.trans (b4.mono hbs);clear b4;obtain⟨A4,c4,rfl,s4,hc4⟩:=o4.sl intC_len)
      |(go_at_call 44;go_must(refine(HOF2.out k _ A4 c4 hc4 s4 b4').mono ?_);rintro e w5 ⟨v5,rfl,o5,b5⟩;have b2:=b4'.trans (b5.mono b4'.size);clear b5;obtain⟨A5,c5,rfl,s5,hc5⟩:=o5.sl recC_len)
      |(go_at_call 11;go_must(refine(HCO.out _ _ A5 c5 hel hc5 s5).mono ?_);rw[HCE.out];rintro e w6 ⟨rfl,z6,rfl⟩))
     go_ret
     exact⟨by rw[HRY.out];rfl,B_ext b2 _⟩
   ·have HRY:Hid (R=true):=by
     show _=_
     rw[HRX.out,HX.out,left_end hlt]
    have hki: ¬(k:Int)<(ns.length:Int):=by omega
    go_wp2_with fail
    go_ret
    exact⟨by rw[HRY.out];rfl,HB.out⟩
end Go.Proofs.YtkhkhnellekofaaGreatDoor
