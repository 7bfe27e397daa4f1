/- Walk of chapter 5's transfer. -/
import Derived.Test.YtkhkhnellekofaaGreatDoorJX
import Derived.RangeFuncNested
import Derived.RangeFuncBound
import Derived.RangeFuncCalls
import Derived.RangeFuncLeaves
import Derived.Stop.RegionWithIn
import Derived.OwnWalkIn
import Derived.TacticsInMore
import Derived.LoopNIn
import Derived.LoopIn
import Derived.Test.YtkhkhnellekofaaGreatDoorO1
import Derived.Test.YtkhkhnellekofaaGreatDoorJB
import Derived.Deep.Cut
import Derived.Deep.CutBlock
import Derived.Deep.RegionHeld3
set_option linter.unusedSimpArgs false
set_option linter.unusedVariables false
namespace Go.Proofs.YtkhkhnellekofaaGreatDoor
open Go.RowKit Go.Shelf
attribute [local go_sem] World.cell?_alloc_mark ext_size ext_cell ext_frozen lt_add_r lt_add_r2 lt_add_r3 lt_add_r4 lt_add_r5 lt_add_r6 lt_add_r7 lt_add_r8
attribute [local go_sem] Oper.semAt_some
abbrev Pair2:=ByteArray×ByteArray
def pr0:Pair2:=(⟨#[]⟩,⟨#[]⟩)
def backTo (ms:List Pair2) (k:Nat):List (Int×Pair2):=(List.range k).map fun j=>(((ms.length-1-j:Nat):Int),ms.getD (ms.length-1-j) pr0)
theorem backTo_succ (ms:List Pair2) (k:Nat):backTo ms (k+1)=backTo ms k++[(((ms.length-1-k:Nat):Int),ms.getD (ms.length-1-k) pr0)]:=by
 unfold backTo
 rw[List.range_succ,List.map_append]
 rfl
theorem backTo_len (ms:List Pair2) (k:Nat):(backTo ms k).length=k:=by simp[backTo]
theorem backTo_all (ms:List Pair2):(backTo ms ms.length).map (·.2)=ms.reverse:=by
 unfold backTo
 apply List.ext_getElem
 ·simp
 ·intro i h1 h2
  simp at h1
  rw[List.getElem_reverse]
  simp[List.getD_eq_getElem?_getD,List.getElem?_eq_getElem (show ms.length-1-i<ms.length by omega)]
theorem backTo_take (ms:List Pair2) (k:Nat) (hk:k<=ms.length):(backTo ms k).map Prod.snd=ms.reverse.take k:=by
 unfold backTo
 apply List.ext_getElem
 ·simp;omega
 ·intro i h1 h2
  simp at h1
  rw[List.getElem_take,List.getElem_reverse]
  simp[List.getD_eq_getElem?_getD,List.getElem?_eq_getElem (show ms.length-1-i<ms.length by omega)]
def encB (x:Int×Pair2):Array Value:= #[.int .i64 x.1, .agg #[.string x.2.1, .string x.2.2]]
set_option maxRecDepth 100000 in
set_option maxHeartbeats 2000000 in
theorem back1_in (n:Nat) (hn:1<=n) (l n₀ Bs:Nat) (ms:List Pair2) (A:Option Addr) (c:Nat) (hl:ms.length<=100000) (J Jx:List (Int×Pair2)->World->Prop)
 (hY: ∀pre x W,J pre W->pre.length<ms.length->YieldAt Fence.wide (n-1) Tryz.prog l (encB x) W fun e W'=>
   (e= .returned (.bool true)/\J (pre++[x]) W'/\Below n₀ W W')\/(e= .returned (.bool false)/\Jx (pre++[x]) W'))
 (W:World) (hBn:Bs<n₀) (hBs:W.cell? ⟨Bs,0,none⟩=some (.slice A ms.length c)) (hS: ∀W',Below n₀ W W'->Sl W' 2 pairCells A ms) (h0:J [] W):
 CallsIn Fence.wide n Tryz.prog 156 #[.func (.yield l) #[] #[], .pointer (some ⟨Bs,0,none⟩)] W fun e W'=>(∃v,e= .returned v)/\
  ((∃ys,ys=backTo ms ms.length/\J ys W')\/(∃pre,(∃k,k<=ms.length/\pre=backTo ms k)/\Jx pre W')):=by
 refine callsIn_of_wp Tryz.func156 rfl trivial ?_ rfl
 simp only[Tryz.ntmps156,List.size_toArray,List.length_cons,List.length_nil,Nat.reduceAdd,Nat.reduceSub,Array.replicate_succ,Array.replicate_zero,List.push_toArray,List.append_toArray,List.nil_append,List.cons_append]
 have hw0:IntKind.i64.wrap ((ms.length:Int)-1)=(ms.length:Int)-1:=IntWalk.i64_in _ (by omega)
 gi_wp2
 gi_loopw [3] (fun i wr=> ∃k:Nat,k<=ms.length/\i= .int .i64 ((ms.length:Int)-1-k)/\J (backTo ms k) wr/\Below n₀ W wr) (fun i _=>(intOf i+1).toNat)
 case atStart=>exact⟨0,Nat.zero_le _,by simp,h0,Below.refl _ _⟩
 case round=>
  obtain⟨k,hk,rfl,hJs,hB⟩:=hrel
  have hcs:wr.cell? ⟨Bs,0,none⟩=some (.slice A ms.length c):=(hB.cell (p:=⟨Bs,0,none⟩) hBn).trans hBs
  by_cases hlt:k<ms.length
  ·have hi:ms.length-1-k<ms.length:=by omega
   obtain⟨b,off,rfl,hb,hc⟩:=(hS wr hB).at hi
   obtain⟨fn,tmps,assign,body,hy,hR⟩:=hY _ (((ms.length-1-k:Nat):Int),ms.getD (ms.length-1-k) pr0) wr hJs (by rw[backTo_len];exact hlt)
   have hgd:ms.getD (ms.length-1-k) pr0=ms[ms.length-1-k]:=by rw[List.getD_eq_getElem?_getD,List.getElem?_eq_getElem hi];rfl
   have HT:=Lib.hid (backTo_succ ms k)
   rw[hgd]at hy hR
   have HG:=Lib.hid hgd
   clear hgd
   generalize ms[ms.length-1-k]=m at hc hy hR HG
   obtain⟨m1,m2⟩:=m
   have c0:wr.cell? ⟨b,off+(ms.length-1-k)*2,none⟩=some (.string m1):=hc 0 _ rfl
   have c1:wr.cell? ⟨b,off+(ms.length-1-k)*2+1,none⟩=some (.string m2):=hc 1 _ rfl
   obtain⟨j,hj⟩: ∃j:Nat,j=ms.length-1-k:=⟨_,rfl⟩
   rw[<-hj]at c0 c1 hy hR HT HG hi
   have hji:(ms.length:Int)-1-k=(j:Int):=by omega
   have hj0:(0:Int)<=(j:Int):=by omega
   have hjl:(j:Int)<(ms.length:Int):=by omega
   rw[hji]
   have HJ:=Lib.hid hji
   clear hji hj hc
   simp only[encB]at hy hR
   gi_wp2
   refine hR.mono ?_
   rintro e W3 (⟨rfl,hJ3,hk3⟩|⟨rfl,hJx3⟩)
   ·have hw1:IntKind.i64.wrap ((j:Int)-1)=(j:Int)-1:=IntWalk.i64_in _ (by omega)
    have hcs3:W3.cell? ⟨Bs,0,none⟩=some (.slice (some ⟨b,off,none⟩) ms.length c):=(hk3.cell (p:=⟨Bs,0,none⟩) hBn).trans hcs
    gi_wp2
    go_roundw
    case rel=>exact⟨k+1,by omega,by have:=HJ.out;exact int_eq (by omega),by rw[HT.out,HG.out];exact hJ3,hB.trans hk3⟩
    case measure=>(have:=HJ.out;simp[intOf];first|done|omega)
   ·gi_wp2
    refine bodyPost_ret (results_none rfl _ _ _) rfl ?_
    exact⟨⟨_,rfl⟩, .inr ⟨_,⟨k+1,by omega,rfl⟩,by rw[HT.out,HG.out];exact hJx3⟩⟩
  ·obtain rfl:k=ms.length:=by omega
   have hneg:(ms.length:Int)-1-(ms.length:Int)= -1:=by omega
   rw[hneg]
   gi_wp2
   go_end0
   exact⟨⟨_,rfl⟩, .inl ⟨_,rfl,hJs⟩⟩
theorem back1_seq (n:Nat) (hn:1<=n) (n₀ Bs:Nat) (ms:List Pair2) (A:Option Addr) (c:Nat) (hl:ms.length<=100000) (w:World) (hn₀:n₀<=w.heap.size) (hBn:Bs<n₀) (hBs:w.cell? ⟨Bs,0,none⟩=some (.slice A ms.length c)) (hS: ∀W',Below n₀ w W'->Sl W' 2 pairCells A ms):
 SeqStopsK Fence.wide n Tryz.prog 156 #[.pointer (some ⟨Bs,0,none⟩)] encB (Below n₀) (fun ys=>ys=backTo ms ms.length) (fun pre=> ∃k,k<=ms.length/\pre=backTo ms k) ms.length w:=fun l J Jx W hW _ _ hY hJ0=>
 back1_in n hn l n₀ Bs ms A c hl J Jx hY W hBn ((hW.cell (p:=⟨Bs,0,none⟩) (Nat.lt_of_lt_of_le hBn hn₀)).trans hBs) (fun W' h=>hS W' ((hW.mono hn₀).trans h)) hJ0
theorem results_s {fn:Func} {p:Tmp} (h:fn.results= #[.cell p 9]) (tmps:Array Value) (w:World) (B:Nat) (x:ByteArray) (hp:tmps.getD p undef= .pointer (some ⟨B,0,none⟩))
 (h0:w.cell? ⟨B,0,none⟩=some (.string x)):(results fn tmps).run Tryz.prog w= .ok (.string x) w:=by
 rw[results_c1 h,hp]
 go_simp
set_option maxRecDepth 100000 in
set_option maxHeartbeats 2000000 in
theorem back_any (A:Option Addr) (n c:Nat) (w:World):Calls Tryz.prog 148 #[.slice A n c] w fun e w'=>e= .returned (.func (.func 156) #[] #[.pointer (some ⟨w.heap.size,0,none⟩)])/\w'=w.alloc (.cells #[.slice A n c] 106):=by
 go_enter Tryz.func148,Tryz.ntmps148
 go_wp2_with fail
 go_ret
 exact⟨rfl,rfl⟩
def hasN (m:Pair2) (n:ByteArray):Bool:=sameB m.1 n||sameB m.2 n
def otherN (m:Pair2) (n:ByteArray):ByteArray:=if sameB m.1 n then m.2 else m.1
theorem spouse_none {n:ByteArray}: ∀ {l:List Pair2},(∀m∈l,hasN m n=false)->spouseGo n l=⟨#[]⟩
 | [],_=>rfl
 |m::l,h=>by
  have h0:=h m (by simp)
  simp only[hasN,Bool.or_eq_false_iff]at h0
  rw[spouseGo,h0.1,h0.2]
  simpa using spouse_none fun x hx=>h x (by simp[hx])
theorem spouse_some {n:ByteArray} {m:Pair2} {b:List Pair2} (hm:hasN m n=true): ∀ {a:List Pair2},(∀m∈a,hasN m n=false)->spouseGo n (a++m::b)=otherN m n
 | [],_=>by
   rw[List.nil_append,spouseGo,otherN]
   cases h:sameB m.1 n
   ·simp only[hasN,h,Bool.false_or]at hm
    simp[hm]
   ·simp
 |x::a,h=>by
  have h0:=h x (by simp)
  simp only[hasN,Bool.or_eq_false_iff]at h0
  rw[List.cons_append,spouseGo,h0.1,h0.2]
  simpa using spouse_some hm fun x hx=>h x (by simp[hx])
def marks5 (Ds:List Nat):List Deferred:=Ds.map fun D=> {target:= .collected D,args:= #[]}
theorem leaves_marks5 {F:Fence} {n:Nat} {P:Program} {fn:Func} {tmps:Array Value} {R:Ending->World->Prop} {base:Nat}: ∀(Ds:List Nat) (w:World),Ds.Nodup->(∀D∈Ds,base<=D/\w.heap[D]?=some (.deferred (some [])))->
 (∀w',Below base w w'->(∀(k:Nat) (cs:Array Value) (t:TypeId) (fr:Nat×Nat),w.heap[k]?=some (.cells cs t fr)->w'.heap[k]?=some (.cells cs t fr))-> ∃v,(results fn tmps).run P w'= .ok v w'/\R (.returned v) w')->
 LeavesInM F n P fn tmps R (marks5 Ds) .returning w
 | [],w,_,_,h=>h w (Below.refl _ _) fun _ _ _ _ h=>h
 |D::Ds,w,hnd,hD,h=>by
  obtain⟨hb,hK⟩:=hD D (by simp)
  have hnd':=List.nodup_cons.1 hnd
  refine⟨by simp, .inl ⟨D,_,rfl,run_takeDeferred hK,?_⟩⟩
  have hp: ∀k,k≠D->(w.putObj D (.deferred none)).heap[k]?=w.heap[k]?:=fun k hk=>by
   simp only[World.putObj,Array.getElem?_setIfInBounds]
   rw[if_neg (fun e=>hk e.symm)]
  refine leaves_marks5 Ds (w.putObj D (.deferred none)) hnd'.2 (fun D' hD'=>⟨(hD D' (by simp[hD'])).1,(hp D' (fun e=>hnd'.1 (e▸hD'))).trans (hD D' (by simp[hD'])).2⟩) fun w' hB hc=> ?_
  refine h w' (Below.trans (⟨rfl,rfl,rfl,by simp[World.putObj],fun k hk=>hp k (by omega)⟩:Below base w (w.putObj D (.deferred none))) hB) fun k cs t fr hk=>hc k cs t fr ((hp k (fun e=> ?_)).trans hk)
  subst e
  rw[hK]at hk
  cases hk
theorem blk_own5 {A B:World} {row:Option Nat} {k:Nat} {cs:Array Value} {t:TypeId} {fr:Nat×Nat} (h:A.heap[k]?=some (.cells cs t fr)) (hg:A.grownBy B row) (hr: ∀r,row=some r-> ∃o:Obj,A.heap[r]?=some o/\o.isCells=false):B.heap[k]?=some (.cells cs t fr):=
 (hg.block k (blk_lt h) (fun e=>by
   obtain⟨o,ho,hc⟩:=hr k e.symm
   rw[h]at ho
   simp only[Option.some.injEq]at ho
   subst ho
   cases hc)).trans h
def SpI (x:ByteArray) (W0:World) (pre:List (Int×Pair2)) (W:World):Prop:=(∀m∈pre.map Prod.snd,hasN m x=false)/\Below W0.heap.size W0 W
def SpIx (s:St) (x:ByteArray) (w:World) (c:Code) (pre:List (Int×Pair2)) (W:World):Prop:=
 (c= .ret/\ ∃a m,pre.map Prod.snd=a++[m]/\(∀y∈a,hasN y x=false)/\hasN m x=true/\W.heap[w.heap.size+1+1]?=some (.cells #[.string (if isDeadP s (otherN m x)then⟨#[]⟩else otherN m x)] 9 (0,0)))/\Below w.heap.size w W
set_option maxRecDepth 100000 in
set_option maxHeartbeats 2000000 in
theorem spouse_in (base b:Nat) (s:St) (x:ByteArray) (w:World) (hW:PeoAt base w b s) (hl:s.marriages.length<=100000):
 CallsIn Fence.wide 9 Tryz.prog 134 #[.pointer (some ⟨b,0,none⟩), .string x] w (Ret w (.string (spouseP s x))):=by
 obtain⟨B,d,c,p,wl,r,mv,tv,la,co,h1,h2⟩:=hW
 obtain⟨A,cc,rfl,hS,hc⟩:=h2.marr.sl pair_len
 have hb:=blk_lt h1
 unfold WldC at h1
 have c3:w.cell? ⟨b,3,none⟩=some (.slice A s.marriages.length cc):=by simp[World.cell?,h1]
 have HS:=Lib.hid hS
 have H1:=Lib.hid h1
 have H2:=Lib.hid h2
 clear h1 h2 hS
 refine callsIn_of_wp_marks Tryz.func134 rfl trivial ?_ rfl
 simp only[Tryz.ntmps134,List.size_toArray,List.length_cons,List.length_nil,Nat.reduceAdd,Nat.reduceSub,Array.replicate_succ,Array.replicate_zero,List.push_toArray,List.append_toArray,List.nil_append,List.cons_append]
 have hb1:b≠w.heap.size:=by omega
 have hb2:b≠w.heap.size+1:=by omega
 gi_wp2_with (refine⟨trivial,?_⟩;gi_at_call 148;refine(callsIn_wide.2 (back_any _ _ _ _)).mono ?_;rintro e wq ⟨rfl,rfl⟩)
 generalize hW0:((((w.alloc (.cells #[.pointer (some ⟨b,0,none⟩)] 136)).alloc (.cells #[.string x] 9)).alloc (.cells #[.string ⟨#[]⟩] 9)).alloc (.cells #[.slice A s.marriages.length cc] 106))=W0
 have hz0:W0.heap.size=w.heap.size+4:=by rw[<-hW0];simp
 have s0:W0.heap[w.heap.size]?=some (.cells #[.pointer (some ⟨b,0,none⟩)] 136 (0,0)):=by rw[<-hW0];exact J_alloc (J_alloc (J_alloc (J_new _ _ _ rfl)))
 have s1:W0.heap[w.heap.size+1]?=some (.cells #[.string x] 9 (0,0)):=by rw[<-hW0];exact J_alloc (J_alloc (J_new _ _ _ (by simp)))
 have s2:W0.heap[w.heap.size+1+1]?=some (.cells #[.string ⟨#[]⟩] 9 (0,0)):=by rw[<-hW0];exact J_alloc (J_new _ _ _ (by simp))
 have s3:W0.heap[w.heap.size+1+1+1]?=some (.cells #[.slice A s.marriages.length cc] 106 (0,0)):=by rw[<-hW0];exact J_new _ _ _ (by simp)
 have hB0:Below w.heap.size w W0:=by rw[<-hW0];repeat(first|exact B_refl|exact Below.refl _ _|assumption|with_reducible refine B_alloc ?_ _|with_reducible refine B_ext ?_ _|with_reducible refine B_drew ?_|with_reducible refine B_drewN ?_ _|with_reducible refine B_set ?_ (by simp;omega) _)
 have hbs:W0.cell? ⟨w.heap.size+1+1+1,0,none⟩=some (.slice A s.marriages.length cc):=by simp[World.cell?,s3]
 clear hW0
 have S0:=Lib.hid s0
 have S1:=Lib.hid s1
 have S2:=Lib.hid s2
 clear s0 s1 s2 s3
 refine wpIn_rangeFunc_ownH rfl (by omega) (gf:=156) (lb:= #[.pointer (some ⟨w.heap.size+1+1+1,0,none⟩)]) rfl trivial (enters_of Tryz.func156 (by kernel_rfl) rfl)
  (back1_seq (9-1) (by omega) W0.heap.size (w.heap.size+1+1+1) s.marriages A cc hl W0 (Nat.le_refl _) (by omega) hbs (fun W' h=>(HS.out.keep hB0).keep h)) belowK_t (belowK_b (Nat.le_refl _)) (Below.refl _ _) (fun _=>rfl)
  (fun(pre:List (Int×Pair2)) W=>SpI x W0 pre W)
  (fun c (pre:List (Int×Pair2)) W=>SpIx s x w c pre W)
  (fun s A B row hs hg hr=>⟨hs.1,hs.2.grown hg hs.2.size (fun r e=>(hr r e).1)⟩)
  (fun cc s A B row hs hg hr=>⟨by obtain⟨⟨h1,a,m,h2,h3,h4,h5⟩,_⟩:=hs;exact⟨h1,a,m,h2,h3,h4,blk_own5 h5 hg (fun r e=>(hr r e).2)⟩,hs.2.grown hg hs.2.size (fun r e=>by have:=(hr r e).1;omega)⟩)
  ⟨by simp,Below.refl _ _⟩
  (fun y a' W=> ∃Bx,W0.heap.size<=Bx/\W.heap[Bx]?=some (.cells #[.string y.2.1, .string y.2.2] 138 (0,0))/\a'= {tmps:= #[.pointer (some ⟨b,0,none⟩), .string x, .pointer (some ⟨w.heap.size,0,none⟩), .pointer (some ⟨w.heap.size+1,0,none⟩), .pointer (some ⟨w.heap.size+1+1,0,none⟩),undef, .pointer (some ⟨Bx,0,none⟩),undef,undef,undef, .pointer (some ⟨b,0,none⟩), .pointer (some ⟨b,0,none⟩), .pointer (some ⟨b,3,none⟩), .slice A s.marriages.length cc, .func (.func 156) #[] #[.pointer (some ⟨w.heap.size+1+1+1,0,none⟩)], .int .i64 y.1, .agg #[.string y.2.1, .string y.2.2],undef,undef,undef,undef,undef,undef,undef,undef,undef,undef,undef,undef,undef,undef,undef,undef,undef,undef,undef,undef,undef],defers:=[]})
  (fun y a' s A B row hs hg hr=>by obtain⟨Bx,h1,h2,h3⟩:=hs;exact⟨Bx,h1,blk_own5 h2 hg (fun r e=>(hr r e).2),h3⟩) ?assign ?body ?done ?stop
 case assign=>
  rintro l pre ⟨yi,y1,y2⟩ W K hi hK
  simp only[encB]
  gi_wp2
  exact hK _ _ ((KeepsOthers.alloc _ _).from _) (B_alloc (Below.refl _ _) _ hi.2.size) ⟨hi.1,B_alloc hi.2 _⟩ ⟨W.heap.size,hi.2.size,J_new _ _ _ rfl,rfl⟩
 case body=>
  rintro l pre ⟨yi,y1,y2⟩ a' W hWl _ ⟨hp,hBW⟩ ⟨Bx,hBx,hbx,rfl⟩ hlen
  simp only at hbx
  have t0:=(hBW.block w.heap.size (by omega)).trans S0.out
  have t1:=(hBW.block (w.heap.size+1) (by omega)).trans S1.out
  have t2:=(hBW.block (w.heap.size+1+1) (by omega)).trans S2.out
  have tW:=(hBW.block b (by omega)).trans ((hB0.block b hb).trans H1.out)
  have hPP:=H2.out.keep (hB0.trans (hBW.mono (by omega)))
  have k0:W.cell? ⟨w.heap.size,0,none⟩=some (.pointer (some ⟨b,0,none⟩)):=by simp[World.cell?,t0]
  have k1:W.cell? ⟨w.heap.size+1,0,none⟩=some (.string x):=by simp[World.cell?,t1]
  have k2:W.cell? ⟨w.heap.size+1+1,0,none⟩=some (.string ⟨#[]⟩):=by simp[World.cell?,t2]
  have k3:W.frozen? ⟨w.heap.size+1+1,0,none⟩=false:=by simp[World.frozen?,t2]
  have k4:W.cell? ⟨b,0,none⟩=some (.map (some d)):=by simp[World.cell?,tW]
  have k5:W.cell? ⟨Bx,0,none⟩=some (.string y1):=by simp[World.cell?,hbx]
  have k6:W.cell? ⟨Bx,1,none⟩=some (.string y2):=by simp[World.cell?,hbx]
  have l1:=look_dead hPP y1
  have l2:=look_dead hPP y2
  have HBW:=Lib.hid hBW
  have HP:=Lib.hid hp
  have T2:=Lib.hid t2
  clear t0 t1 t2 tW hPP hp
  have hix0: ∀W:World,Sem.run Tryz.prog (Instr.index 138 (.agg #[.string y1, .string y2]) (.int .i64 0)) W= .ok (.string y1) W:=fun W=>by kernel_rfl
  have hix1: ∀W:World,Sem.run Tryz.prog (Instr.index 138 (.agg #[.string y1, .string y2]) (.int .i64 1)) W= .ok (.string y2) W:=fun W=>by kernel_rfl
  gi_wp2
  gi_loopw [18] (fun i wr=> ∃k:Nat,k<=2/\i= .int .i64 k/\wr=W/\Hid ((0<k->sameB y1 x=false)/\(1<k->sameB y2 x=false))) (fun i _=>2-(intOf i).toNat)
  case atStart=>exact⟨0,by omega,rfl,rfl,⟨by omega,by omega⟩⟩
  case round=>
   obtain⟨k,hk,rfl,rfl,hs⟩:=hrel
   obtain rfl|rfl|rfl:k=0\/k=1\/k=2:=by omega
   ·rw[show((0:Nat):Int)=0 from rfl]
    by_cases h1:y1.toList=x.toList
    ·have hb1:(y1.toList==x.toList)=true:=by simpa using h1
     have hm:hasN (y1,y2) x=true:=by simp[hasN,sameB_t h1]
     have ho:otherN (y1,y2) x=y2:=by simp[otherN,sameB_t h1]
     have HM:=Lib.hid hm
     have HO:=Lib.hid ho
     clear hm ho
     cases hd:isDeadP s y2
     ·rw[hd]at l2
      gi_wp2
      have g2:=Boxed.set (.string y2) T2.out
      have HD:=Lib.hid hd
      have hfin: ∀i,SpIx s x w .ret (pre++[(i,y1,y2)]) (wr.setCell ⟨w.heap.size+1+1,0,none⟩ (.string y2)):=fun i=>⟨⟨rfl,pre.map Prod.snd,(y1,y2),by simp,HP.out,HM.out,by rw[HO.out,HD.out];exact g2⟩,B_set (hB0.trans (HBW.out.mono (by omega))) (by simp;omega) _⟩
      first
       |exact⟨(KeepsOthers.setCell _ _ _).from _,hfin _⟩
       |(trace_state;fail "ret")
     ·rw[hd]at l2
      gi_wp2
      have g2:=Boxed.set (.string ⟨#[]⟩) T2.out
      have HD:=Lib.hid hd
      have hfin: ∀i,SpIx s x w .ret (pre++[(i,y1,y2)]) (wr.setCell ⟨w.heap.size+1+1,0,none⟩ (.string ⟨#[]⟩)):=fun i=>⟨⟨rfl,pre.map Prod.snd,(y1,y2),by simp,HP.out,HM.out,by rw[HO.out,HD.out];exact g2⟩,B_set (hB0.trans (HBW.out.mono (by omega))) (by simp;omega) _⟩
      first
       |exact⟨(KeepsOthers.setCell _ _ _).from _,hfin _⟩
       |(trace_state;fail "ret")
    ·have hbb:(y1.toList==x.toList)=false:=by simpa using h1
     have HN:Hid ((0<1->sameB y1 x=false)/\(1<1->sameB y2 x=false)):=⟨fun _=>sameB_f h1,by omega⟩
     gi_wp2
     exact⟨⟨1,by omega,rfl,trivial,HN⟩,by simp[intOf]⟩
   ·rw[show((1:Nat):Int)=1 from rfl]
    by_cases h2:y2.toList=x.toList
    ·have hbb:(y2.toList==x.toList)=true:=by simpa using h2
     have hm:hasN (y1,y2) x=true:=by simp[hasN,sameB_t h2]
     have ho:otherN (y1,y2) x=y1:=by simp[otherN,hs.out.1 (by omega)]
     have HM:=Lib.hid hm
     have HO:=Lib.hid ho
     clear hm ho
     cases hd:isDeadP s y1
     ·rw[hd]at l1
      gi_wp2
      have g2:=Boxed.set (.string y1) T2.out
      have HD:=Lib.hid hd
      have hfin: ∀i,SpIx s x w .ret (pre++[(i,y1,y2)]) (wr.setCell ⟨w.heap.size+1+1,0,none⟩ (.string y1)):=fun i=>⟨⟨rfl,pre.map Prod.snd,(y1,y2),by simp,HP.out,HM.out,by rw[HO.out,HD.out];exact g2⟩,B_set (hB0.trans (HBW.out.mono (by omega))) (by simp;omega) _⟩
      first
       |exact⟨(KeepsOthers.setCell _ _ _).from _,hfin _⟩
       |(trace_state;fail "ret")
     ·rw[hd]at l1
      gi_wp2
      have g2:=Boxed.set (.string ⟨#[]⟩) T2.out
      have HD:=Lib.hid hd
      have hfin: ∀i,SpIx s x w .ret (pre++[(i,y1,y2)]) (wr.setCell ⟨w.heap.size+1+1,0,none⟩ (.string ⟨#[]⟩)):=fun i=>⟨⟨rfl,pre.map Prod.snd,(y1,y2),by simp,HP.out,HM.out,by rw[HO.out,HD.out];exact g2⟩,B_set (hB0.trans (HBW.out.mono (by omega))) (by simp;omega) _⟩
      first
       |exact⟨(KeepsOthers.setCell _ _ _).from _,hfin _⟩
       |(trace_state;fail "ret")
    ·have hbb:(y2.toList==x.toList)=false:=by simpa using h2
     have HN:Hid ((0<2->sameB y1 x=false)/\(1<2->sameB y2 x=false)):=⟨fun _=>hs.out.1 (by omega),fun _=>sameB_f h2⟩
     gi_wp2
     exact⟨⟨2,by omega,rfl,trivial,HN⟩,by simp[intOf]⟩
   ·rw[show((2:Nat):Int)=2 from rfl]
    have hn:hasN (y1,y2) x=false:=by simp[hasN,hs.out.1 (by omega),hs.out.2 (by omega)]
    have HN:=Lib.hid hn
    clear hn
    gi_wp2
    exact⟨KeepsFrom.refl _ _,Below.refl _ _,fun m hm=>by
     rw[List.map_append]at hm
     rcases List.mem_append.1 hm with hm|hm
     ·exact HP.out m hm
     ·simp only[List.map_cons,List.map_nil,List.mem_singleton]at hm
      rw[hm];exact HN.out,HBW.out⟩
 case done=>
  rintro D ys W hD rfl ⟨hp,hBW⟩ hK
  have t2:=(hBW.block (w.heap.size+1+1) (by omega)).trans S2.out
  have c2':W.cell? ⟨w.heap.size+1+1,0,none⟩=some (.string ⟨#[]⟩):=by simp[World.cell?,t2]
  have f2':W.frozen? ⟨w.heap.size+1+1,0,none⟩=false:=by simp[World.frozen?,t2]
  have HY:Hid (spouseP s x=⟨#[]⟩):=by
   show _=_
   rw[backTo_all]at hp
   unfold spouseP
   rw[spouse_none hp]
   simp
  have HK:=Lib.hid hK
  have T2:=Lib.hid t2
  clear hK t2 hp
  gi_wp2
  have g2:=Boxed.set (.string ⟨#[]⟩) T2.out
  have hD2:(W.setCell ⟨w.heap.size+1+1,0,none⟩ (.string ⟨#[]⟩)).heap[D]?=some (.deferred (some [])):=(heap_setCell_other W ⟨w.heap.size+1+1,0,none⟩ _ _ (by simp;omega)).trans HK.out
  refine leaves_marks5 (base:=w.heap.size) [D] _ (by simp) (fun D' hD'=>by
   have:D'=D:=by simpa using hD'
   subst this
   exact⟨by omega,hD2⟩) fun w' hB' hc'=>⟨.string ⟨#[]⟩,results_s rfl _ _ (w.heap.size+1+1) _ rfl (by simp[World.cell?,hc' _ _ _ _ g2]),?_⟩
  exact Ret.of (by rw[HY.out]) ((B_set (hB0.trans (hBW.mono (by omega))) (by simp;omega) _).trans hB')
 case stop=>
  rintro D cc pre W hD hpre ⟨⟨rfl,a,m,h2,h3,h4,h5⟩,hBW⟩ hK
  have HY:Hid (spouseP s x=if isDeadP s (otherN m x)then⟨#[]⟩else otherN m x):=by
   show _=_
   obtain⟨k,hk,rfl⟩:=hpre
   rw[backTo_take _ _ hk]at h2
   have e:s.marriages.reverse=a++m::s.marriages.reverse.drop k:=by
    have:=(List.take_append_drop k s.marriages.reverse).symm
    rw[h2]at this
    simpa using this
   unfold spouseP
   rw[e,spouse_some h4 h3]
  have HK:=Lib.hid hK
  have G2:=Lib.hid h5
  clear hK h5 h4 h3 h2
  gi_wp2
  refine leaves_marks5 (base:=w.heap.size) [D] _ (by simp) (fun D' hD'=>by
   have:D'=D:=by simpa using hD'
   subst this
   exact⟨by omega,HK.out⟩) fun w' hB' hc'=>⟨.string (if isDeadP s (otherN m x)then⟨#[]⟩else otherN m x),results_s rfl _ _ (w.heap.size+1+1) _ rfl (by simp[World.cell?,hc' _ _ _ _ G2.out]),?_⟩
  exact Ret.of (by rw[HY.out]) (hBW.trans hB')
theorem spouse_any (base b:Nat) (s:St) (x:ByteArray) (w:World) (hW:PeoAt base w b s) (hl:s.marriages.length<=100000):
 Calls Tryz.prog 134 #[.pointer (some ⟨b,0,none⟩), .string x] w (Ret w (.string (spouseP s x))):=callsIn_wide.1 (spouse_in base b s x w hW hl)
end Go.Proofs.YtkhkhnellekofaaGreatDoor
namespace Go.Proofs.YtkhkhnellekofaaGreatDoor
open Go.RowKit Go.Shelf
attribute [local go_sem] World.cell?_alloc_mark ext_size ext_cell ext_frozen lt_add_r lt_add_r2 lt_add_r3 lt_add_r4 lt_add_r5 lt_add_r6 lt_add_r7 lt_add_r8
attribute [local go_sem] ext_setCell alloc_setCell_lt
theorem look_kids {base:Nat} {W:World} {B:List Nat} {d c p wl r:Nat} {mv:Value} {s:St} (h:PplAt base W B d c p wl r mv s) (n:ByteArray):
 ∃A cc,(∀W',Below W.heap.size W W'->(Instr.lookup 105 (.map (some c)) (.string n) false).run Tryz.prog W'= .ok (.slice A (childrenP s n).length cc) W')/\(childrenP s n).length<=cc/\Sl W 1 sC A (childrenP s n):=by
 obtain⟨mc,mp,k1,k2,k3,k4,k5,k6⟩:=h.rows
 have hl:=fun W' (hB:Below W.heap.size W W')=>run_lookup mapSS (k1.below hB).at n
 rcases k3 n with⟨h1,h2⟩|⟨v,h1,h2⟩
 ·rw[h1]at hl
  refine⟨none,0,fun W' hB=> ?_,by rw[h2];exact Nat.le_refl _,by rw[h2];exact Sl.nil⟩
  rw[h2]
  exact hl W' hB
 ·rw[h1]at hl
  obtain⟨A,cc,rfl,hS,hc⟩:=h2.sl sC_len
  exact⟨A,cc,hl,hc,hS⟩
def outM (out:List ByteArray):List (ByteArray×Bool):=out.map fun n=>(n,true)
theorem out_put {out:List ByteArray} {n:ByteArray} (h:n∉out):mput eqS n true (outM out)=outM (out++[n]):=by
 induction out with
 |nil=>rfl
 |cons x out ih=>
  have hx:eqS n x=false:=same_ne.2 fun e=>h (by simp[e])
  rw[outM,List.map_cons,mput]
  simp only[hx,Bool.false_eq_true,if_false]
  have:=ih (fun e=>h (by simp[e]))
  simp only[outM]at this
  rw[this]
  rfl
theorem out_get (out:List ByteArray) (n:ByteArray):(mget eqS n (outM out)).getD false=out.any (sameB n):=dead_get n out
theorem sl_one {w:World} {b:Nat} {x:ByteArray} {t:TypeId} {fr:Nat×Nat} (h:w.heap[b]?=some (.cells #[.string x] t fr)):Sl w 1 sC (some ⟨b,0,none⟩) [x]:=fun _=>⟨b,0,rfl,blk_lt h,fun k y hy j u hu=>by
 have hk:k=0:=by have:=(List.getElem?_eq_some_iff.1 hy).1;simp at this;omega
 subst hk
 simp only[List.getElem?_cons_zero,Option.some.injEq]at hy
 subst hy
 match j,hu with
 |0,hu=>simp[sC]at hu;simp[World.cell?,h,<-hu]
 |j+1,hu=>simp[sC]at hu⟩
def DescPost (w:World) (s:St) (nm:ByteArray) (e:Ending) (w':World):Prop:=
 ∃out:List ByteArray,e= .returned (.map (some w.heap.size))/\MapS w' w.heap.size ekS evB (outM out)/\Found s nm out []/\Below w.heap.size w w'
set_option maxRecDepth 100000 in
set_option maxHeartbeats 2000000 in
theorem desc_any (base b:Nat) (s:St) (nm:ByteArray) (w:World) (hW:PeoAt base w b s) (hl:s.children.length<=100000):
 Calls Tryz.prog 103 #[.pointer (some ⟨b,0,none⟩), .string nm] w (DescPost w s nm):=by
 obtain⟨B,d,c,p,wl,r,mv,tv,la,co,h1,h2⟩:=hW
 have hb:=blk_lt h1
 unfold WldC at h1
 have c1:w.cell? ⟨b,1,none⟩=some (.map (some c)):=by simp[World.cell?,h1]
 have HP:=Lib.hid h2
 have H1:=Lib.hid h1
 clear h1 h2
 have hkl: ∀x,(childrenP s x).length<=100000:=fun x=>by
  have:(childrenP s x).length<=s.children.length:=by unfold childrenP;rw[List.length_map];exact List.length_filter_le _ _
  omega
 go_enter Tryz.func103,Tryz.ntmps103
 have hmm:= @run_makeMap Tryz.prog
 go_upto_region 3 with fail
 clear hmm
 have hcw:=c1
 go_loopg [6] (s.children.length+1) (fun gg v wr=> ∃out xs:List ByteArray,OwnS wr w.heap.size 9 1 sC v xs/\MapS wr w.heap.size ekS evB (outM out)/\Below w.heap.size w wr/\w.heap.size+1<=wr.heap.size/\Hid (Found s nm out xs)/\(s.children.length-out.length)+xs.length<=gg/\xs.length<=out.length+1)
 case atStart=>
  refine⟨[],[nm], .inr ⟨w.heap.size+1,0,1,#[.string nm],rfl,by omega,J_new _ _ _ (by simp),Nat.le_refl _,by simp[maxLen],by simp,fun j u hj=> ?_⟩,?_,Bw,by simp,found_start s nm,by simp,by simp⟩
  ·match j,hj with
   |0,hj=>simpa[sC]using hj
   |j+1,hj=>simp[sC]at hj
  ·exact(MapS.new w).below (n:=w.heap.size+1) (B_alloc (Below.refl _ _) _ (by simp)) (by simp)
 case round=>
  obtain⟨out,xs,hown,hm,hB,hsz,HF,hgg,hxl⟩:=hrel
  cases xs with
  |nil=>
   obtain⟨A,cc,rfl,hS,hc⟩:=hown.sl sC_len
   clear hown hS
   go_wp2_with fail
   go_ret
   exact⟨out,rfl,hm,HF.out,hB⟩
  |cons x xs=>
   rcases hown with⟨rfl,h0⟩|⟨g,o,cap,cur,rfl,hbg,hg,hcl,hcm,hcs,hx⟩
   ·cases h0
   have hown:OwnS wr w.heap.size 9 1 sC (.slice (some ⟨g,o,none⟩) (x::xs).length cap) (x::xs):= .inr ⟨g,o,cap,cur,rfl,hbg,hg,hcl,hcm,hcs,hx⟩
   obtain⟨_,h1c,htl,hhd⟩:=hown.tail sC_len
   have hcx:wr.cell? ⟨g,o,none⟩=some (.string x):=hhd 0 _ rfl
   have hcb:wr.cell? ⟨b,1,none⟩=some (.map (some c)):=(hB.cell (p:=⟨b,1,none⟩) hb).trans c1
   obtain⟨KA,kc,hlk,hkc,hKS⟩:=look_kids HP.out x
   have hlk':=hlk wr hB
   have HK:Hid (∀W',Below w.heap.size w W'->Sl W' 1 sC KA (childrenP s x)):=fun W' h=>hKS.keep h
   have hLOOK:Hid (Look s nm x 0 out xs):=found_pop HF.out
   have hkx:=hkl x
   have hxl1:(0:Int)<((x::xs).length:Int):=by simp only[List.length_cons];omega
   have hxl2:(1:Int)<=((x::xs).length:Int):=by omega
   have hxl3:(1:Int)<=(xs.length:Int)+1:=by omega
   have hc1:(1:Int)<=(cap:Int):=by omega
   have hT:=Lib.hid htl
   have hM:=Lib.hid hm
   generalize hks:childrenP s x=ks at hlk' HK hkx hkc
   have HKS:=Lib.hid hks
   clear hks
   have hcl0:=hcl
   have hcs0:=hcs
   have HG:=Lib.hid hg
   clear hlk hKS hx hg hown hhd htl hm HF hcs hcm hcl
   have hT1:Hid (cap=1->OwnS wr w.heap.size 9 1 sC (.slice (some ⟨g,o,none⟩) xs.length 0) xs):=fun e=>by
    have hx0:xs=[]:=List.eq_nil_of_length_eq_zero (by simp at hcl0;omega)
    subst hx0
    exact .inr ⟨g,o,0,cur,rfl,hbg,HG.out,Nat.le_refl _,Nat.zero_le _,by omega,fun j u hj=>by simp at hj⟩
   clear hcl0 hcs0
   go_upto_region 5 with fail
   go_cut [6]from 13 to 42 (fun v wc=>OwnS wr w.heap.size 9 1 sC v xs/\wr=wc)
   case first=>
    by_cases hcap:cap=1
    ·go_wp2_with fail
     all_goals go_meet
     all_goals exact⟨hT1.out hcap,rfl⟩
    ·go_wp2_with fail
     all_goals go_meet
     all_goals exact⟨hT.out,rfl⟩
   case rest=>
    obtain⟨hown,rfl⟩:=hcut
    clear hT hT1 hcx
    have hown':=hown
    obtain⟨QA,qc,rfl,hQS,hQc⟩:=hown'.sl sC_len
    clear hQS hown'
    have HO:=Lib.hid hown
    clear hown
    go_upto_region 7 with fail
    go_loopg [6,28] ks.length (fun gi v i wi=> ∃(j:Nat) (out2 xs2:List ByteArray),j<=ks.length/\ks.length-j<=gi/\i= .int .i64 j/\OwnS wi w.heap.size 9 1 sC v xs2/\MapS wi w.heap.size ekS evB (outM out2)/\Below w.heap.size w wi/\w.heap.size+1<=wi.heap.size/\Hid (Look s nm x j out2 xs2)/\(s.children.length-out2.length)+xs2.length+1<=gk/\xs2.length<=out2.length)
    case atStart=>exact⟨0,out,xs,Nat.zero_le _,Nat.le_refl _,rfl,HO.out,hM.out,hB,hsz,hLOOK,by simp at hgg;omega,by simp at hxl;omega⟩
    case round=>
     obtain⟨j,out2,xs2,hj,hgi,rfl,hown2,hm2,hB2,hsz2,HL2,hgg2,hxl2⟩:=hrel
     have hof:=out_few HL2.out.nd HL2.out.desc
     by_cases hlt:j<ks.length
     ·obtain⟨kb,koff,rfl,hkb,hkc0⟩:=(HK.out wr hB2).at hlt
      obtain⟨ch,hch⟩: ∃ch,ch=ks[j]:=⟨_,rfl⟩
      have c9:wr.cell? ⟨kb,koff+j,none⟩=some (.string ch):=by rw[hch];have:=hkc0 0 _ rfl;simpa using this
      have hlo:=run_lookup mapSB hm2.at ch
      rw[out_get]at hlo
      have hlo':(Instr.lookup 104 (.map (some w.heap.size)) (.string ch) false).run Tryz.prog wr= .ok (.bool (out2.any (sameB ch))) wr:=hlo
      clear hlo
      have hjl:(j:Int)<(ks.length:Int):=by omega
      have hj0:(0:Int)<=(j:Int):=by omega
      have hjx:j<(childrenP s x).length:=by rw[HKS.out];exact hlt
      have hcx2:(childrenP s x)[j]=ch:=by rw[hch];simp only[HKS.out]
      have HCH:=Lib.hid hcx2
      have HCH0:=Lib.hid hch
      have HO2:=Lib.hid hown2
      have HM2:=Lib.hid hm2
      clear hkc0 hch hcx2 hown2 hm2
      cases hin:out2.any (sameB ch)
      ·have hni:ch∉out2:=fun h=>by rw[any_same.2 h]at hin;cases hin
       have HIN:=Lib.hid hin
       have HNI:=Lib.hid hni
       rw[hin]at hlo'
       clear hin hni
       obtain⟨es,c00,hmb,hm9⟩:=HM2.out
       have HMB:=Lib.hid hmb
       clear hmb hm9
       go_wp2_with (first
        |(at_mapUpdate;obtain⟨w1,hrun,hm1,hg1,hs1⟩:=run_updateS mapSB HM2.out ch true;go_loud(refine wpList_update_run rfl _ _ _ rfl _ _ _ rfl rfl rfl w1 hrun ?_))
        |(at_builtin;go_loud(refine wpList_append_S (v:=u6) (n:=xs2.length) (m:=1) rfl _ _ rfl elStr5 sC_len sC_one rfl ((HO2.out.keptM hg1 HMB.out).keep (n:=w1.heap.size) (B_alloc (Below.refl _ _) _)) rfl rfl rfl (sl_one (J_new _ _ _ hs1.symm)) (by simp[maxLen];omega) (by omega) (by simp;omega) ?_);intro v3 w3 h1 h2 h3))
       go_roundg (ks.length-(j+1))
       case measure=>omega
       case rel=>
        refine⟨j+1,out2++[ch],xs2++[ch],by omega,Nat.le_refl _,by go_num,h1,?_,?_,?_,?_,?_,?_⟩
        ·have hA1:MapS (w1.alloc (.cells #[.string ch] 9)) w.heap.size ekS evB (outM (out2++[ch])):=by
          have:=hm1.below (n:=w1.heap.size) (B_alloc (Below.refl _ _) (.cells #[.string ch] 9))
          rwa [out_put HNI.out]at this
         exact hA1.grown h2 (fun e=>by
          have hb1:OwnS w1 w.heap.size 9 1 sC _ xs2:=HO2.out.keptM hg1 HMB.out
          obtain⟨es1,c01,hmb1,_⟩:=hm1
          rcases hb1 with⟨e1,_⟩|⟨g1,o1,cp1,cur1,e1,_,hg1',_⟩
          ·rw[e1]at e;cases e
          ·rw[e1]at e
           simp only[blkOf,Option.some.injEq]at e
           subst e
           rw[hmb1]at hg1'
           simp at hg1')
        ·have hB3:Below w.heap.size w (w1.alloc (.cells #[.string ch] 9)):=B_alloc (hB2.grown hg1 hB2.size (fun k e=>by cases e;exact Nat.le_refl _)) _
         exact hB3.grown h2 hB3.size (fun k e=>(HO2.out.ge k e).1)
        ·have:=h2.size
         simp at this
         omega
        ·have:=look_new HL2.out hjx (by rw[HCH.out];exact HNI.out)
         rwa [HCH.out]at this
        ·have hnd:=look_new HL2.out hjx (by rw[HCH.out];exact HNI.out)
         rw[HCH.out]at hnd
         have:=out_few hnd.nd hnd.desc
         simp at this⊢
         omega
        ·simp;omega
      ·have hni:ch∈out2:=any_same.1 hin
       have HNI:=Lib.hid hni
       rw[hin]at hlo'
       clear hin hni
       go_wp2_with fail
       go_roundg (ks.length-(j+1))
       case measure=>omega
       case rel=>exact⟨j+1,out2,xs2,by omega,Nat.le_refl _,by go_num,HO2.out,HM2.out,hB2,hsz2,look_old HL2.out hjx (by rw[HCH.out];exact HNI.out),hgg2,hxl2⟩
     ·have hjl: ¬(j:Int)<(ks.length:Int):=by omega
      have hje:j=(childrenP s x).length:=by rw[HKS.out];omega
      have HF2:Hid (Found s nm out2 xs2):=look_end (by rw[<-hje];exact HL2.out)
      clear hje
      go_wp2_with fail
      go_roundg ((s.children.length-out2.length)+xs2.length)
      case measure=>omega
      case rel=>exact⟨out2,xs2,hown2,hm2,hB2,hsz2,HF2,Nat.le_refl _,by omega⟩
open Classical in
set_option maxRecDepth 100000 in
set_option maxHeartbeats 2000000 in
theorem descends_any (base b:Nat) (s:St) (nm of:ByteArray) (w:World) (hW:PeoAt base w b s) (hl:s.children.length<=100000):
 Calls Tryz.prog 81 #[.pointer (some ⟨b,0,none⟩), .string nm, .string of] w (Ret w (.bool (decide (Desc s of nm)))):=by
 go_enter Tryz.func81,Tryz.ntmps81
 go_wp2_with (go_at_call 103
              refine(desc_any base b s of _ hW hl).mono ?_
              rintro e wq ⟨out,rfl,hm,hf,hB⟩
              have hlo:(Instr.lookup 104 (.map (some w.heap.size)) (.string nm) false).run Tryz.prog wq= .ok (.bool (out.any (sameB nm))) wq:=by
               have:=run_lookup mapSB hm.at nm
               rw[out_get]at this
               exact this)
 go_ret
 refine Ret.of (bool_eq ?_) hB
 rw[Bool.eq_iff_iff,any_same,decide_eq_true_eq]
 exact found_end hf nm
end Go.Proofs.YtkhkhnellekofaaGreatDoor
namespace Go.Proofs.YtkhkhnellekofaaGreatDoor
open Go.RowKit Go.Shelf
attribute [local go_sem] World.cell?_alloc_mark ext_size ext_cell ext_frozen lt_add_r lt_add_r2 lt_add_r3 lt_add_r4 lt_add_r5 lt_add_r6 lt_add_r7 lt_add_r8
attribute [local go_sem] ext_setCell alloc_setCell_lt
theorem ix_step {gs:List Grave} {f:Grave->Bool} {k:Nat} (h:k<gs.length):((gs.drop k).findIdx? f).map (· +k)=if f gs[k]then some k else((gs.drop (k+1)).findIdx? f).map (· +(k+1)):=by
 rw[List.drop_eq_getElem_cons h,List.findIdx?_cons]
 split
 ·simp
 ·rw[Option.map_map]
  congr 1
  funext x
  show x+1+k=x+(k+1)
  omega
theorem ix_end {gs:List Grave} {f:Grave->Bool} {k:Nat} (h:gs.length<=k):((gs.drop k).findIdx? f).map (· +k)=none:=by
 rw[List.drop_eq_nil_of_le h];rfl
theorem ix_start (gs:List Grave) (f:Grave->Bool):gs.findIdx? f=((gs.drop 0).findIdx? f).map (· +0):=by
 rw[List.drop_zero]
 cases gs.findIdx? f<;>rfl
def ptrOf (ps:List Nat) (i:Option Nat):Value:= .pointer (i.map fun i=>⟨ps.getD i 0,0,none⟩)
set_option maxRecDepth 100000 in
set_option maxHeartbeats 2000000 in
theorem in_any (base b:Nat) (s:St) (la co:Int) (place:ByteArray) (day:Int) (w:World) {B ps:List Nat} {d c p wl r:Nat} {mv tv:Value} (hC:WldC w b d c p wl r mv tv la co) (hT:TombsAt base w B tv ps s.graves) (hl:s.graves.length<=100000):
 Calls Tryz.prog 58 #[.pointer (some ⟨b,0,none⟩), .string place, .int .i64 day] w (Ret w (ptrOf ps (graveIx s place day))):=by
 obtain⟨A,cc,rfl,hS,hcc⟩:=hT.own.sl ptrC_len
 have hb:=blk_lt hC
 unfold WldC at hC
 have c6:w.cell? ⟨b,6,none⟩=some (.slice A ps.length cc):=by simp[World.cell?,hC]
 have hln:=hT.len
 have HT:=Lib.hid hT.all
 have HS:=Lib.hid hS
 clear hC hT hS
 have hR:graveIx s place day=((s.graves.drop 0).findIdx? fun g=>sameB g.place place&&inForceP g day).map (· +0):=ix_start _ _
 generalize graveIx s place day=R at*
 generalize s.graves=gs at*
 have HR:=Lib.hid hR
 clear hR
 go_enter Tryz.func58,Tryz.ntmps58
 go_wp2_with fail
 go_loopw [14] (fun i wr=> ∃k:Nat,k<=ps.length/\i= .int .i64 k/\Hid (R=((gs.drop k).findIdx? fun g=>sameB g.place place&&inForceP g day).map (· +k))/\ ∃z,wr=w.ext z) (fun i _=>ps.length-(intOf i).toNat)
 case atStart=>exact⟨0,Nat.zero_le _,rfl,HR.out,ext_below (Below.refl _ _)⟩
 case round=>
  obtain⟨k,hk,rfl,HX,z,rfl⟩:=hrel
  by_cases hlt:k<ps.length
  ·obtain⟨b',off,rfl,hb',hc⟩:=(HS.out.keep (below_ext w z)).at hlt
   have hgl:k<gs.length:=by omega
   obtain⟨H,hc',D,dc,fr,t1,t2,t3,t4,t5,t6,t7⟩:=(HT.out k _ _ (List.getElem?_eq_getElem hlt) (List.getElem?_eq_getElem hgl)).keep (below_ext w z)
   have hst:=HX.out.trans (ix_step hgl)
   have HST:=Lib.hid hst
   have hpd:ps.getD k 0=ps[k]:=by rw[List.getD_eq_getElem?_getD,List.getElem?_eq_getElem hlt];rfl
   have HPD:=Lib.hid hpd
   clear hst hpd t5 t6 t7
   generalize ps[k]=T at*
   generalize gs[k]=g at*
   have hTl:=blk_lt t1
   unfold TombC at t1
   have k0:(w.ext z).cell? ⟨T,0,none⟩=some (.string g.place):=by simp only[World.cell?,t1];rfl
   have k3:(w.ext z).cell? ⟨T,3,none⟩=some (.int .i64 g.fin):=by simp only[World.cell?,t1];rfl
   have k4:(w.ext z).cell? ⟨T,4,none⟩=some (.slice H g.holders.length hc'):=by simp only[World.cell?,t1];rfl
   have cp:(w.ext z).cell? ⟨b',off+k,none⟩=some (.pointer (some ⟨T,0,none⟩)):=by have:=hc 0 _ rfl;simpa using this
   have K3:=Lib.hid k3
   have K4:=Lib.hid k4
   have hki:(k:Int)<(ps.length:Int):=by omega
   have hk0:(0:Int)<=(k:Int):=by omega
   clear t1 hc k3 k4
   go_wp2_with (go_at_call 90;refine(inForce_any g H hc' T day _ K3.out K4.out).mono ?_;intro e wq hq;rcases Ret.bools hq with⟨zq,rfl,⟨hb,rfl⟩|⟨hb,rfl⟩⟩<;>clear hq)
   all_goals first
    |(go_ret
      have hRk:R=some k:=by rw[HST.out];simp[sameB_t,sameB_f, *]
      rw[hRk]
      refine Ret.of ?_ Bw
      show _=Value.pointer (some ⟨ps.getD k 0,0,none⟩)
      rw[HPD.out]
      rfl)
    |(go_round
      case rel=>exact⟨k+1,by omega,by go_num,(by rw[HST.out];simp[sameB_t,sameB_f, *]:_=_),ext_below Bw⟩
      case measure=>simp[intOf];omega)
  ·have hki: ¬(k:Int)<(ps.length:Int):=by omega
   have he:=HX.out.trans (ix_end (f:=fun g=>sameB g.place place&&inForceP g day) (by omega:gs.length<=k))
   have HE:=Lib.hid he
   clear he
   go_wp2_with fail
   go_ret
   exact Ret.of (by rw[HE.out];rfl) Bw
end Go.Proofs.YtkhkhnellekofaaGreatDoor
namespace Go.Proofs.YtkhkhnellekofaaGreatDoor
open Go.RowKit Go.Shelf
attribute [local go_sem] World.cell?_alloc_mark ext_size ext_cell ext_frozen lt_add_r lt_add_r2 lt_add_r3 lt_add_r4 lt_add_r5 lt_add_r6 lt_add_r7 lt_add_r8
attribute [local go_sem] ext_setCell alloc_setCell_lt
theorem TombAt.kept {base k T:Nat} {W W':World} {B:List Nat} {g:Grave} {cs:Array Value} {t:TypeId} {fr:Nat×Nat} (h:TombAt W base B T g) (hg:W.grownBy W' (some k)) (hx:W.heap[k]?=some (.cells cs t fr)) (hne:T≠k) (h1:t≠63) (h2:t≠9):TombAt W' base B T g:=by
 obtain⟨H,hc,D,dc,fr',t1,t2,t3,t4,t5,t6,t7⟩:=h
 exact⟨H,hc,D,dc,fr',(hg.block T (blk_lt t1) (fun e=>hne (by simpa using e))).trans t1,t2,t3,t4,t5.kept hg hx h1,t6.kept hg hx h2,t7⟩
theorem TombAt.ne {base k T:Nat} {W:World} {B:List Nat} {g:Grave} {cs:Array Value} {t:TypeId} {fr:Nat×Nat} (h:TombAt W base B T g) (hx:W.heap[k]?=some (.cells cs t fr)) (h1:t≠88):T≠k:=by
 obtain⟨H,hc,D,dc,fr',t1,t2,_⟩:=h
 rintro rfl
 rw[t1]at hx
 simp only[Option.some.injEq,Obj.cells.injEq]at hx
 exact h1 hx.2.1.symm
theorem TombsAt.mem {base:Nat} {W:World} {B ps:List Nat} {tv:Value} {gs:List Grave} (h:TombsAt base W B tv ps gs) {T:Nat} (hT:T∈ps): ∃g,TombAt W base B T g:=by
 obtain⟨i,hi,rfl⟩:=List.getElem_of_mem hT
 exact⟨_,h.all i _ _ (List.getElem?_eq_getElem hi) (List.getElem?_eq_getElem (by have:=h.len;omega))⟩
theorem TombsAt.lt {base:Nat} {W:World} {B ps:List Nat} {tv:Value} {gs:List Grave} (h:TombsAt base W B tv ps gs) {T:Nat} (hT:T∈ps):T<W.heap.size:=by
 obtain⟨g,H,hc,D,dc,fr',t1,_⟩:=h.mem hT
 exact blk_lt t1
theorem TombsAt.kept {base k:Nat} {W W':World} {B ps:List Nat} {tv:Value} {gs:List Grave} {cs:Array Value} {t:TypeId} {fr:Nat×Nat} (h:TombsAt base W B tv ps gs) (hg:W.grownBy W' (some k)) (hx:W.heap[k]?=some (.cells cs t fr)) (h1:t≠63) (h2:t≠9) (h3:t≠88) (h4:t≠84):TombsAt base W' B tv ps gs:=
 ⟨h.own.kept hg hx h4,h.len,h.nd,fun i T g e1 e2=>(h.all i T g e1 e2).kept hg hx ((h.all i T g e1 e2).ne hx h3) h1 h2⟩
theorem wldC_set6 {W:World} {b d c p wl r:Nat} {mv tv:Value} {la co:Int} (h:WldC W b d c p wl r mv tv la co) (v':Value):WldC (W.setCell ⟨b,6,none⟩ v') b d c p wl r mv v' la co:=by
 unfold WldC at*
 have:=Joins.block_setCell (i:=6) h v'
 simpa using this
theorem wld_push {base b:Nat} {W w1:World} {B ps:List Nat} {d c p wl r T:Nat} {mv tv v':Value} {s:St} {g:Grave} {la co:Int} (hb:base<=b) (hC:WldC W b d c p wl r mv tv la co) (hP:PplAt base W B d c p wl r mv s) (hT:TombsAt base W B tv ps s.graves)
 (hN:TombAt W base B T g) (hn:T∉ps) (h1:OwnS w1 base 84 1 ptrC v' (ps++[T])) (h2:W.grownBy w1 (blkOf tv)) (h3: ∀k,blkOf v'=some k->blkOf tv=some k\/W.heap.size<=k):
 WldAt base (w1.setCell ⟨b,6,none⟩ v') b {s with graves:=s.graves++[g]} la co/\WldC w1 b d c p wl r mv tv la co:=by
 have hbl:=blk_lt hC
 have hown:=hT.own
 have hcs: ∀k,blkOf tv=some k-> ∃cs fr,W.heap[k]?=some (.cells cs 84 fr):=fun k hk=>by
  rcases hown with⟨rfl,_⟩|⟨g',o,c',cur,rfl,_,hg',_⟩
  ·cases hk
  ·simp only[blkOf,Option.some.injEq]at hk
   subst hk
   exact⟨cur,_,hg'⟩
 have hbt:blkOf tv≠some b:=fun e=>by
  obtain⟨cs,fr,hx⟩:=hcs b e
  unfold WldC at hC
  rw[hC]at hx
  simp at hx
 have hC1:WldC w1 b d c p wl r mv tv la co:=(h2.block b hbl (fun e=>hbt e.symm)).trans hC
 have hP1:PplAt base w1 B d c p wl r mv s:=by
  cases hk:blkOf tv with
  |none=>rw[hk]at h2;exact hP.keep (n:=W.heap.size) ⟨h2.os,h2.tape,h2.output,h2.size,fun i hi=>h2.block i hi (by simp)⟩
  |some k=>
   obtain⟨cs,fr,hx⟩:=hcs k hk
   rw[hk]at h2
   exact hP.kept h2 hx (by decide) (by decide) (by decide)
 have hall: ∀ {T':Nat} {g':Grave},TombAt W base B T' g'->TombAt w1 base B T' g':=fun {T' g'} h=>by
  cases hk:blkOf tv with
  |none=>rw[hk]at h2;exact h.keep (n:=W.heap.size) ⟨h2.os,h2.tape,h2.output,h2.size,fun i hi=>h2.block i hi (by simp)⟩
  |some k=>
   obtain⟨cs,fr,hx⟩:=hcs k hk
   rw[hk]at h2
   exact h.kept h2 hx (h.ne hx (by decide)) (by decide) (by decide)
 refine⟨?_,hC1⟩
 have hgs:=grown_set w1 b 6 v'
 refine⟨B,d,c,p,wl,r,mv,v',ps++[T],hb,wldC_set6 hC1 v',?_,?_⟩
 ·have:=hP1.kept hgs hC1 (by decide) (by decide) (by decide)
  exact⟨this.nd,this.ge,this.dead,this.rows,this.marr,this.wills,this.ren⟩
 ·refine⟨h1.kept hgs hC1 (by decide),by simp[hT.len],?_,fun i T' g' e1 e2=> ?_⟩
  ·rw[List.nodup_append]
   exact⟨hT.nd,by simp,fun a ha b' hb' e=>by rw[List.mem_singleton.1 hb']at e;exact hn (e▸ha)⟩
  ·have hT':TombAt w1 base B T' g':=by
    by_cases hi:i<ps.length
    ·have hi2:i<s.graves.length:=by have:=hT.len;omega
     rw[List.getElem?_append_left hi]at e1
     rw[List.getElem?_append_left hi2]at e2
     exact hall (hT.all i T' g' e1 e2)
    ·have hi1:i=ps.length:=by have:=(List.getElem?_eq_some_iff.1 e1).1;simp at this;omega
     subst hi1
     simp at e1
     rw[hT.len]at e2
     simp at e2
     subst e1 e2
     exact hall hN
   exact hT'.kept hgs hC1 (hT'.ne hC1 (by decide)) (by decide) (by decide)
def KeepD (w w':World):Prop:= ∀(k:Nat) (cur:Array Value) (fr:Nat×Nat),w.heap[k]?=some (.cells cur 90 fr)->w'.heap[k]?=w.heap[k]?
section
variable {w w' w2:World}
theorem KeepD.below (h:Below w.heap.size w w'):KeepD w w':=fun k _ _ hk=>h.block k (blk_lt hk)
theorem KeepD.trans (h:KeepD w w') (h2:KeepD w' w2):KeepD w w2:=fun k cur fr hk=>by
 have e:=h k cur fr hk
 exact(h2 k cur fr (e.trans hk)).trans e
theorem KeepD.cells {g:Nat} {cs:Array Value} {t:TypeId} {fr:Nat×Nat} (hg:w.grownBy w' (some g)) (hx:w.heap[g]?=some (.cells cs t fr)) (hne:t≠90):KeepD w w':=fun k cur f hk=>
 hg.block k (blk_lt hk) (fun e=>by
  simp only[Option.some.injEq]at e
  subst e
  rw[hx]at hk
  simp only[Option.some.injEq,Obj.cells.injEq]at hk
  exact hne hk.2.1)
theorem KeepD.map {g:Nat} {es:Array MapEntry} {c:Nat} (hg:w.grownBy w' (some g)) (hx:w.heap[g]?=some (.map es c)):KeepD w w':=fun k cur f hk=>
 hg.block k (blk_lt hk) (fun e=>by
  simp only[Option.some.injEq]at e
  subst e
  rw[hx]at hk
  simp at hk)
theorem KeepD.own {α:Type} {base:Nat} {e:TypeId} {size:Nat} {f:α->List Value} {v:Value} {xs:List α} (h:OwnS w base e size f v xs) (hg:w.grownBy w' (blkOf v)) (hne:e≠90):KeepD w w':=by
 rcases h with⟨rfl,_⟩|⟨g,o,c,cur,rfl,_,hx,_⟩
 ·exact fun k cur f hk=>hg.block k (blk_lt hk) (by simp[blkOf])
 ·exact KeepD.cells hg hx hne
end
def TakePost (base b:Nat) (x:St×Int) (la co:Int) (w:World) (e:Ending) (w':World):Prop:=
 e= .returned (.int .i64 x.2)/\WldAt base w' b x.1 la co/\Below base w w'/\KeepD w w'
def Deed.v (d:Deed) (B:Option Addr) (c:Nat):Value:= .agg #[.int .i64 d.kind, .int .i64 d.day, .string d.place, .string d.frm, .slice B d.to.length c, .int .i64 d.cls, .int .i64 d.years]
theorem rpart_rat {p:RPart} (h:isShareP 16 p.num p.den=true):p.rat.num=p.num/\(p.rat.den:Int)=p.den:=⟨(share_rat h).1,(share_rat h).2.1⟩
theorem given_snoc (l:List RPart) {k:Nat} (h:k<l.length):givenAll (l.take (k+1)) []=givenP (givenAll (l.take k) []) l[k].name l[k].rat:=by
 rw[List.take_succ_eq_append_getElem h]
 unfold givenAll
 rw[List.foldl_append]
 rfl
theorem sl_ptr {w:World} {b T:Nat} {t:TypeId} {fr:Nat×Nat} (h:w.heap[b]?=some (.cells #[.pointer (some ⟨T,0,none⟩)] t fr)):Sl w 1 ptrC (some ⟨b,0,none⟩) [T]:=fun _=>⟨b,0,rfl,blk_lt h,fun k y hy j u hu=>by
 have hk:k=0:=by have:=(List.getElem?_eq_some_iff.1 hy).1;simp at this;omega
 subst hk
 simp only[List.getElem?_cons_zero,Option.some.injEq]at hy
 subst hy
 match j,hu with
 |0,hu=>simp[ptrC]at hu;simp[World.cell?,h,<-hu]
 |j+1,hu=>simp[ptrC]at hu⟩
theorem firsts_share: ∀ {l:List RPart} {out:Parts} {seen:List ByteArray},firstsP l seen=true->(∀p∈out,p.1∈seen)-> ∀k (h:k<l.length),shareP (givenAll (l.take k) out) l[k].name=0
 | [],_,_,_,_,_,h=>absurd h (by simp)
 |p::l,out,seen,hf,ho,0,_=>by
  rw[firstsP,Bool.and_eq_true]at hf
  have h1:p.name∉seen:=by
   have:=hf.1
   simp only[Bool.not_eq_true']at this
   intro h
   rw[any_same.2 h]at this
   cases this
  exact(share_none fun q hq e=>h1 (by have e':q.1=p.name:=e;rw[<-e'];exact ho q hq)).1
 |p::l,out,seen,hf,ho,k+1,h=>by
  rw[firstsP,Bool.and_eq_true]at hf
  exact firsts_share (l:=l) (out:=givenP out p.name p.rat) hf.2 (fun q hq=>by
   rcases given_mem hq with e|hq
   ·rw[e];simp
   ·exact List.mem_cons_of_mem _ (ho q hq)) k (by simpa using h)
theorem take_same {base b:Nat} {s:St} {x:St×Int} {la co er:Int} {w w':World} (hW:WldAt base w b s la co) (hB:Below w.heap.size w w') (hx:x=(s,er)):TakePost base b x la co w (.returned (.int .i64 er)) w':=by
 rw[hx]
 exact⟨rfl,hW.keep hB,hB.mono (by have:=hW.lt;omega),KeepD.below hB⟩
theorem parts_split {shares all:Bool} {frm:ByteArray} {l:List RPart} (h:partsOk shares all frm l=true):firstsP l []=true/\ ∀p∈l,sameB p.name frm=false:=by
 unfold partsOk at h
 simp only[Bool.and_eq_true,List.all_eq_true,Bool.not_eq_true']at h
 exact⟨h.1.1,h.1.2⟩
theorem set_lit (base T:Nat) (xs:Parts) (v:Value) (pl:ByteArray) (cl fr en:Int) (dv:Value) (p:RPart) (w:World) (hp:isShareP 16 p.num p.den=true) (hT:TombC w T pl cl fr en v dv) (hbT:base<=T) (hown:OwnS w base 63 3 partCells v xs) (hA:AscP xs) (hl:xs.length<=90000):
 Calls Tryz.prog 126 #[.pointer (some ⟨T,0,none⟩), .string p.name, .agg #[.int .i64 p.num, .int .i64 p.den]] w (SetPost w base T pl cl fr en dv v (setP xs p.name p.rat)):=by
 have h:=set_any base T xs v pl cl fr en dv p.name p.rat w hT hbT hown hA hl
 rw[(rpart_rat hp).1,(rpart_rat hp).2]at h
 exact h
theorem good_take {l:List RPart} (h: ∀p∈l,0<p.rat/\IsN 720720 p.rat/\isShareP 16 p.num p.den=true) (k:Nat):GoodParts (givenAll (l.take k) []):=
 (given_all (l:=l.take k) good_nil (by simp) fun p hp=>⟨(h p (List.mem_of_mem_take hp)).1,(h p (List.mem_of_mem_take hp)).2.1⟩).1
theorem given_len (n:ByteArray) (q:Rat): ∀l:Parts,(givenP l n q).length<=l.length+1
 | []=>by unfold givenP;split<;>simp
 |p::l=>by
  have:=given_len n q l
  unfold givenP
  split
  ·simp
  ·split
   ·simpa using this
   ·split<;>simp<;>omega
theorem givenAll_len: ∀(l:List RPart) (out:Parts),(givenAll l out).length<=out.length+l.length
 | [],out=>by simp[givenAll]
 |p::l,out=>by
  have h1:=givenAll_len l (givenP out p.name p.rat)
  have h2:=given_len p.name p.rat out
  show(givenAll l (givenP out p.name p.rat)).length<=_
  simp
  omega
set_option maxRecDepth 100000 in
set_option maxHeartbeats 2000000 in
theorem grant_any (base b:Nat) (s:St) (la co:Int) (d:Deed) (B:Option Addr) (c:Nat) (w:World) (hW:WldAt base w b s la co) (hL:LensIn w) (hd:OkD d) (hk:d.kind=0) (hlen:s.graves.length<=1000) (hcap:d.to.length<=c) (hS:Sl w 3 RPart.cells B d.to):
 Calls Tryz.prog 116 #[.pointer (some ⟨b,0,none⟩),d.v B c] w (TakePost base b (grantP s d) la co w):=by
 have hW0:=hW
 obtain⟨Bk,dd,cc,pp,wl,rr,mv,tv,ps,hb0,hC,hP,hT⟩:=hW
 have hp:=(hd.parts (.inl hk)).2
 have hsh:=(parts_ok hp).1
 have hfi:=(parts_split hp).1
 have hd1:=hd.day
 have hd2:=hd.years
 have hdl:=hd.len
 clear hp hd hk
 obtain⟨kd,dy,pl,fr,ts,cl,yr⟩:=d
 simp only at*
 have hbl:=blk_lt hC
 have HIN:=Lib.hid (fun W (hB:Below w.heap.size w W)=>in_any base b s la co pl dy W (hC.keep hB) (hT.keep hB) (by omega))
 have HAD:=Lib.hid (fun W (hB:Below w.heap.size w W)=>anyDead_any base b s ts B _ c W rfl (by omega) (hW0.peo.keep hB) (hS.keep hB))
 have HLT:=Lib.hid (fun W (hB:Below w.heap.size w W)=>later5_any dy yr W (hL.keep hB) hd1.1 hd1.2 hd2.1 hd2.2)
 have HW:=Lib.hid hW0
 have HSH:=Lib.hid hsh
 have HFI:=Lib.hid hfi
 have HC:=Lib.hid hC
 have HP:=Lib.hid hP
 have HT:=Lib.hid hT
 have HS:=Lib.hid hS
 clear hW0 hC hP hT hS hsh hfi hL
 unfold Deed.v
 simp only
 go_enter Tryz.func116,Tryz.ntmps116
 go_upto_block 0 with fail
 cases hix:graveIx s pl dy with
 |some i=>
  rw[hix]at HIN
  have HG:Hid (grantP s ⟨kd,dy,pl,fr,ts,cl,yr⟩=(s,13)):=by show _=_;simp[grantP,hix]
  clear hix
  go_wp2_with (go_at_call 58;refine(HIN.out _ Bw).mono ?_;rintro e wq ⟨rfl,z,rfl⟩;simp only[ptrOf,Option.map_some])
  go_ret
  exact take_same HW.out Bw HG.out
 |none=>
  rw[hix]at HIN
  have HIX:=Lib.hid hix
  clear hix
  go_cut [5]from 9 (fun v wc=>v= .int .i64 (if decide (0<yr)then afterP dy yr else-1)/\Hid (grantP s ⟨kd,dy,pl,fr,ts,cl,yr⟩=({s with graves:=s.graves++[⟨pl,cl,if decide (0<yr)then afterP dy yr else-1,givenAll ts [],[]⟩]},0))/\Below w.heap.size w wc/\w.heap.size<wc.heap.size/\wc.heap[w.heap.size]?=some (.cells #[.int .i64 kd, .int .i64 dy, .string pl, .string fr, .slice B ts.length c, .int .i64 cl, .int .i64 yr] 90))
  case first=>
   generalize hR:afterP dy yr=R at*
   have HR:=Lib.hid hR
   clear hR
   go_wp2_with (first
    |(go_at_call 58;refine(HIN.out _ Bw).mono ?_;rintro e wq ⟨rfl,z,rfl⟩;simp only[ptrOf,Option.map_none])
    |(go_at_call 124;refine(HAD.out _ Bw).mono ?_;intro e wq hq;rcases Ret.bools hq with⟨zq,rfl,⟨hb,rfl⟩|⟨hb,rfl⟩⟩<;>clear hq)
    |(go_at_call 125;refine(HLT.out _ Bw).mono ?_;rintro e wq ⟨rfl,z2,rfl⟩))
   all_goals first
    |(go_ret
      exact take_same HW.out Bw (by simp[grantP,HIX.out,HR.out, *]))
    |(go_meet
      refine⟨(by first|(simp[*];done)|(simp[*];omega)),(by first|(simp[grantP,HIX.out,HR.out, *];done)|(simp[grantP,HIX.out,HR.out, *];omega):_=_),Bw,by simp[ext_size];omega,?_⟩
      repeat(first|exact J_new _ _ _ rfl|with_reducible refine J_ext ?_|with_reducible refine J_alloc ?_))
  case rest=>
   obtain⟨rfl,HG,hB,hsz,g0⟩:=hcut
   generalize(if decide (0<yr)=true then afterP dy yr else-1)=en at*
   clear HIN HAD HLT
   have d0:wc.cell? ⟨w.heap.size,0,none⟩=some (.int .i64 kd):=by simp only[World.cell?,g0];rfl
   have d1:wc.cell? ⟨w.heap.size,1,none⟩=some (.int .i64 dy):=by simp only[World.cell?,g0];rfl
   have d2:wc.cell? ⟨w.heap.size,2,none⟩=some (.string pl):=by simp only[World.cell?,g0];rfl
   have d3:wc.cell? ⟨w.heap.size,3,none⟩=some (.string fr):=by simp only[World.cell?,g0];rfl
   have d4:wc.cell? ⟨w.heap.size,4,none⟩=some (.slice B ts.length c):=by simp only[World.cell?,g0];rfl
   have d5:wc.cell? ⟨w.heap.size,5,none⟩=some (.int .i64 cl):=by simp only[World.cell?,g0];rfl
   have d6:wc.cell? ⟨w.heap.size,6,none⟩=some (.int .i64 yr):=by simp only[World.cell?,g0];rfl
   have hne:w.heap.size≠wc.heap.size:=by omega
   have hbT:base<=wc.heap.size:=by omega
   have hps:wc.heap.size∉ps:=fun h=>by have:=HT.out.lt h;omega
   have G0:=Lib.hid g0
   clear g0
   go_wp2_with fail
   go_loopw [45] (fun i wr=> ∃(k:Nat) (v:Value),k<=ts.length/\i= .int .i64 k/\TombC wr wc.heap.size pl cl dy en v (.slice none 0 0)/\OwnS wr wc.heap.size 63 3 partCells v (givenAll (ts.take k) [])/\Below wc.heap.size wc wr) (fun i _=>ts.length-(intOf i).toNat)
   case atStart=>exact⟨0, .slice none 0 0,Nat.zero_le _,rfl,J_new _ _ _ rfl,OwnS.nil,Bw⟩
   case round=>
    obtain⟨k,v,hk,rfl,hTC,hOw,hBr⟩:=hrel
    have hBw:Below w.heap.size w wr:=hB.trans (hBr.mono (by omega))
    have hwr:=hBr.size
    have hTl:=blk_lt hTC
    have hgd:=good_take HSH.out k
    have hgl:=givenAll_len (ts.take k) []
    have hgl2:(ts.take k).length<=8:=by rw[List.length_take];omega
    have HGD:=Lib.hid hgd
    simp only[List.length_nil,Nat.zero_add]at hgl
    clear hgd
    by_cases hlt:k<ts.length
    ·obtain⟨b',off,rfl,hb',hc⟩:=(HS.out.keep hBw).at hlt
     have hsp:=firsts_share (out:=[]) HFI.out (by simp) k hlt
     have hpm:=HSH.out ts[k] (List.getElem_mem hlt)
     have hgs:=given_snoc ts hlt
     generalize ts[k]=p at*
     obtain⟨pn,pu,pd⟩:=p
     have h0:wr.cell? ⟨b',off+k*3,none⟩=some (.string pn):=hc 0 _ rfl
     have h1:wr.cell? ⟨b',off+k*3+1,none⟩=some (.int .i64 pu):=hc 1 _ rfl
     have h2:wr.cell? ⟨b',off+k*3+2,none⟩=some (.int .i64 pd):=hc 2 _ rfl
     have HN:Hid (setP (givenAll (ts.take k) []) pn (RPart.rat ⟨pn,pu,pd⟩)=givenAll (ts.take (k+1)) []):=by
      show _=_
      have:=set_given HGD.out (n:=pn) (q:=RPart.rat ⟨pn,pu,pd⟩) (by have:=hpm.1;grind)
      simp only at hsp
      rw[hsp,Rat.zero_add]at this
      rw[this,hgs]
     have HSET:=Lib.hid (fun W (hB':Below wr.heap.size wr W)=>set_lit wc.heap.size wc.heap.size (givenAll (ts.take k) []) v pl cl dy en (.slice none 0 0) ⟨pn,pu,pd⟩ W hpm.2.2 ((hB'.block _ hTl).trans hTC) (Nat.le_refl _) (hOw.keep hB') HGD.out.asc (by omega))
     have hki:(k:Int)<(ts.length:Int):=by omega
     have hk0:(0:Int)<=(k:Int):=by omega
     have hkc:(k:Int)<=(c:Int):=by omega
     clear hc hsp hpm hgs hTC hOw
     go_wp2_with (go_at_call 126;refine(HSET.out _ Bw).mono ?_;rintro e wq ⟨rfl,v',t1,t2,t3,_⟩)
     go_round
     case rel=>exact⟨k+1,v',by omega,by go_num,t1,by rw[<-HN.out];exact t2,Below.trans Bw t3⟩
     case measure=>simp[intOf];omega
    ·have hki: ¬(k:Int)<(ts.length:Int):=by omega
     rw[List.take_of_length_le (by omega)]at hOw
     obtain⟨HA,hac,rfl,hlc,hro⟩:=hOw.ro
     have hN:TombAt wr base Bk wc.heap.size ⟨pl,cl,en,givenAll ts [],[]⟩:=⟨HA,hac,none,0,dy,hTC,hbT,hlc,Nat.le_refl _,hro,Ro.nil,by simp⟩
     have HN:=Lib.hid hN
     have hCr:WldC wr b dd cc pp wl rr mv tv la co:=HC.out.keep hBw
     unfold WldC at hCr
     have c6:wr.cell? ⟨b,6,none⟩=some tv:=by simp only[World.cell?,hCr];rfl
     have hbl2:b<wr.heap.size:=blk_lt hCr
     have hpl:ps.length<=1000:=by rw[HT.out.len];exact hlen
     have hge:=HT.out.own.ge
     have HGE:=Lib.hid hge
     clear hTC hOw hro hN hCr hge
     go_wp2_with (at_builtin
                  go_loud(refine wpList_append_S (v:=tv) (n:=ps.length) (m:=1) rfl _ _ rfl elTomb ptrC_len ptrC_one rfl (HT.out.own.keep (n:=w.heap.size) Bw) rfl rfl rfl (sl_ptr (J_new _ _ _ rfl)) (by simp[maxLen];omega) (by omega) (by simp;omega) ?_)
                  intro v3 w3 h1 h2 h3
                  obtain⟨A3,q3,hv3,_,_⟩:=h1.sl ptrC_len
                  rw[List.length_append]at hv3
                  subst hv3
                  go_loud(obtain⟨hpost,hc3⟩:=wld_push hb0 (HC.out.keep (n:=w.heap.size) Bw) (HP.out.keep (n:=w.heap.size) Bw) (HT.out.keep (n:=w.heap.size) Bw) (HN.out.keep (n:=wr.heap.size) Bw) hps h1 h2 h3)
                  have HPO:=Lib.hid hpost
                  go_loud(have hb3:=Below.grown (B:=base) (a:=w) (Below.mono (B:=w.heap.size) Bw (by omega)) h2 (by simp;omega) (fun j hj=>(HGE.out j hj).1))
                  go_loud(have hkd:=((KeepD.below (w:=w) Bw).trans (KeepD.own (HT.out.own.keep (n:=w.heap.size) Bw) h2 (by decide))).trans (KeepD.cells (grown_set w3 b 6 (.slice A3 (ps.length+[wc.heap.size].length) q3)) hc3 (by decide)))
                  have HKD:=Lib.hid hkd
                  unfold WldC at hc3
                  have k6:w3.cell? ⟨b,6,none⟩=some tv:=(by simp only[World.cell?,hc3];rfl)
                  have f6:w3.frozen? ⟨b,6,none⟩=false:=(by simp only[World.frozen?,hc3];rfl)
                  have HB3:=Lib.hid hb3
                  clear hpost hc3 hb3 h1 h2 h3 hkd)
     go_ret
     rw[HG.out]
     exact⟨rfl,HPO.out,B_set HB3.out hb0 _,HKD.out⟩
end Go.Proofs.YtkhkhnellekofaaGreatDoor
namespace Go.Proofs.YtkhkhnellekofaaGreatDoor
open Go.RowKit Go.Shelf
attribute [local go_sem] World.cell?_alloc_mark ext_size ext_cell ext_frozen lt_add_r lt_add_r2 lt_add_r3 lt_add_r4 lt_add_r5 lt_add_r6 lt_add_r7 lt_add_r8
attribute [local go_sem] ext_setCell alloc_setCell_lt
def ClonePost {α:Type} (w:World) (e:TypeId) (size:Nat) (f:α->List Value) (xs:List α) (en:Ending) (w':World):Prop:=
 ∃v,en= .returned v/\OwnS w' w.heap.size e size f v xs/\Below w.heap.size w w'
set_option maxRecDepth 100000 in
set_option maxHeartbeats 2000000 in
theorem clonePart_any (xs:List (ByteArray×Rat)) (L:Option Addr) (n lc:Nat) (w:World) (hn:n=xs.length) (hl:xs.length<=100000) (hS:Sl w 3 partCells L xs):
 Calls Tryz.prog 129 #[.slice L n lc] w (ClonePost w 63 3 partCells xs):=by
 have HM:=Lib.hid hn
 have q22: ∀(w:World) (a:Option Addr) (n c n' c':Nat),(binOp .eql 53 (.slice a n c) (.slice none n' c')).run Tryz.prog w= .ok (.bool a.isNone) w:=fun w a n c n' c'=>Lib.run_eql_slice_nil w _ _ a n c n' c' Tryz.underlying53
 clear hn
 go_enter Tryz.func129,Tryz.ntmps129
 cases L with
 |none=>
  have h0:xs=[]:=by
   cases xs with
   |nil=>rfl
   |cons y ys=>obtain⟨b,off,h,_⟩:=hS (by simp);cases h
  subst h0
  go_wp2_with fail
  go_ret
  exact⟨_,rfl,OwnS.nil,Below.refl _ _⟩
 |some ad=>
  go_wp2_with (at_builtin;refine wpList_append_sl rfl _ _ rfl elPart part_len part_one rfl (World.ownsRow_made w #[] 0 (Nat.le_refl _) (Nat.zero_le _) (by simp)) rfl HM.out (hS.keep Bw) ?q1 ?q2 (by simp) ?_)
  case q1=>simp[maxLen,HM.out];omega
  case q2=>simp[HM.out];omega
  intro v' w' h1 h2 h3
  go_wp2_with fail
  go_ret
  refine⟨v',rfl,OwnS.of_own part_len (by simpa[HM.out]using h1),Below.grown Bw h2 (by simp) (by intro k hk;simp[Value.ownBlock]at hk;omega)⟩
set_option maxRecDepth 100000 in
set_option maxHeartbeats 2000000 in
theorem cloneStr_any (xs:List ByteArray) (L:Option Addr) (n lc:Nat) (w:World) (hn:n=xs.length) (hl:xs.length<=100000) (hS:Sl w 1 sC L xs):
 Calls Tryz.prog 98 #[.slice L n lc] w (ClonePost w 9 1 sC xs):=by
 have HM:=Lib.hid hn
 have q22: ∀(w:World) (a:Option Addr) (n c n' c':Nat),(binOp .eql 86 (.slice a n c) (.slice none n' c')).run Tryz.prog w= .ok (.bool a.isNone) w:=fun w a n c n' c'=>Lib.run_eql_slice_nil w _ _ a n c n' c' Tryz.underlying86
 clear hn
 go_enter Tryz.func98,Tryz.ntmps98
 cases L with
 |none=>
  have h0:xs=[]:=by
   cases xs with
   |nil=>rfl
   |cons y ys=>obtain⟨b,off,h,_⟩:=hS (by simp);cases h
  subst h0
  go_wp2_with fail
  go_ret
  exact⟨_,rfl,OwnS.nil,Below.refl _ _⟩
 |some ad=>
  go_wp2_with (at_builtin;refine wpList_append_sl rfl _ _ rfl elStr5 sC_len sC_one rfl (World.ownsRow_made w #[] 0 (Nat.le_refl _) (Nat.zero_le _) (by simp)) rfl HM.out (hS.keep Bw) ?q1 ?q2 (by simp) ?_)
  case q1=>simp[maxLen,HM.out];omega
  case q2=>simp[HM.out];omega
  intro v' w' h1 h2 h3
  go_wp2_with fail
  go_ret
  refine⟨v',rfl,OwnS.of_own sC_len (by simpa[HM.out]using h1),Below.grown Bw h2 (by simp) (by intro k hk;simp[Value.ownBlock]at hk;omega)⟩
def MarkAt (W:World) (C:Nat) (f:Bool):Prop:=W.heap[C]?=some (.cells #[.bool f] 159)
theorem MarkAt.drew {W:World} {C:Nat} {f:Bool} (h:MarkAt W C f):MarkAt W.drew C f:=h
theorem MarkAt.ext {W:World} {C:Nat} {f:Bool} (h:MarkAt W C f) (z:Ez):MarkAt (W.ext z) C f:=J_ext h
theorem MarkAt.alloc {W:World} {C:Nat} {f:Bool} (h:MarkAt W C f) (o:Obj):MarkAt (W.alloc o) C f:=J_alloc h
theorem MarkAt.keep {n:Nat} {W W':World} {C:Nat} {f:Bool} (h:MarkAt W C f) (hB:Below n W W') (hn:C<n):MarkAt W' C f:=(hB.block C hn).trans h
theorem MarkAt.grown {W W':World} {C:Nat} {f:Bool} {k:Nat} (h:MarkAt W C f) (hg:W.grownBy W' (some k)) (hn:C≠k):MarkAt W' C f:=(hg.block C (blk_lt h) (fun e=>hn (by simpa using e))).trans h
theorem B_cell {n b o:Nat} {w W:World} (h:Below n w W) (hb:b<n):W.cell? ⟨b,o,none⟩=w.cell? ⟨b,o,none⟩:=h.cell (p:=⟨b,o,none⟩) hb
theorem G_cell {k b o:Nat} {w W:World} (h:w.grownBy W (some k)) (hb:b<w.heap.size) (hk:b≠k):W.cell? ⟨b,o,none⟩=w.cell? ⟨b,o,none⟩:=
 World.cell?_of_block (w:=w) (h.block b hb (fun e=>hk (by simpa using e)))
def MarkPost (w:World) (C:Nat) (f:Bool) (r:Rat) (e:Ending) (w':World):Prop:=
 e= .returned (fracV (seenQ r))/\MarkAt w' C (f||bigQ r)/\w.grownBy w' (some C)
theorem grown_of_ext (w:World) (z:Ez) (row:Option Nat):w.grownBy (w.ext z) row:=grown_ext (grown_refl w row) z
theorem mark_seen {w w':World} {C:Nat} {f:Bool} {r:Rat} {e:Ending} (hC:MarkAt w C f) (h:SeenPost w C r e w'):MarkPost w C f r e w':=by
 unfold MarkAt at hC
 rcases h with⟨hd,rfl,z,rfl⟩|⟨hd,rfl,z,rfl⟩
 ·have hb:bigQ r=false:=by unfold bigQ;simp;omega
  refine⟨by rw[seen_of hb],?_,grown_of_ext _ _ _⟩
  rw[hb,Bool.or_false]
  exact J_ext hC
 ·have hb:bigQ r=true:=by unfold bigQ;simp;omega
  refine⟨by unfold seenQ;rw[hb];rfl,?_,grown_ext (grown_set _ _ _ _) z⟩
  rw[hb,Bool.or_true]
  refine J_ext ?_
  have:=Joins.block_setCell (i:=0) hC (.bool true)
  simpa using this
theorem mark_cells {w:World} {C:Nat} {f:Bool} (hC:MarkAt w C f):w.cell? ⟨C,0,none⟩=some (.bool f)/\C<w.heap.size/\w.frozen? ⟨C,0,none⟩=false:=by
 have h:=blk_lt hC
 unfold MarkAt at hC
 exact⟨by simp[World.cell?,hC],h,by simp[World.frozen?,hC]⟩
theorem mulM_any (C:Nat) (f:Bool) (w:World) (hC:MarkAt w C f) (p q:Rat) (hp:small5 p) (hq:small5 q):Calls Tryz.prog 130 #[.pointer (some ⟨C,0,none⟩),fracV p,fracV q] w (MarkPost w C f (p*q)):=
 (cmul5_any C f w (mark_cells hC).1 (mark_cells hC).2.1 (mark_cells hC).2.2 p q hp hq).mono fun _ _ h=>mark_seen hC h
theorem addM_any (C:Nat) (f:Bool) (w:World) (hC:MarkAt w C f) (p q:Rat) (hp:small5 p) (hq:small5 q):Calls Tryz.prog 131 #[.pointer (some ⟨C,0,none⟩),fracV p,fracV q] w (MarkPost w C f (p+q)):=
 (cadd5_any C f w (mark_cells hC).1 (mark_cells hC).2.1 (mark_cells hC).2.2 p q hp hq).mono fun _ _ h=>mark_seen hC h
theorem quoM_any (C:Nat) (f:Bool) (w:World) (hC:MarkAt w C f) (p q:Rat) (hp:small5 p) (hq:small5 q) (h0:0<q):Calls Tryz.prog 132 #[.pointer (some ⟨C,0,none⟩),fracV p,fracV q] w (MarkPost w C f (p/q)):=
 (cquo5_any C f w (mark_cells hC).1 (mark_cells hC).2.1 (mark_cells hC).2.2 p q hp hq h0).mono fun _ _ h=>mark_seen hC h
theorem wld_store {base b i T:Nat} {W W':World} {B ps:List Nat} {d c p wl r:Nat} {mv tv:Value} {s:St} {g':Grave} {la co:Int} {cs:Array Value} {fr:Nat×Nat} (hb:base<=b) (hC:WldC W b d c p wl r mv tv la co) (hP:PplAt base W B d c p wl r mv s) (hT:TombsAt base W B tv ps s.graves)
 (hi:ps[i]?=some T) (hx:W.heap[T]?=some (.cells cs 88 fr)) (hg:W.grownBy W' (some T)) (hN:TombAt W' base B T g'):WldAt base W' b (s.withGrave i g') la co:=by
 have hbT:b≠T:=fun e=>by
  subst e
  unfold WldC at hC
  rw[hC]at hx
  simp at hx
 have hC':WldC W' b d c p wl r mv tv la co:=(hg.block b (blk_lt hC) (fun e=>hbT (by simpa using e))).trans hC
 refine⟨B,d,c,p,wl,r,mv,tv,ps,hb,hC',?_,?_⟩
 ·have:=hP.kept hg hx (by decide) (by decide) (by decide)
  exact⟨this.nd,this.ge,this.dead,this.rows,this.marr,this.wills,this.ren⟩
 ·refine⟨hT.own.kept hg hx (by decide),by simp[St.withGrave,hT.len],hT.nd,fun j T' g e1 e2=> ?_⟩
  simp only[St.withGrave]at e2
  by_cases hj:i=j
  ·subst hj
   rw[hi]at e1
   have hil:i<s.graves.length:=by have:=(List.getElem?_eq_some_iff.1 hi).1;have:=hT.len;omega
   rw[List.getElem?_set_self hil]at e2
   simp only[Option.some.injEq]at e1 e2
   subst e1 e2
   exact hN
  ·rw[List.getElem?_set_ne hj]at e2
   have hne:T'≠T:=fun e=>by
    subst e
    exact hj ((List.getElem?_inj (List.getElem?_eq_some_iff.1 hi).1 hT.nd).1 (hi.trans e1.symm))
   exact(hT.all j T' g e1 e2).kept hg hx hne (by decide) (by decide)
theorem grave_tomb {base:Nat} {W:World} {B ps:List Nat} {tv:Value} {s:St} {place:ByteArray} {day:Int} {i:Nat} (hT:TombsAt base W B tv ps s.graves) (h:graveIx s place day=some i):
 ∃T g,ps[i]?=some T/\ps.getD i 0=T/\s.graves[i]?=some g/\s.graves.getD i zeroG=g/\TombAt W base B T g/\inForceP g day=true:=by
 obtain⟨g,h1,h2,h3⟩:=graveIx_some h
 have hi:i<ps.length:=by have:=(List.getElem?_eq_some_iff.1 h1).1;have:=hT.len;omega
 refine⟨ps[i],g,List.getElem?_eq_getElem hi,by rw[List.getD_eq_getElem?_getD,List.getElem?_eq_getElem hi];rfl,h1,grave_at h1,hT.all i _ g (List.getElem?_eq_getElem hi) h1,h3⟩
theorem tomb_set6 {W:World} {T:Nat} {cs0 cs1 cs2 cs3 cs4 cs5:Value} {fr:Nat×Nat} (h:W.heap[T]?=some (.cells #[cs0,cs1,cs2,cs3,cs4,cs5] 88 fr)) (a0 a1 a2 a3 a4 a5:Value):
 ((((((W.setCell ⟨T,0,none⟩ a0).setCell ⟨T,1,none⟩ a1).setCell ⟨T,2,none⟩ a2).setCell ⟨T,3,none⟩ a3).setCell ⟨T,4,none⟩ a4).setCell ⟨T,5,none⟩ a5).heap[T]?=some (.cells #[a0,a1,a2,a3,a4,a5] 88 fr):=by
 have:=Joins.block_setCell (i:=5) (Joins.block_setCell (i:=4) (Joins.block_setCell (i:=3) (Joins.block_setCell (i:=2) (Joins.block_setCell (i:=1) (Joins.block_setCell (i:=0) h a0) a1) a2) a3) a4) a5
 simpa using this
theorem grown_tomb6 (W:World) (T:Nat) (a0 a1 a2 a3 a4 a5:Value):W.grownBy ((((((W.setCell ⟨T,0,none⟩ a0).setCell ⟨T,1,none⟩ a1).setCell ⟨T,2,none⟩ a2).setCell ⟨T,3,none⟩ a3).setCell ⟨T,4,none⟩ a4).setCell ⟨T,5,none⟩ a5) (some T):=
 grown_trans (grown_trans (grown_trans (grown_trans (grown_trans (grown_set _ _ _ _) (grown_set _ _ _ _)) (grown_set _ _ _ _)) (grown_set _ _ _ _)) (grown_set _ _ _ _)) (grown_set _ _ _ _)
end Go.Proofs.YtkhkhnellekofaaGreatDoor
namespace Go.Proofs.YtkhkhnellekofaaGreatDoor
open Go.RowKit Go.Shelf
attribute [local go_sem] World.cell?_alloc_mark ext_size ext_cell ext_frozen lt_add_r lt_add_r2 lt_add_r3 lt_add_r4 lt_add_r5 lt_add_r6 lt_add_r7 lt_add_r8
attribute [local go_sem] ext_setCell alloc_setCell_lt
def restQ (l:List RPart):Rat:=1-sumQ (ratParts l)
theorem rest_snoc (l:List RPart) {k:Nat} (h:k<l.length):restQ (l.take (k+1))=restQ (l.take k)-l[k].rat:=by
 have hs: ∀a b:Parts,sumQ (a++b)=sumQ a+sumQ b:=fun a b=>by
  induction a with
  |nil=>rw[List.nil_append,sumQ,Rat.zero_add]
  |cons x a ih=>rw[List.cons_append,sumQ,sumQ,ih];grind
 unfold restQ
 rw[List.take_succ_eq_append_getElem h]
 unfold ratParts
 rw[List.map_append,hs]
 simp only[List.map_cons,List.map_nil,sumQ]
 grind
theorem sum_take {l:List RPart} (h: ∀p∈l,0<p.rat): ∀k,0<=sumQ (ratParts (l.take k))/\sumQ (ratParts (l.take k))<=sumQ (ratParts l):=fun k=>by
 have hs: ∀a b:Parts,sumQ (a++b)=sumQ a+sumQ b:=fun a b=>by
  induction a with
  |nil=>rw[List.nil_append,sumQ,Rat.zero_add]
  |cons x a ih=>rw[List.cons_append,sumQ,sumQ,ih];grind
 have hp: ∀m:List RPart,(∀p∈m,0<p.rat)->0<=sumQ (ratParts m):=fun m hm=>sum_nonneg fun p hp=>by
  obtain⟨q,hq,rfl⟩:=List.mem_map.1 hp
  have:=hm q hq
  show 0<=q.rat
  grind
 refine⟨hp _ fun p hp=>h p (List.mem_of_mem_take hp),?_⟩
 have h2:=hp (l.drop k) fun p hp=>h p (List.mem_of_mem_drop hp)
 have e:ratParts l=ratParts (l.take k)++ratParts (l.drop k):=by
  unfold ratParts
  rw[<-List.map_append,List.take_append_drop]
 rw[e,hs]
 grind
theorem rest_fits {l:List RPart} (h: ∀p∈l,0<p.rat/\IsN 720720 p.rat/\isShareP 16 p.num p.den=true): ∀k,Fits (restQ (l.take k))
 |0=>by
  show Fits (1-0)
  rw[show(1:Rat)-0=1 by grind]
  exact fits_one
 |k+1=>by
  by_cases hk:k<l.length
  ·rw[rest_snoc l hk]
   exact(rest_fits h k).sub (fits_share (h _ (List.getElem_mem hk)).2.2)
  ·rw[show l.take (k+1)=l.take k by rw[List.take_of_length_le (by omega),List.take_of_length_le (by omega)]]
   exact rest_fits h k
theorem subS_any (s:Rat) (a b:Int) (W:World) (hs:small5 s) (h:isShareP 16 a b=true):Calls Tryz.prog 128 #[.agg #[.int .i64 s.num, .int .i64 s.den], .agg #[.int .i64 a, .int .i64 b]] W (Ret W (fracV (s-Rat.divInt a b))):=by
 obtain⟨h1,h2,h3,h4⟩:=share_rat h
 have:=sub5_any s (Rat.divInt a b) W hs ((fits_share h).small (Rat.le_trans (by decide) h3) (Rat.le_trans h4 (by decide)))
 unfold fracV at this⊢
 rw[h1,h2]at this
 exact this
theorem mulS_any (C:Nat) (f:Bool) (w:World) (hC:MarkAt w C f) (p:Rat) (a b:Int) (hp:small5 p) (h:isShareP 16 a b=true):Calls Tryz.prog 130 #[.pointer (some ⟨C,0,none⟩), .agg #[.int .i64 p.num, .int .i64 p.den], .agg #[.int .i64 a, .int .i64 b]] w (MarkPost w C f (p*Rat.divInt a b)):=by
 obtain⟨h1,h2,h3,h4⟩:=share_rat h
 have:=mulM_any C f w hC p (Rat.divInt a b) hp ((fits_share h).small (Rat.le_trans (by decide) h3) (Rat.le_trans h4 (by decide)))
 unfold fracV at this
 rw[h1,h2]at this
 exact this
theorem transferP_eq {s:St} {d:Deed} {i:Nat} {g:Grave} (hix:graveIx s d.place d.day=some i) (hg:s.graves.getD i zeroG=g) (hG:GoodG g) (hp: ∀p∈ratParts d.to,0<=p.2) (h1:sumQ (ratParts d.to)<=1):
 transferP s d=if g.cls==4 then(s,15)else if shareP g.holders d.frm==0 then(s,19)else if deadPart s d.to then(s,28)else
  if(transferF g.holders d.frm (ratParts d.to)).2 then(s,8)else(s.withGrave i {g with holders:=(transferF g.holders d.frm (ratParts d.to)).1},0):=by
 have hs:=transfer_same (frm:=d.frm) hG.good hG.small hp h1
 unfold transferP
 rw[hix]
 simp only[hg]
 cases hb:bigQ (shareP g.holders d.frm*(1-sumQ (ratParts d.to)))
 ·rw[hb]at hs
  simp only[Bool.false_eq_true,if_false]at hs⊢
  rw[hs]
  cases(transferF g.holders d.frm (ratParts d.to)).2<;>rfl
 ·rw[hb]at hs
  simp only[if_true]at hs⊢
  cases ht:(transferF g.holders d.frm (ratParts d.to)).2
  ·rw[ht]at hs;simp at hs
  ·rfl
end Go.Proofs.YtkhkhnellekofaaGreatDoor
