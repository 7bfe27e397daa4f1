/- Walks of chapter 5's world.in. -/
import Derived.Test.YtmaidggpbihlgaaGreatDoorJX
import Derived.RangeFuncNested
import Derived.RangeFuncBound
import Derived.RangeFuncCalls
import Derived.RangeFuncLeaves
import Derived.Stop.RegionWithIn
import Derived.OwnWalkIn
import Derived.TacticsInMore
import Derived.LoopNIn
import Derived.LoopIn
import Derived.Test.YtmaidggpbihlgaaGreatDoorJT
set_option linter.unusedSimpArgs false
set_option linter.unusedVariables false
namespace Go.Proofs.YtmaidggpbihlgaaGreatDoor
open Go.RowKit Go.Shelf
attribute [local go_sem] World.cell?_alloc_mark ext_size ext_cell ext_frozen lt_add_r lt_add_r2 lt_add_r3 lt_add_r4 lt_add_r5 lt_add_r6 lt_add_r7 lt_add_r8
attribute [local go_sem] Oper.semAt_some
abbrev Pair2:=ByteArray×ByteArray
def pr0:Pair2:=(⟨#[]⟩,⟨#[]⟩)
def backTo (ms:List Pair2) (k:Nat):List (Int×Pair2):=(List.range k).map fun j=>(((ms.length-1-j:Nat):Int),ms.getD (ms.length-1-j) pr0)
theorem backTo_succ (ms:List Pair2) (k:Nat):backTo ms (k+1)=backTo ms k++[(((ms.length-1-k:Nat):Int),ms.getD (ms.length-1-k) pr0)]:=by
 unfold backTo
 rw[List.range_succ,List.map_append]
 rfl
theorem backTo_len (ms:List Pair2) (k:Nat):(backTo ms k).length=k:=by simp[backTo]
theorem backTo_all (ms:List Pair2):(backTo ms ms.length).map (·.2)=ms.reverse:=by
 unfold backTo
 apply List.ext_getElem
 ·simp
 ·intro i h1 h2
  simp at h1
  rw[List.getElem_reverse]
  simp[List.getD_eq_getElem?_getD,List.getElem?_eq_getElem (show ms.length-1-i<ms.length by omega)]
theorem backTo_take (ms:List Pair2) (k:Nat) (hk:k<=ms.length):(backTo ms k).map Prod.snd=ms.reverse.take k:=by
 unfold backTo
 apply List.ext_getElem
 ·simp;omega
 ·intro i h1 h2
  simp at h1
  rw[List.getElem_take,List.getElem_reverse]
  simp[List.getD_eq_getElem?_getD,List.getElem?_eq_getElem (show ms.length-1-i<ms.length by omega)]
def encB (x:Int×Pair2):Array Value:= #[.int .i64 x.1, .agg #[.string x.2.1, .string x.2.2]]
set_option maxRecDepth 100000 in
set_option maxHeartbeats 2000000 in
theorem back1_in (n:Nat) (hn:1<=n) (l n₀ Bs:Nat) (ms:List Pair2) (A:Option Addr) (c:Nat) (hl:ms.length<=100000) (J Jx:List (Int×Pair2)->World->Prop)
 (hY: ∀pre x W,J pre W->pre.length<ms.length->YieldAt Fence.wide (n-1) Tryz.prog l (encB x) W fun e W'=>
   (e= .returned (.bool true)/\J (pre++[x]) W'/\Below n₀ W W')\/(e= .returned (.bool false)/\Jx (pre++[x]) W'))
 (W:World) (hBn:Bs<n₀) (hBs:W.cell? ⟨Bs,0,none⟩=some (.slice A ms.length c)) (hS: ∀W',Below n₀ W W'->Sl W' 2 pairCells A ms) (h0:J [] W):
 CallsIn Fence.wide n Tryz.prog 155 #[.func (.yield l) #[] #[], .pointer (some ⟨Bs,0,none⟩)] W fun e W'=>(∃v,e= .returned v)/\
  ((∃ys,ys=backTo ms ms.length/\J ys W')\/(∃pre,(∃k,k<=ms.length/\pre=backTo ms k)/\Jx pre W')):=by
 refine callsIn_of_wp Tryz.func155 rfl trivial ?_ rfl
 simp only[Tryz.ntmps155,List.size_toArray,List.length_cons,List.length_nil,Nat.reduceAdd,Nat.reduceSub,Array.replicate_succ,Array.replicate_zero,List.push_toArray,List.append_toArray,List.nil_append,List.cons_append]
 have hw0:IntKind.i64.wrap ((ms.length:Int)-1)=(ms.length:Int)-1:=IntWalk.i64_in _ (by omega)
 gi_wp2
 gi_loopw [3] (fun i wr=> ∃k:Nat,k<=ms.length/\i= .int .i64 ((ms.length:Int)-1-k)/\J (backTo ms k) wr/\Below n₀ W wr) (fun i _=>(intOf i+1).toNat)
 case atStart=>exact⟨0,Nat.zero_le _,by simp,h0,Below.refl _ _⟩
 case round=>
  obtain⟨k,hk,rfl,hJs,hB⟩:=hrel
  have hcs:wr.cell? ⟨Bs,0,none⟩=some (.slice A ms.length c):=(hB.cell (p:=⟨Bs,0,none⟩) hBn).trans hBs
  by_cases hlt:k<ms.length
  ·have hi:ms.length-1-k<ms.length:=by omega
   obtain⟨b,off,rfl,hb,hc⟩:=(hS wr hB).at hi
   obtain⟨fn,tmps,assign,body,hy,hR⟩:=hY _ (((ms.length-1-k:Nat):Int),ms.getD (ms.length-1-k) pr0) wr hJs (by rw[backTo_len];exact hlt)
   have hgd:ms.getD (ms.length-1-k) pr0=ms[ms.length-1-k]:=by rw[List.getD_eq_getElem?_getD,List.getElem?_eq_getElem hi];rfl
   have HT:=Lib.hid (backTo_succ ms k)
   rw[hgd]at hy hR
   have HG:=Lib.hid hgd
   clear hgd
   generalize ms[ms.length-1-k]=m at hc hy hR HG
   obtain⟨m1,m2⟩:=m
   have c0:wr.cell? ⟨b,off+(ms.length-1-k)*2,none⟩=some (.string m1):=hc 0 _ rfl
   have c1:wr.cell? ⟨b,off+(ms.length-1-k)*2+1,none⟩=some (.string m2):=hc 1 _ rfl
   obtain⟨j,hj⟩: ∃j:Nat,j=ms.length-1-k:=⟨_,rfl⟩
   rw[<-hj]at c0 c1 hy hR HT HG hi
   have hji:(ms.length:Int)-1-k=(j:Int):=by omega
   have hj0:(0:Int)<=(j:Int):=by omega
   have hjl:(j:Int)<(ms.length:Int):=by omega
   rw[hji]
   have HJ:=Lib.hid hji
   clear hji hj hc
   simp only[encB]at hy hR
   gi_wp2
   refine hR.mono ?_
   rintro e W3 (⟨rfl,hJ3,hk3⟩|⟨rfl,hJx3⟩)
   ·have hw1:IntKind.i64.wrap ((j:Int)-1)=(j:Int)-1:=IntWalk.i64_in _ (by omega)
    have hcs3:W3.cell? ⟨Bs,0,none⟩=some (.slice (some ⟨b,off,none⟩) ms.length c):=(hk3.cell (p:=⟨Bs,0,none⟩) hBn).trans hcs
    gi_wp2
    go_roundw
    case rel=>exact⟨k+1,by omega,by have:=HJ.out;exact int_eq (by omega),by rw[HT.out,HG.out];exact hJ3,hB.trans hk3⟩
    case measure=>(have:=HJ.out;simp[intOf];first|done|omega)
   ·gi_wp2
    refine bodyPost_ret (results_none rfl _ _ _) rfl ?_
    exact⟨⟨_,rfl⟩, .inr ⟨_,⟨k+1,by omega,rfl⟩,by rw[HT.out,HG.out];exact hJx3⟩⟩
  ·obtain rfl:k=ms.length:=by omega
   have hneg:(ms.length:Int)-1-(ms.length:Int)= -1:=by omega
   rw[hneg]
   gi_wp2
   go_end0
   exact⟨⟨_,rfl⟩, .inl ⟨_,rfl,hJs⟩⟩
theorem back1_seq (n:Nat) (hn:1<=n) (n₀ Bs:Nat) (ms:List Pair2) (A:Option Addr) (c:Nat) (hl:ms.length<=100000) (w:World) (hn₀:n₀<=w.heap.size) (hBn:Bs<n₀) (hBs:w.cell? ⟨Bs,0,none⟩=some (.slice A ms.length c)) (hS: ∀W',Below n₀ w W'->Sl W' 2 pairCells A ms):
 SeqStopsK Fence.wide n Tryz.prog 155 #[.pointer (some ⟨Bs,0,none⟩)] encB (Below n₀) (fun ys=>ys=backTo ms ms.length) (fun pre=> ∃k,k<=ms.length/\pre=backTo ms k) ms.length w:=fun l J Jx W hW _ _ hY hJ0=>
 back1_in n hn l n₀ Bs ms A c hl J Jx hY W hBn ((hW.cell (p:=⟨Bs,0,none⟩) (Nat.lt_of_lt_of_le hBn hn₀)).trans hBs) (fun W' h=>hS W' ((hW.mono hn₀).trans h)) hJ0
theorem results_s {fn:Func} {p:Tmp} (h:fn.results= #[.cell p 9]) (tmps:Array Value) (w:World) (B:Nat) (x:ByteArray) (hp:tmps.getD p undef= .pointer (some ⟨B,0,none⟩))
 (h0:w.cell? ⟨B,0,none⟩=some (.string x)):(results fn tmps).run Tryz.prog w= .ok (.string x) w:=by
 rw[results_c1 h,hp]
 go_simp
set_option maxRecDepth 100000 in
set_option maxHeartbeats 2000000 in
theorem back_any (A:Option Addr) (n c:Nat) (w:World):Calls Tryz.prog 120 #[.slice A n c] w fun e w'=>e= .returned (.func (.func 155) #[] #[.pointer (some ⟨w.heap.size,0,none⟩)])/\w'=w.alloc (.cells #[.slice A n c] 32):=by
 go_enter Tryz.func120,Tryz.ntmps120
 go_wp2_with fail
 go_ret
 exact⟨rfl,rfl⟩
def hasN (m:Pair2) (n:ByteArray):Bool:=sameB m.1 n||sameB m.2 n
def otherN (m:Pair2) (n:ByteArray):ByteArray:=if sameB m.1 n then m.2 else m.1
theorem spouse_none {n:ByteArray}: ∀ {l:List Pair2},(∀m∈l,hasN m n=false)->spouseGo n l=⟨#[]⟩
 | [],_=>rfl
 |m::l,h=>by
  have h0:=h m (by simp)
  simp only[hasN,Bool.or_eq_false_iff]at h0
  rw[spouseGo,h0.1,h0.2]
  simpa using spouse_none fun x hx=>h x (by simp[hx])
theorem spouse_some {n:ByteArray} {m:Pair2} {b:List Pair2} (hm:hasN m n=true): ∀ {a:List Pair2},(∀m∈a,hasN m n=false)->spouseGo n (a++m::b)=otherN m n
 | [],_=>by
   rw[List.nil_append,spouseGo,otherN]
   cases h:sameB m.1 n
   ·simp only[hasN,h,Bool.false_or]at hm
    simp[hm]
   ·simp
 |x::a,h=>by
  have h0:=h x (by simp)
  simp only[hasN,Bool.or_eq_false_iff]at h0
  rw[List.cons_append,spouseGo,h0.1,h0.2]
  simpa using spouse_some hm fun x hx=>h x (by simp[hx])
def marks5 (Ds:List Nat):List Deferred:=Ds.map fun D=> {target:= .collected D,args:= #[]}
theorem leaves_marks5 {F:Fence} {n:Nat} {P:Program} {fn:Func} {tmps:Array Value} {R:Ending->World->Prop} {base:Nat}: ∀(Ds:List Nat) (w:World),Ds.Nodup->(∀D∈Ds,base<=D/\w.heap[D]?=some (.deferred (some [])))->
 (∀w',Below base w w'->(∀(k:Nat) (cs:Array Value) (t:TypeId) (fr:Nat×Nat),w.heap[k]?=some (.cells cs t fr)->w'.heap[k]?=some (.cells cs t fr))-> ∃v,(results fn tmps).run P w'= .ok v w'/\R (.returned v) w')->
 LeavesInM F n P fn tmps R (marks5 Ds) .returning w
 | [],w,_,_,h=>h w (Below.refl _ _) fun _ _ _ _ h=>h
 |D::Ds,w,hnd,hD,h=>by
  obtain⟨hb,hK⟩:=hD D (by simp)
  have hnd':=List.nodup_cons.1 hnd
  refine⟨by simp, .inl ⟨D,_,rfl,run_takeDeferred hK,?_⟩⟩
  have hp: ∀k,k≠D->(w.putObj D (.deferred none)).heap[k]?=w.heap[k]?:=fun k hk=>by
   simp only[World.putObj,Array.getElem?_setIfInBounds]
   rw[if_neg (fun e=>hk e.symm)]
  refine leaves_marks5 Ds (w.putObj D (.deferred none)) hnd'.2 (fun D' hD'=>⟨(hD D' (by simp[hD'])).1,(hp D' (fun e=>hnd'.1 (e▸hD'))).trans (hD D' (by simp[hD'])).2⟩) fun w' hB hc=> ?_
  refine h w' (Below.trans (⟨rfl,rfl,rfl,by simp[World.putObj],fun k hk=>hp k (by omega)⟩:Below base w (w.putObj D (.deferred none))) hB) fun k cs t fr hk=>hc k cs t fr ((hp k (fun e=> ?_)).trans hk)
  subst e
  rw[hK]at hk
  cases hk
theorem blk_own5 {A B:World} {row:Option Nat} {k:Nat} {cs:Array Value} {t:TypeId} {fr:Nat×Nat} (h:A.heap[k]?=some (.cells cs t fr)) (hg:A.grownBy B row) (hr: ∀r,row=some r-> ∃o:Obj,A.heap[r]?=some o/\o.isCells=false):B.heap[k]?=some (.cells cs t fr):=
 (hg.block k (blk_lt h) (fun e=>by
   obtain⟨o,ho,hc⟩:=hr k e.symm
   rw[h]at ho
   simp only[Option.some.injEq]at ho
   subst ho
   cases hc)).trans h
def SpI (x:ByteArray) (W0:World) (pre:List (Int×Pair2)) (W:World):Prop:=(∀m∈pre.map Prod.snd,hasN m x=false)/\Below W0.heap.size W0 W
def SpIx (s:St) (x:ByteArray) (w:World) (c:Code) (pre:List (Int×Pair2)) (W:World):Prop:=
 (c= .ret/\ ∃a m,pre.map Prod.snd=a++[m]/\(∀y∈a,hasN y x=false)/\hasN m x=true/\W.heap[w.heap.size+1+1]?=some (.cells #[.string (if isDeadP s (otherN m x)then⟨#[]⟩else otherN m x)] 9 (0,0)))/\Below w.heap.size w W
set_option maxRecDepth 100000 in
set_option maxHeartbeats 2000000 in
theorem spouse_in (base b:Nat) (s:St) (x:ByteArray) (w:World) (hW:PeoAt base w b s) (hl:s.marriages.length<=100000):
 CallsIn Fence.wide 9 Tryz.prog 71 #[.pointer (some ⟨b,0,none⟩), .string x] w (Ret w (.string (spouseP s x))):=by
 obtain⟨B,d,c,p,wl,r,mv,tv,la,co,h1,h2⟩:=hW
 obtain⟨A,cc,rfl,hS,hc⟩:=h2.marr.sl pair_len
 have hb:=blk_lt h1
 unfold WldC at h1
 have c3:w.cell? ⟨b,3,none⟩=some (.slice A s.marriages.length cc):=by simp[World.cell?,h1]
 have HS:=Lib.hid hS
 have H1:=Lib.hid h1
 have H2:=Lib.hid h2
 clear h1 h2 hS
 refine callsIn_of_wp_marks Tryz.func71 rfl trivial ?_ rfl
 simp only[Tryz.ntmps71,List.size_toArray,List.length_cons,List.length_nil,Nat.reduceAdd,Nat.reduceSub,Array.replicate_succ,Array.replicate_zero,List.push_toArray,List.append_toArray,List.nil_append,List.cons_append]
 have hb1:b≠w.heap.size:=by omega
 have hb2:b≠w.heap.size+1:=by omega
 gi_wp2_with (refine⟨trivial,?_⟩;gi_at_call 120;refine(callsIn_wide.2 (back_any _ _ _ _)).mono ?_;rintro e wq ⟨rfl,rfl⟩)
 generalize hW0:((((w.alloc (.cells #[.pointer (some ⟨b,0,none⟩)] 128)).alloc (.cells #[.string x] 9)).alloc (.cells #[.string ⟨#[]⟩] 9)).alloc (.cells #[.slice A s.marriages.length cc] 32))=W0
 have hz0:W0.heap.size=w.heap.size+4:=by rw[<-hW0];simp
 have s0:W0.heap[w.heap.size]?=some (.cells #[.pointer (some ⟨b,0,none⟩)] 128 (0,0)):=by rw[<-hW0];exact J_alloc (J_alloc (J_alloc (J_new _ _ _ rfl)))
 have s1:W0.heap[w.heap.size+1]?=some (.cells #[.string x] 9 (0,0)):=by rw[<-hW0];exact J_alloc (J_alloc (J_new _ _ _ (by simp)))
 have s2:W0.heap[w.heap.size+1+1]?=some (.cells #[.string ⟨#[]⟩] 9 (0,0)):=by rw[<-hW0];exact J_alloc (J_new _ _ _ (by simp))
 have s3:W0.heap[w.heap.size+1+1+1]?=some (.cells #[.slice A s.marriages.length cc] 32 (0,0)):=by rw[<-hW0];exact J_new _ _ _ (by simp)
 have hB0:Below w.heap.size w W0:=by rw[<-hW0];repeat(first|exact B_refl|exact Below.refl _ _|assumption|with_reducible refine B_alloc ?_ _|with_reducible refine B_ext ?_ _|with_reducible refine B_drew ?_|with_reducible refine B_drewN ?_ _|with_reducible refine B_set ?_ (by simp;omega) _)
 have hbs:W0.cell? ⟨w.heap.size+1+1+1,0,none⟩=some (.slice A s.marriages.length cc):=by simp[World.cell?,s3]
 clear hW0
 have S0:=Lib.hid s0
 have S1:=Lib.hid s1
 have S2:=Lib.hid s2
 clear s0 s1 s2 s3
 refine wpIn_rangeFunc_ownH rfl (by omega) (gf:=155) (lb:= #[.pointer (some ⟨w.heap.size+1+1+1,0,none⟩)]) rfl trivial (enters_of Tryz.func155 (by kernel_rfl) rfl)
  (back1_seq (9-1) (by omega) W0.heap.size (w.heap.size+1+1+1) s.marriages A cc hl W0 (Nat.le_refl _) (by omega) hbs (fun W' h=>(HS.out.keep hB0).keep h)) belowK_t (belowK_b (Nat.le_refl _)) (Below.refl _ _) (fun _=>rfl)
  (fun(pre:List (Int×Pair2)) W=>SpI x W0 pre W)
  (fun c (pre:List (Int×Pair2)) W=>SpIx s x w c pre W)
  (fun s A B row hs hg hr=>⟨hs.1,hs.2.grown hg hs.2.size (fun r e=>(hr r e).1)⟩)
  (fun cc s A B row hs hg hr=>⟨by obtain⟨⟨h1,a,m,h2,h3,h4,h5⟩,_⟩:=hs;exact⟨h1,a,m,h2,h3,h4,blk_own5 h5 hg (fun r e=>(hr r e).2)⟩,hs.2.grown hg hs.2.size (fun r e=>by have:=(hr r e).1;omega)⟩)
  ⟨by simp,Below.refl _ _⟩
  (fun y a' W=> ∃Bx,W0.heap.size<=Bx/\W.heap[Bx]?=some (.cells #[.string y.2.1, .string y.2.2] 149 (0,0))/\a'= {tmps:= #[.pointer (some ⟨b,0,none⟩), .string x, .pointer (some ⟨w.heap.size,0,none⟩), .pointer (some ⟨w.heap.size+1,0,none⟩), .pointer (some ⟨w.heap.size+1+1,0,none⟩),undef, .pointer (some ⟨Bx,0,none⟩),undef,undef,undef, .pointer (some ⟨b,0,none⟩), .pointer (some ⟨b,0,none⟩), .pointer (some ⟨b,3,none⟩), .slice A s.marriages.length cc, .func (.func 155) #[] #[.pointer (some ⟨w.heap.size+1+1+1,0,none⟩)], .int .i64 y.1, .agg #[.string y.2.1, .string y.2.2],undef,undef,undef,undef,undef,undef,undef,undef,undef,undef,undef,undef,undef,undef,undef,undef,undef,undef,undef,undef,undef],defers:=[]})
  (fun y a' s A B row hs hg hr=>by obtain⟨Bx,h1,h2,h3⟩:=hs;exact⟨Bx,h1,blk_own5 h2 hg (fun r e=>(hr r e).2),h3⟩) ?assign ?body ?done ?stop
 case assign=>
  rintro l pre ⟨yi,y1,y2⟩ W K hi hK
  simp only[encB]
  gi_wp2
  exact hK _ _ ((KeepsOthers.alloc _ _).from _) (B_alloc (Below.refl _ _) _ hi.2.size) ⟨hi.1,B_alloc hi.2 _⟩ ⟨W.heap.size,hi.2.size,J_new _ _ _ rfl,rfl⟩
 case body=>
  rintro l pre ⟨yi,y1,y2⟩ a' W hWl _ ⟨hp,hBW⟩ ⟨Bx,hBx,hbx,rfl⟩ hlen
  simp only at hbx
  have t0:=(hBW.block w.heap.size (by omega)).trans S0.out
  have t1:=(hBW.block (w.heap.size+1) (by omega)).trans S1.out
  have t2:=(hBW.block (w.heap.size+1+1) (by omega)).trans S2.out
  have tW:=(hBW.block b (by omega)).trans ((hB0.block b hb).trans H1.out)
  have hPP:=H2.out.keep (hB0.trans (hBW.mono (by omega)))
  have k0:W.cell? ⟨w.heap.size,0,none⟩=some (.pointer (some ⟨b,0,none⟩)):=by simp[World.cell?,t0]
  have k1:W.cell? ⟨w.heap.size+1,0,none⟩=some (.string x):=by simp[World.cell?,t1]
  have k2:W.cell? ⟨w.heap.size+1+1,0,none⟩=some (.string ⟨#[]⟩):=by simp[World.cell?,t2]
  have k3:W.frozen? ⟨w.heap.size+1+1,0,none⟩=false:=by simp[World.frozen?,t2]
  have k4:W.cell? ⟨b,0,none⟩=some (.map (some d)):=by simp[World.cell?,tW]
  have k5:W.cell? ⟨Bx,0,none⟩=some (.string y1):=by simp[World.cell?,hbx]
  have k6:W.cell? ⟨Bx,1,none⟩=some (.string y2):=by simp[World.cell?,hbx]
  have l1:=look_dead hPP y1
  have l2:=look_dead hPP y2
  have HBW:=Lib.hid hBW
  have HP:=Lib.hid hp
  have T2:=Lib.hid t2
  clear t0 t1 t2 tW hPP hp
  have hix0: ∀W:World,Sem.run Tryz.prog (Instr.index 149 (.agg #[.string y1, .string y2]) (.int .i64 0)) W= .ok (.string y1) W:=fun W=>by kernel_rfl
  have hix1: ∀W:World,Sem.run Tryz.prog (Instr.index 149 (.agg #[.string y1, .string y2]) (.int .i64 1)) W= .ok (.string y2) W:=fun W=>by kernel_rfl
  gi_wp2
  gi_loopw [18] (fun i wr=> ∃k:Nat,k<=2/\i= .int .i64 k/\wr=W/\Hid ((0<k->sameB y1 x=false)/\(1<k->sameB y2 x=false))) (fun i _=>2-(intOf i).toNat)
  case atStart=>exact⟨0,by omega,rfl,rfl,⟨by omega,by omega⟩⟩
  case round=>
   obtain⟨k,hk,rfl,rfl,hs⟩:=hrel
   obtain rfl|rfl|rfl:k=0\/k=1\/k=2:=by omega
   ·rw[show((0:Nat):Int)=0 from rfl]
    by_cases h1:y1.toList=x.toList
    ·have hb1:(y1.toList==x.toList)=true:=by simpa using h1
     have hm:hasN (y1,y2) x=true:=by simp[hasN,sameB_t h1]
     have ho:otherN (y1,y2) x=y2:=by simp[otherN,sameB_t h1]
     have HM:=Lib.hid hm
     have HO:=Lib.hid ho
     clear hm ho
     cases hd:isDeadP s y2
     ·rw[hd]at l2
      gi_wp2
      have g2:=Boxed.set (.string y2) T2.out
      have HD:=Lib.hid hd
      have hfin: ∀i,SpIx s x w .ret (pre++[(i,y1,y2)]) (wr.setCell ⟨w.heap.size+1+1,0,none⟩ (.string y2)):=fun i=>⟨⟨rfl,pre.map Prod.snd,(y1,y2),by simp,HP.out,HM.out,by rw[HO.out,HD.out];exact g2⟩,B_set (hB0.trans (HBW.out.mono (by omega))) (by simp;omega) _⟩
      first
       |exact⟨(KeepsOthers.setCell _ _ _).from _,hfin _⟩
       |(trace_state;fail "ret")
     ·rw[hd]at l2
      gi_wp2
      have g2:=Boxed.set (.string ⟨#[]⟩) T2.out
      have HD:=Lib.hid hd
      have hfin: ∀i,SpIx s x w .ret (pre++[(i,y1,y2)]) (wr.setCell ⟨w.heap.size+1+1,0,none⟩ (.string ⟨#[]⟩)):=fun i=>⟨⟨rfl,pre.map Prod.snd,(y1,y2),by simp,HP.out,HM.out,by rw[HO.out,HD.out];exact g2⟩,B_set (hB0.trans (HBW.out.mono (by omega))) (by simp;omega) _⟩
      first
       |exact⟨(KeepsOthers.setCell _ _ _).from _,hfin _⟩
       |(trace_state;fail "ret")
    ·have hbb:(y1.toList==x.toList)=false:=by simpa using h1
     have HN:Hid ((0<1->sameB y1 x=false)/\(1<1->sameB y2 x=false)):=⟨fun _=>sameB_f h1,by omega⟩
     gi_wp2
     exact⟨⟨1,by omega,rfl,trivial,HN⟩,by simp[intOf]⟩
   ·rw[show((1:Nat):Int)=1 from rfl]
    by_cases h2:y2.toList=x.toList
    ·have hbb:(y2.toList==x.toList)=true:=by simpa using h2
     have hm:hasN (y1,y2) x=true:=by simp[hasN,sameB_t h2]
     have ho:otherN (y1,y2) x=y1:=by simp[otherN,hs.out.1 (by omega)]
     have HM:=Lib.hid hm
     have HO:=Lib.hid ho
     clear hm ho
     cases hd:isDeadP s y1
     ·rw[hd]at l1
      gi_wp2
      have g2:=Boxed.set (.string y1) T2.out
      have HD:=Lib.hid hd
      have hfin: ∀i,SpIx s x w .ret (pre++[(i,y1,y2)]) (wr.setCell ⟨w.heap.size+1+1,0,none⟩ (.string y1)):=fun i=>⟨⟨rfl,pre.map Prod.snd,(y1,y2),by simp,HP.out,HM.out,by rw[HO.out,HD.out];exact g2⟩,B_set (hB0.trans (HBW.out.mono (by omega))) (by simp;omega) _⟩
      first
       |exact⟨(KeepsOthers.setCell _ _ _).from _,hfin _⟩
       |(trace_state;fail "ret")
     ·rw[hd]at l1
      gi_wp2
      have g2:=Boxed.set (.string ⟨#[]⟩) T2.out
      have HD:=Lib.hid hd
      have hfin: ∀i,SpIx s x w .ret (pre++[(i,y1,y2)]) (wr.setCell ⟨w.heap.size+1+1,0,none⟩ (.string ⟨#[]⟩)):=fun i=>⟨⟨rfl,pre.map Prod.snd,(y1,y2),by simp,HP.out,HM.out,by rw[HO.out,HD.out];exact g2⟩,B_set (hB0.trans (HBW.out.mono (by omega))) (by simp;omega) _⟩
      first
       |exact⟨(KeepsOthers.setCell _ _ _).from _,hfin _⟩
       |(trace_state;fail "ret")
    ·have hbb:(y2.toList==x.toList)=false:=by simpa using h2
     have HN:Hid ((0<2->sameB y1 x=false)/\(1<2->sameB y2 x=false)):=⟨fun _=>hs.out.1 (by omega),fun _=>sameB_f h2⟩
     gi_wp2
     exact⟨⟨2,by omega,rfl,trivial,HN⟩,by simp[intOf]⟩
   ·rw[show((2:Nat):Int)=2 from rfl]
    have hn:hasN (y1,y2) x=false:=by simp[hasN,hs.out.1 (by omega),hs.out.2 (by omega)]
    have HN:=Lib.hid hn
    clear hn
    gi_wp2
    exact⟨KeepsFrom.refl _ _,Below.refl _ _,fun m hm=>by
     rw[List.map_append]at hm
     rcases List.mem_append.1 hm with hm|hm
     ·exact HP.out m hm
     ·simp only[List.map_cons,List.map_nil,List.mem_singleton]at hm
      rw[hm];exact HN.out,HBW.out⟩
 case done=>
  rintro D ys W hD rfl ⟨hp,hBW⟩ hK
  have t2:=(hBW.block (w.heap.size+1+1) (by omega)).trans S2.out
  have c2':W.cell? ⟨w.heap.size+1+1,0,none⟩=some (.string ⟨#[]⟩):=by simp[World.cell?,t2]
  have f2':W.frozen? ⟨w.heap.size+1+1,0,none⟩=false:=by simp[World.frozen?,t2]
  have HY:Hid (spouseP s x=⟨#[]⟩):=by
   show _=_
   rw[backTo_all]at hp
   unfold spouseP
   rw[spouse_none hp]
   simp
  have HK:=Lib.hid hK
  have T2:=Lib.hid t2
  clear hK t2 hp
  gi_wp2
  have g2:=Boxed.set (.string ⟨#[]⟩) T2.out
  have hD2:(W.setCell ⟨w.heap.size+1+1,0,none⟩ (.string ⟨#[]⟩)).heap[D]?=some (.deferred (some [])):=(heap_setCell_other W ⟨w.heap.size+1+1,0,none⟩ _ _ (by simp;omega)).trans HK.out
  refine leaves_marks5 (base:=w.heap.size) [D] _ (by simp) (fun D' hD'=>by
   have:D'=D:=by simpa using hD'
   subst this
   exact⟨by omega,hD2⟩) fun w' hB' hc'=>⟨.string ⟨#[]⟩,results_s rfl _ _ (w.heap.size+1+1) _ rfl (by simp[World.cell?,hc' _ _ _ _ g2]),?_⟩
  exact Ret.of (by rw[HY.out]) ((B_set (hB0.trans (hBW.mono (by omega))) (by simp;omega) _).trans hB')
 case stop=>
  rintro D cc pre W hD hpre ⟨⟨rfl,a,m,h2,h3,h4,h5⟩,hBW⟩ hK
  have HY:Hid (spouseP s x=if isDeadP s (otherN m x)then⟨#[]⟩else otherN m x):=by
   show _=_
   obtain⟨k,hk,rfl⟩:=hpre
   rw[backTo_take _ _ hk]at h2
   have e:s.marriages.reverse=a++m::s.marriages.reverse.drop k:=by
    have:=(List.take_append_drop k s.marriages.reverse).symm
    rw[h2]at this
    simpa using this
   unfold spouseP
   rw[e,spouse_some h4 h3]
  have HK:=Lib.hid hK
  have G2:=Lib.hid h5
  clear hK h5 h4 h3 h2
  gi_wp2
  refine leaves_marks5 (base:=w.heap.size) [D] _ (by simp) (fun D' hD'=>by
   have:D'=D:=by simpa using hD'
   subst this
   exact⟨by omega,HK.out⟩) fun w' hB' hc'=>⟨.string (if isDeadP s (otherN m x)then⟨#[]⟩else otherN m x),results_s rfl _ _ (w.heap.size+1+1) _ rfl (by simp[World.cell?,hc' _ _ _ _ G2.out]),?_⟩
  exact Ret.of (by rw[HY.out]) (hBW.trans hB')
theorem spouse_any (base b:Nat) (s:St) (x:ByteArray) (w:World) (hW:PeoAt base w b s) (hl:s.marriages.length<=100000):
 Calls Tryz.prog 71 #[.pointer (some ⟨b,0,none⟩), .string x] w (Ret w (.string (spouseP s x))):=callsIn_wide.1 (spouse_in base b s x w hW hl)
end Go.Proofs.YtmaidggpbihlgaaGreatDoor
namespace Go.Proofs.YtmaidggpbihlgaaGreatDoor
open Go.RowKit Go.Shelf
attribute [local go_sem] World.cell?_alloc_mark ext_size ext_cell ext_frozen lt_add_r lt_add_r2 lt_add_r3 lt_add_r4 lt_add_r5 lt_add_r6 lt_add_r7 lt_add_r8
attribute [local go_sem] ext_setCell alloc_setCell_lt
theorem look_kids {base:Nat} {W:World} {B:List Nat} {d c p wl r:Nat} {mv:Value} {s:St} (h:PplAt base W B d c p wl r mv s) (n:ByteArray):
 ∃A cc,(∀W',Below W.heap.size W W'->(Instr.lookup 88 (.map (some c)) (.string n) false).run Tryz.prog W'= .ok (.slice A (childrenP s n).length cc) W')/\(childrenP s n).length<=cc/\Sl W 1 sC A (childrenP s n):=by
 obtain⟨mc,mp,k1,k2,k3,k4,k5,k6⟩:=h.rows
 have hl:=fun W' (hB:Below W.heap.size W W')=>run_lookup mapSS (k1.below hB).at n
 rcases k3 n with⟨h1,h2⟩|⟨v,h1,h2⟩
 ·rw[h1]at hl
  refine⟨none,0,fun W' hB=> ?_,by rw[h2];exact Nat.le_refl _,by rw[h2];exact Sl.nil⟩
  rw[h2]
  exact hl W' hB
 ·rw[h1]at hl
  obtain⟨A,cc,rfl,hS,hc⟩:=h2.sl sC_len
  exact⟨A,cc,hl,hc,hS⟩
def outM (out:List ByteArray):List (ByteArray×Bool):=out.map fun n=>(n,true)
theorem out_put {out:List ByteArray} {n:ByteArray} (h:n∉out):mput eqS n true (outM out)=outM (out++[n]):=by
 induction out with
 |nil=>rfl
 |cons x out ih=>
  have hx:eqS n x=false:=same_ne.2 fun e=>h (by simp[e])
  rw[outM,List.map_cons,mput]
  simp only[hx,Bool.false_eq_true,if_false]
  have:=ih (fun e=>h (by simp[e]))
  simp only[outM]at this
  rw[this]
  rfl
theorem out_get (out:List ByteArray) (n:ByteArray):(mget eqS n (outM out)).getD false=out.any (sameB n):=dead_get n out
theorem sl_one {w:World} {b:Nat} {x:ByteArray} {t:TypeId} {fr:Nat×Nat} (h:w.heap[b]?=some (.cells #[.string x] t fr)):Sl w 1 sC (some ⟨b,0,none⟩) [x]:=fun _=>⟨b,0,rfl,blk_lt h,fun k y hy j u hu=>by
 have hk:k=0:=by have:=(List.getElem?_eq_some_iff.1 hy).1;simp at this;omega
 subst hk
 simp only[List.getElem?_cons_zero,Option.some.injEq]at hy
 subst hy
 match j,hu with
 |0,hu=>simp[sC]at hu;simp[World.cell?,h,<-hu]
 |j+1,hu=>simp[sC]at hu⟩
def DescPost (w:World) (s:St) (nm:ByteArray) (e:Ending) (w':World):Prop:=
 ∃out:List ByteArray,e= .returned (.map (some w.heap.size))/\MapS w' w.heap.size ekS evB (outM out)/\Found s nm out []/\Below w.heap.size w w'
set_option maxRecDepth 100000 in
set_option maxHeartbeats 2000000 in
theorem desc_any (base b:Nat) (s:St) (nm:ByteArray) (w:World) (hW:PeoAt base w b s) (hl:s.children.length<=100000):
 Calls Tryz.prog 91 #[.pointer (some ⟨b,0,none⟩), .string nm] w (DescPost w s nm):=by
 obtain⟨B,d,c,p,wl,r,mv,tv,la,co,h1,h2⟩:=hW
 have hb:=blk_lt h1
 unfold WldC at h1
 have c1:w.cell? ⟨b,1,none⟩=some (.map (some c)):=by simp[World.cell?,h1]
 have HP:=Lib.hid h2
 have H1:=Lib.hid h1
 clear h1 h2
 have hkl: ∀x,(childrenP s x).length<=100000:=fun x=>by
  have:(childrenP s x).length<=s.children.length:=by unfold childrenP;rw[List.length_map];exact List.length_filter_le _ _
  omega
 go_enter Tryz.func91,Tryz.ntmps91
 have hmm:= @run_makeMap Tryz.prog
 go_upto_region 3 with fail
 clear hmm
 have hcw:=c1
 go_loopg [6] (s.children.length+1) (fun gg v wr=> ∃out xs:List ByteArray,OwnS wr w.heap.size 9 1 sC v xs/\MapS wr w.heap.size ekS evB (outM out)/\Below w.heap.size w wr/\w.heap.size+1<=wr.heap.size/\Hid (Found s nm out xs)/\(s.children.length-out.length)+xs.length<=gg/\xs.length<=out.length+1)
 case atStart=>
  refine⟨[],[nm], .inr ⟨w.heap.size+1,0,1,#[.string nm],rfl,by omega,J_new _ _ _ (by simp),Nat.le_refl _,by simp[maxLen],by simp,fun j u hj=> ?_⟩,?_,Bw,by simp,found_start s nm,by simp,by simp⟩
  ·match j,hj with
   |0,hj=>simpa[sC]using hj
   |j+1,hj=>simp[sC]at hj
  ·exact(MapS.new w).below (n:=w.heap.size+1) (B_alloc (Below.refl _ _) _ (by simp)) (by simp)
 case round=>
  obtain⟨out,xs,hown,hm,hB,hsz,HF,hgg,hxl⟩:=hrel
  cases xs with
  |nil=>
   obtain⟨A,cc,rfl,hS,hc⟩:=hown.sl sC_len
   clear hown hS
   go_wp2_with fail
   go_ret
   exact⟨out,rfl,hm,HF.out,hB⟩
  |cons x xs=>
   rcases hown with⟨rfl,h0⟩|⟨g,o,cap,cur,rfl,hbg,hg,hcl,hcm,hcs,hx⟩
   ·cases h0
   have hown:OwnS wr w.heap.size 9 1 sC (.slice (some ⟨g,o,none⟩) (x::xs).length cap) (x::xs):= .inr ⟨g,o,cap,cur,rfl,hbg,hg,hcl,hcm,hcs,hx⟩
   obtain⟨_,h1c,htl,hhd⟩:=hown.tail sC_len
   have hcx:wr.cell? ⟨g,o,none⟩=some (.string x):=hhd 0 _ rfl
   have hcb:wr.cell? ⟨b,1,none⟩=some (.map (some c)):=(hB.cell (p:=⟨b,1,none⟩) hb).trans c1
   obtain⟨KA,kc,hlk,hkc,hKS⟩:=look_kids HP.out x
   have hlk':=hlk wr hB
   have HK:Hid (∀W',Below w.heap.size w W'->Sl W' 1 sC KA (childrenP s x)):=fun W' h=>hKS.keep h
   have hLOOK:Hid (Look s nm x 0 out xs):=found_pop HF.out
   have hkx:=hkl x
   have hxl1:(0:Int)<((x::xs).length:Int):=by simp only[List.length_cons];omega
   have hxl2:(1:Int)<=((x::xs).length:Int):=by omega
   have hxl3:(1:Int)<=(xs.length:Int)+1:=by omega
   have hc1:(1:Int)<=(cap:Int):=by omega
   have hT:=Lib.hid htl
   have hM:=Lib.hid hm
   generalize hks:childrenP s x=ks at hlk' HK hkx hkc
   have HKS:=Lib.hid hks
   clear hks
   have hcl0:=hcl
   have hcs0:=hcs
   have HG:=Lib.hid hg
   clear hlk hKS hx hg hown hhd htl hm HF hcs hcm hcl
   have hT1:Hid (cap=1->OwnS wr w.heap.size 9 1 sC (.slice (some ⟨g,o,none⟩) xs.length 0) xs):=fun e=>by
    have hx0:xs=[]:=List.eq_nil_of_length_eq_zero (by simp at hcl0;omega)
    subst hx0
    exact .inr ⟨g,o,0,cur,rfl,hbg,HG.out,Nat.le_refl _,Nat.zero_le _,by omega,fun j u hj=>by simp at hj⟩
   clear hcl0 hcs0
   go_upto_region 5 with fail
   go_cut [6]from 13 to 42 (fun v wc=>OwnS wr w.heap.size 9 1 sC v xs/\wr=wc)
   case first=>
    by_cases hcap:cap=1
    ·go_wp2_with fail
     all_goals go_meet
     all_goals exact⟨hT1.out hcap,rfl⟩
    ·go_wp2_with fail
     all_goals go_meet
     all_goals exact⟨hT.out,rfl⟩
   case rest=>
    obtain⟨hown,rfl⟩:=hcut
    clear hT hT1 hcx
    have hown':=hown
    obtain⟨QA,qc,rfl,hQS,hQc⟩:=hown'.sl sC_len
    clear hQS hown'
    have HO:=Lib.hid hown
    clear hown
    go_upto_region 7 with fail
    go_loopg [6,28] ks.length (fun gi v i wi=> ∃(j:Nat) (out2 xs2:List ByteArray),j<=ks.length/\ks.length-j<=gi/\i= .int .i64 j/\OwnS wi w.heap.size 9 1 sC v xs2/\MapS wi w.heap.size ekS evB (outM out2)/\Below w.heap.size w wi/\w.heap.size+1<=wi.heap.size/\Hid (Look s nm x j out2 xs2)/\(s.children.length-out2.length)+xs2.length+1<=gk/\xs2.length<=out2.length)
    case atStart=>exact⟨0,out,xs,Nat.zero_le _,Nat.le_refl _,rfl,HO.out,hM.out,hB,hsz,hLOOK,by simp at hgg;omega,by simp at hxl;omega⟩
    case round=>
     obtain⟨j,out2,xs2,hj,hgi,rfl,hown2,hm2,hB2,hsz2,HL2,hgg2,hxl2⟩:=hrel
     have hof:=out_few HL2.out.nd HL2.out.desc
     by_cases hlt:j<ks.length
     ·obtain⟨kb,koff,rfl,hkb,hkc0⟩:=(HK.out wr hB2).at hlt
      obtain⟨ch,hch⟩: ∃ch,ch=ks[j]:=⟨_,rfl⟩
      have c9:wr.cell? ⟨kb,koff+j,none⟩=some (.string ch):=by rw[hch];have:=hkc0 0 _ rfl;simpa using this
      have hlo:=run_lookup mapSB hm2.at ch
      rw[out_get]at hlo
      have hlo':(Instr.lookup 87 (.map (some w.heap.size)) (.string ch) false).run Tryz.prog wr= .ok (.bool (out2.any (sameB ch))) wr:=hlo
      clear hlo
      have hjl:(j:Int)<(ks.length:Int):=by omega
      have hj0:(0:Int)<=(j:Int):=by omega
      have hjx:j<(childrenP s x).length:=by rw[HKS.out];exact hlt
      have hcx2:(childrenP s x)[j]=ch:=by rw[hch];simp only[HKS.out]
      have HCH:=Lib.hid hcx2
      have HCH0:=Lib.hid hch
      have HO2:=Lib.hid hown2
      have HM2:=Lib.hid hm2
      clear hkc0 hch hcx2 hown2 hm2
      cases hin:out2.any (sameB ch)
      ·have hni:ch∉out2:=fun h=>by rw[any_same.2 h]at hin;cases hin
       have HIN:=Lib.hid hin
       have HNI:=Lib.hid hni
       rw[hin]at hlo'
       clear hin hni
       obtain⟨es,c00,hmb,hm9⟩:=HM2.out
       have HMB:=Lib.hid hmb
       clear hmb hm9
       go_wp2_with (first
        |(at_mapUpdate;obtain⟨w1,hrun,hm1,hg1,hs1⟩:=run_updateS mapSB HM2.out ch true;go_loud(refine wpList_update_run rfl _ _ _ rfl _ _ _ rfl rfl rfl w1 hrun ?_))
        |(at_builtin;go_loud(refine wpList_append_S (v:=u6) (n:=xs2.length) (m:=1) rfl _ _ rfl elStr5 sC_len sC_one rfl ((HO2.out.keptM hg1 HMB.out).keep (n:=w1.heap.size) (B_alloc (Below.refl _ _) _)) rfl rfl rfl (sl_one (J_new _ _ _ hs1.symm)) (by simp[maxLen];omega) (by omega) (by simp;omega) ?_);intro v3 w3 h1 h2 h3))
       go_roundg (ks.length-(j+1))
       case measure=>omega
       case rel=>
        refine⟨j+1,out2++[ch],xs2++[ch],by omega,Nat.le_refl _,by go_num,h1,?_,?_,?_,?_,?_,?_⟩
        ·have hA1:MapS (w1.alloc (.cells #[.string ch] 9)) w.heap.size ekS evB (outM (out2++[ch])):=by
          have:=hm1.below (n:=w1.heap.size) (B_alloc (Below.refl _ _) (.cells #[.string ch] 9))
          rwa [out_put HNI.out]at this
         exact hA1.grown h2 (fun e=>by
          have hb1:OwnS w1 w.heap.size 9 1 sC _ xs2:=HO2.out.keptM hg1 HMB.out
          obtain⟨es1,c01,hmb1,_⟩:=hm1
          rcases hb1 with⟨e1,_⟩|⟨g1,o1,cp1,cur1,e1,_,hg1',_⟩
          ·rw[e1]at e;cases e
          ·rw[e1]at e
           simp only[blkOf,Option.some.injEq]at e
           subst e
           rw[hmb1]at hg1'
           simp at hg1')
        ·have hB3:Below w.heap.size w (w1.alloc (.cells #[.string ch] 9)):=B_alloc (hB2.grown hg1 hB2.size (fun k e=>by cases e;exact Nat.le_refl _)) _
         exact hB3.grown h2 hB3.size (fun k e=>(HO2.out.ge k e).1)
        ·have:=h2.size
         simp at this
         omega
        ·have:=look_new HL2.out hjx (by rw[HCH.out];exact HNI.out)
         rwa [HCH.out]at this
        ·have hnd:=look_new HL2.out hjx (by rw[HCH.out];exact HNI.out)
         rw[HCH.out]at hnd
         have:=out_few hnd.nd hnd.desc
         simp at this⊢
         omega
        ·simp;omega
      ·have hni:ch∈out2:=any_same.1 hin
       have HNI:=Lib.hid hni
       rw[hin]at hlo'
       clear hin hni
       go_wp2_with fail
       go_roundg (ks.length-(j+1))
       case measure=>omega
       case rel=>exact⟨j+1,out2,xs2,by omega,Nat.le_refl _,by go_num,HO2.out,HM2.out,hB2,hsz2,look_old HL2.out hjx (by rw[HCH.out];exact HNI.out),hgg2,hxl2⟩
     ·have hjl: ¬(j:Int)<(ks.length:Int):=by omega
      have hje:j=(childrenP s x).length:=by rw[HKS.out];omega
      have HF2:Hid (Found s nm out2 xs2):=look_end (by rw[<-hje];exact HL2.out)
      clear hje
      go_wp2_with fail
      go_roundg ((s.children.length-out2.length)+xs2.length)
      case measure=>omega
      case rel=>exact⟨out2,xs2,hown2,hm2,hB2,hsz2,HF2,Nat.le_refl _,by omega⟩
open Classical in
set_option maxRecDepth 100000 in
set_option maxHeartbeats 2000000 in
theorem descends_any (base b:Nat) (s:St) (nm of:ByteArray) (w:World) (hW:PeoAt base w b s) (hl:s.children.length<=100000):
 Calls Tryz.prog 48 #[.pointer (some ⟨b,0,none⟩), .string nm, .string of] w (Ret w (.bool (decide (Desc s of nm)))):=by
 go_enter Tryz.func48,Tryz.ntmps48
 go_wp2_with (go_at_call 91
              refine(desc_any base b s of _ hW hl).mono ?_
              rintro e wq ⟨out,rfl,hm,hf,hB⟩
              have hlo:(Instr.lookup 87 (.map (some w.heap.size)) (.string nm) false).run Tryz.prog wq= .ok (.bool (out.any (sameB nm))) wq:=by
               have:=run_lookup mapSB hm.at nm
               rw[out_get]at this
               exact this)
 go_ret
 refine Ret.of (bool_eq ?_) hB
 rw[Bool.eq_iff_iff,any_same,decide_eq_true_eq]
 exact found_end hf nm
end Go.Proofs.YtmaidggpbihlgaaGreatDoor
namespace Go.Proofs.YtmaidggpbihlgaaGreatDoor
open Go.RowKit Go.Shelf
attribute [local go_sem] World.cell?_alloc_mark ext_size ext_cell ext_frozen lt_add_r lt_add_r2 lt_add_r3 lt_add_r4 lt_add_r5 lt_add_r6 lt_add_r7 lt_add_r8
attribute [local go_sem] ext_setCell alloc_setCell_lt
theorem ix_step {gs:List Grave} {f:Grave->Bool} {k:Nat} (h:k<gs.length):((gs.drop k).findIdx? f).map (· +k)=if f gs[k]then some k else((gs.drop (k+1)).findIdx? f).map (· +(k+1)):=by
 rw[List.drop_eq_getElem_cons h,List.findIdx?_cons]
 split
 ·simp
 ·rw[Option.map_map]
  congr 1
  funext x
  show x+1+k=x+(k+1)
  omega
theorem ix_end {gs:List Grave} {f:Grave->Bool} {k:Nat} (h:gs.length<=k):((gs.drop k).findIdx? f).map (· +k)=none:=by
 rw[List.drop_eq_nil_of_le h];rfl
theorem ix_start (gs:List Grave) (f:Grave->Bool):gs.findIdx? f=((gs.drop 0).findIdx? f).map (· +0):=by
 rw[List.drop_zero]
 cases gs.findIdx? f<;>rfl
def ptrOf (ps:List Nat) (i:Option Nat):Value:= .pointer (i.map fun i=>⟨ps.getD i 0,0,none⟩)
set_option maxRecDepth 100000 in
set_option maxHeartbeats 2000000 in
theorem in_any (base b:Nat) (s:St) (la co:Int) (place:ByteArray) (day:Int) (w:World) {B ps:List Nat} {d c p wl r:Nat} {mv tv:Value} (hC:WldC w b d c p wl r mv tv la co) (hT:TombsAt base w B tv ps s.graves) (hl:s.graves.length<=100000):
 Calls Tryz.prog 31 #[.pointer (some ⟨b,0,none⟩), .string place, .int .i64 day] w (Ret w (ptrOf ps (graveIx s place day))):=by
 obtain⟨A,cc,rfl,hS,hcc⟩:=hT.own.sl ptrC_len
 have hb:=blk_lt hC
 unfold WldC at hC
 have c6:w.cell? ⟨b,6,none⟩=some (.slice A ps.length cc):=by simp[World.cell?,hC]
 have hln:=hT.len
 have HT:=Lib.hid hT.all
 have HS:=Lib.hid hS
 clear hC hT hS
 have hR:graveIx s place day=((s.graves.drop 0).findIdx? fun g=>sameB g.place place&&inForceP g day).map (· +0):=ix_start _ _
 generalize graveIx s place day=R at*
 generalize s.graves=gs at*
 have HR:=Lib.hid hR
 clear hR
 go_enter Tryz.func31,Tryz.ntmps31
 go_wp2_with fail
 go_loopw [14] (fun i wr=> ∃k:Nat,k<=ps.length/\i= .int .i64 k/\Hid (R=((gs.drop k).findIdx? fun g=>sameB g.place place&&inForceP g day).map (· +k))/\ ∃z,wr=w.ext z) (fun i _=>ps.length-(intOf i).toNat)
 case atStart=>exact⟨0,Nat.zero_le _,rfl,HR.out,ext_below (Below.refl _ _)⟩
 case round=>
  obtain⟨k,hk,rfl,HX,z,rfl⟩:=hrel
  by_cases hlt:k<ps.length
  ·obtain⟨b',off,rfl,hb',hc⟩:=(HS.out.keep (below_ext w z)).at hlt
   have hgl:k<gs.length:=by omega
   obtain⟨H,hc',D,dc,fr,t1,t2,t3,t4,t5,t6,t7⟩:=(HT.out k _ _ (List.getElem?_eq_getElem hlt) (List.getElem?_eq_getElem hgl)).keep (below_ext w z)
   have hst:=HX.out.trans (ix_step hgl)
   have HST:=Lib.hid hst
   have hpd:ps.getD k 0=ps[k]:=by rw[List.getD_eq_getElem?_getD,List.getElem?_eq_getElem hlt];rfl
   have HPD:=Lib.hid hpd
   clear hst hpd t5 t6 t7
   generalize ps[k]=T at*
   generalize gs[k]=g at*
   have hTl:=blk_lt t1
   unfold TombC at t1
   have k0:(w.ext z).cell? ⟨T,0,none⟩=some (.string g.place):=by simp only[World.cell?,t1];rfl
   have k3:(w.ext z).cell? ⟨T,3,none⟩=some (.int .i64 g.fin):=by simp only[World.cell?,t1];rfl
   have k4:(w.ext z).cell? ⟨T,4,none⟩=some (.slice H g.holders.length hc'):=by simp only[World.cell?,t1];rfl
   have cp:(w.ext z).cell? ⟨b',off+k,none⟩=some (.pointer (some ⟨T,0,none⟩)):=by have:=hc 0 _ rfl;simpa using this
   have K3:=Lib.hid k3
   have K4:=Lib.hid k4
   have hki:(k:Int)<(ps.length:Int):=by omega
   have hk0:(0:Int)<=(k:Int):=by omega
   clear t1 hc k3 k4
   go_wp2_with (go_at_call 66;refine(inForce_any g H hc' T day _ K3.out K4.out).mono ?_;intro e wq hq;rcases Ret.bools hq with⟨zq,rfl,⟨hb,rfl⟩|⟨hb,rfl⟩⟩<;>clear hq)
   all_goals first
    |(go_ret
      have hRk:R=some k:=by rw[HST.out];simp[sameB_t,sameB_f, *]
      rw[hRk]
      refine Ret.of ?_ Bw
      show _=Value.pointer (some ⟨ps.getD k 0,0,none⟩)
      rw[HPD.out]
      rfl)
    |(go_round
      case rel=>exact⟨k+1,by omega,by go_num,(by rw[HST.out];simp[sameB_t,sameB_f, *]:_=_),ext_below Bw⟩
      case measure=>simp[intOf];omega)
  ·have hki: ¬(k:Int)<(ps.length:Int):=by omega
   have he:=HX.out.trans (ix_end (f:=fun g=>sameB g.place place&&inForceP g day) (by omega:gs.length<=k))
   have HE:=Lib.hid he
   clear he
   go_wp2_with fail
   go_ret
   exact Ret.of (by rw[HE.out];rfl) Bw
end Go.Proofs.YtmaidggpbihlgaaGreatDoor
