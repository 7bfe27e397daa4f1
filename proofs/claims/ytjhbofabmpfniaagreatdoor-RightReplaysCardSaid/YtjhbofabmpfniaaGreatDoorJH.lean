/- Walk of chapter 5's transfer. -/
import Derived.Test.YtjhbofabmpfniaaGreatDoorJX
import Derived.Test.YtjhbofabmpfniaaGreatDoorA1
set_option linter.unusedSimpArgs false
set_option linter.unusedVariables false
set_option maxRecDepth 100000
set_option maxHeartbeats 4000000
namespace Go.Proofs.YtjhbofabmpfniaaGreatDoor
open Go.RowKit Go.Shelf
attribute [local go_sem] World.cell?_alloc_mark zae za3 zam za6 zas zat zau zav zaw zax zay
attribute [local go_sem] Oper.semAt_some
abbrev Pair2:=ByteArray×ByteArray
def pr0:Pair2:=(⟨#[]⟩,⟨#[]⟩)
def zec (ms:List Pair2) (k:Nat):List (Int×Pair2):=(List.range k).map fun j=>(((ms.length-1-j:Nat):Int),ms.getD (ms.length-1-j) pr0)
theorem zmI (ms:List Pair2) (k:Nat):zec ms (k+1)=zec ms k++[(((ms.length-1-k:Nat):Int),ms.getD (ms.length-1-k) pr0)]:=by
 unfold zec;rw[List.range_succ,List.map_append];rfl
theorem zo4 (ms:List Pair2) (k:Nat):(zec ms k).length=k:=by simp[zec]
theorem zo5 (ms:List Pair2):(zec ms ms.length).map (·.2)=ms.reverse:=by
 unfold zec;apply List.ext_getElem
 ·simp
 ·intro i h1 h2;simp at h1;rw[List.getElem_reverse];exact Mbu
theorem zmJ (ms:List Pair2) (k:Nat) (hk:k<=ms.length):(zec ms k).map Prod.snd=ms.reverse.take k:=by
 unfold zec;apply List.ext_getElem
 ·simp;omega
 ·intro i h1 h2;simp at h1;rw[List.getElem_take,List.getElem_reverse];exact Mbu
def encB (x:Int×Pair2):Array Value:= #[.int .i64 x.1, .agg #[.string x.2.1, .string x.2.2]]
theorem back1_in (n:Nat) (hn:1<=n) (l n₀ Bs:Nat) (ms:List Pair2) (A:Option Addr) (c:Nat) (hl:ms.length<=100000) (J Jx:List (Int×Pair2)->World->Prop)
 (hY: ∀pre x W,J pre W->pre.length<ms.length->YieldAt Fence.wide (n-1) Tryz.prog l (encB x) W fun e W'=>
   (e= .returned (.bool true)/\J (pre++[x]) W'/\Below n₀ W W')\/(e= .returned (.bool false)/\Jx (pre++[x]) W'))
 (W:World) (vr:Bs<n₀) (BW:W.cell? ⟨Bs,0,none⟩=some (.slice A ms.length c)) (hS: ∀W',Below n₀ W W'->Sl W' 2 zaT A ms) (h0:J [] W):
 CallsIn Fence.wide n Tryz.prog 225 #[.func (.yield l) #[] #[], .pointer (some ⟨Bs,0,none⟩)] W fun e W'=>(∃v,e= .returned v)/\
  ((∃ys,ys=zec ms ms.length/\J ys W')\/(∃pre,(∃k,k<=ms.length/\pre=zec ms k)/\Jx pre W')):=by
 refine callsIn_of_wp Tryz.func225 rfl trivial ?_ rfl;simp only[Tryz.ntmps225,List.size_toArray,List.length_cons,List.length_nil,Nat.reduceAdd,Nat.reduceSub,Array.replicate_succ,Array.replicate_zero,List.push_toArray,List.append_toArray,List.nil_append,List.cons_append];have u7:IntKind.i64.wrap ((ms.length:Int)-1)=(ms.length:Int)-1:=IntWalk.i64_in _ Mcn;gi_wp2
 gi_loopw [3] (fun i wr=> ∃k:Nat,k<=ms.length/\i= .int .i64 ((ms.length:Int)-1-k)/\J (zec ms k) wr/\Below n₀ W wr) (fun i _=>(intOf i+1).toNat)
 case atStart=>exact⟨0,Nat.zero_le _,by simp,h0,Below.refl _ _⟩
 case round=>
  obtain⟨k,hk,rfl,F7,hB⟩:=hrel;have bl:wr.cell? ⟨Bs,0,none⟩=some (.slice A ms.length c):=(hB.cell (p:=⟨Bs,0,none⟩) vr).trans BW;by_cases aa:k<ms.length
  ·have hi:ms.length-1-k<ms.length:=Mcn;obtain⟨b,off,rfl,hb,hc⟩:=(hS wr hB).at hi;obtain⟨fn,tmps,assign,body,hy,hR⟩:=hY _ (((ms.length-1-k:Nat):Int),ms.getD (ms.length-1-k) pr0) wr F7 (by rw[zo4];exact aa);have bP:ms.getD (ms.length-1-k) pr0=ms[ms.length-1-k]:=by rw[List.getD_eq_getElem?_getD,List.getElem?_eq_getElem hi];rfl
   have HT:=zHi (zmI ms k);rw[bP]at hy hR;have HG:=zHi bP;clear bP;generalize ms[ms.length-1-k]=m at hc hy hR HG;obtain⟨m1,m2⟩:=m;have c0:wr.cell? ⟨b,off+(ms.length-1-k)*2,none⟩=some (.string m1):=hc 0 _ rfl;have c1:wr.cell? ⟨b,off+(ms.length-1-k)*2+1,none⟩=some (.string m2):=hc 1 _ rfl;obtain⟨j,hj⟩: ∃j:Nat,j=ms.length-1-k:=⟨_,rfl⟩
   rw[<-hj]at c0 c1 hy hR HT HG hi;have ck:(ms.length:Int)-1-k=(j:Int):=Mcn;have tN:(0:Int)<=(j:Int):=Mcn;have cX:(j:Int)<(ms.length:Int):=Mcn;rw[ck];have HJ:=zHi ck;clear ck hj hc;simp only[encB]at hy hR;gi_wp2
   refine hR.mono ?_;rintro e W3 (⟨rfl,Jb,tO⟩|⟨rfl,C9⟩)
   ·have jK:IntKind.i64.wrap ((j:Int)-1)=(j:Int)-1:=IntWalk.i64_in _ Mcn;have JR:W3.cell? ⟨Bs,0,none⟩=some (.slice (some ⟨b,off,none⟩) ms.length c):=(tO.cell (p:=⟨Bs,0,none⟩) vr).trans bl;gi_wp2
    go_roundw
    case rel=>exact⟨k+1,by omega,by have:=HJ.o;exact zb1 Mcn,by rw[HT.o,HG.o];exact Jb,hB.trans tO⟩
    case measure=>(have:=HJ.o;simp[intOf];first|done|omega)
   ·gi_wp2
    refine bodyPost_ret (results_none rfl _ _ _) rfl ?_;exact⟨⟨_,rfl⟩, .inr ⟨_,⟨k+1,by omega,rfl⟩,by rw[HT.o,HG.o];exact C9⟩⟩
  ·obtain rfl:k=ms.length:=by omega
   have oG:(ms.length:Int)-1-(ms.length:Int)= -1:=Mcn;rw[oG];gi_wp2
   go_end0
   exact⟨⟨_,rfl⟩, .inl ⟨_,rfl,F7⟩⟩
theorem back1_seq (n:Nat) (hn:1<=n) (n₀ Bs:Nat) (ms:List Pair2) (A:Option Addr) (c:Nat) (hl:ms.length<=100000) (w:World) (Gj:n₀<=w.heap.size) (vr:Bs<n₀) (BW:w.cell? ⟨Bs,0,none⟩=some (.slice A ms.length c)) (hS: ∀W',Below n₀ w W'->Sl W' 2 zaT A ms):
 SeqStopsK Fence.wide n Tryz.prog 225 #[.pointer (some ⟨Bs,0,none⟩)] encB (Below n₀) (fun ys=>ys=zec ms ms.length) (fun pre=> ∃k,k<=ms.length/\pre=zec ms k) ms.length w:=fun l J Jx W hW _ _ hY Ja=>
 back1_in n hn l n₀ Bs ms A c hl J Jx hY W vr ((hW.cell (p:=⟨Bs,0,none⟩) (Nat.lt_of_lt_of_le vr Gj)).trans BW) (fun W' h=>hS W' ((hW.mono Gj).trans h)) Ja
theorem zlw {fn:Func} {p:Tmp} (h:fn.results= #[.cell p 9]) (tmps:Array Value) (w:World) (B:Nat) (x:ByteArray) (hp:tmps.getD p undef= .pointer (some ⟨B,0,none⟩))
 (h0:w.cell? ⟨B,0,none⟩=some (.string x)):(results fn tmps).run Tryz.prog w= .ok (.string x) w:=by
 rw[zdF h,hp];go_simp
theorem back_any (A:Option Addr) (n c:Nat) (w:World):Calls Tryz.prog 159 #[.slice A n c] w fun e w'=>e= .returned (.func (.func 225) #[] #[.pointer (some ⟨w.heap.size,0,none⟩)])/\w'=w.alloc (.cells #[.slice A n c] 32):=by
 go_enter Tryz.func159,Tryz.ntmps159
 exact MaH
def hasN (m:Pair2) (n:ByteArray):Bool:=zaf m.1 n||zaf m.2 n
def zeU (m:Pair2) (n:ByteArray):ByteArray:=if zaf m.1 n then m.2 else m.1
theorem zi4 {n:ByteArray}: ∀ {l:List Pair2},(∀m∈l,hasN m n=false)->zdp n l=⟨#[]⟩
 | [],_=>rfl
 |m::l,h=>by
  have h0:=h m Mcq;simp only[hasN,Bool.or_eq_false_iff]at h0;rw[zdp,h0.1,h0.2];simpa using zi4 fun x hx=>h x (by simp[hx])
theorem zi5 {n:ByteArray} {m:Pair2} {b:List Pair2} (hm:hasN m n=true): ∀ {a:List Pair2},(∀m∈a,hasN m n=false)->zdp n (a++m::b)=zeU m n
 | [],_=>by
   rw[List.nil_append,zdp,zeU];cases h:zaf m.1 n
   ·simp only[hasN,h,Bool.false_or]at hm;simp[hm]
   ·simp
 |x::a,h=>by
  have h0:=h x Mcq;simp only[hasN,Bool.or_eq_false_iff]at h0;rw[List.cons_append,zdp,h0.1,h0.2];simpa using zi5 hm fun x hx=>h x (by simp[hx])
def marks5 (Ds:List Nat):List Deferred:=Ds.map fun D=> {target:= .collected D,args:= #[]}
theorem zeE {F:Fence} {n:Nat} {P:Program} {fn:Func} {tmps:Array Value} {R:Ending->World->Prop} {base:Nat}: ∀(Ds:List Nat) (w:World),Ds.Nodup->(∀D∈Ds,base<=D/\w.heap[D]?=some (.deferred (some [])))->
 (∀w',Below base w w'->(∀(k:Nat) (cs:Array Value) (t:TypeId) (fr:Nat×Nat),w.heap[k]?=some (.cells cs t fr)->w'.heap[k]?=some (.cells cs t fr))-> ∃v,(results fn tmps).run P w'= .ok v w'/\R (.returned v) w')->
 LeavesInM F n P fn tmps R (marks5 Ds) .returning w
 | [],w,_,_,h=>h w (Below.refl _ _) fun _ _ _ _ h=>h
 |D::Ds,w,cQ,hD,h=>by
  obtain⟨hb,hK⟩:=hD D Mcq;have xC:=List.nodup_cons.1 cQ;refine⟨by simp, .inl ⟨D,_,rfl,run_takeDeferred hK,?_⟩⟩;have hp: ∀k,k≠D->(w.putObj D (.deferred none)).heap[k]?=w.heap[k]?:=fun k hk=>by
   simp only[World.putObj,Array.getElem?_setIfInBounds];rw[if_neg (fun e=>hk e.symm)]
  refine zeE Ds (w.putObj D (.deferred none)) xC.2 (fun D' qX=>⟨(hD D' (by simp[qX])).1,(hp D' (fun e=>xC.1 (e▸qX))).trans (hD D' (by simp[qX])).2⟩) fun w' hB hc=> ?_
  refine h w' (Below.trans (⟨rfl,rfl,rfl,by simp[World.putObj],fun k hk=>hp k Mcn⟩:Below base w (w.putObj D (.deferred none))) hB) fun k cs t fr hk=>hc k cs t fr ((hp k (fun e=> ?_)).trans hk)
  subst e;rw[hK]at hk;cases hk
theorem znR {A B:World} {row:Option Nat} {k:Nat} {cs:Array Value} {t:TypeId} {fr:Nat×Nat} (h:A.heap[k]?=some (.cells cs t fr)) (hg:A.grownBy B row) (hr: ∀r,row=some r-> ∃o:Obj,A.heap[r]?=some o/\o.isCells=false):B.heap[k]?=some (.cells cs t fr):=
 (hg.block k (zab h) (fun e=>by
   obtain⟨o,ho,hc⟩:=hr k e.symm;rw[h]at ho;simp only[Option.some.injEq]at ho;subst ho
   cases hc)).trans h
def SpI (x:ByteArray) (W0:World) (pre:List (Int×Pair2)) (W:World):Prop:=(∀m∈pre.map Prod.snd,hasN m x=false)/\Below W0.heap.size W0 W
def SpIx (s:St) (x:ByteArray) (w:World) (c:Code) (pre:List (Int×Pair2)) (W:World):Prop:=
 (c= .ret/\ ∃a m,pre.map Prod.snd=a++[m]/\(∀y∈a,hasN y x=false)/\hasN m x=true/\W.heap[w.heap.size+1+1]?=some (.cells #[.string (if zaK s (zeU m x)then⟨#[]⟩else zeU m x)] 9 (0,0)))/\Below w.heap.size w W
theorem spouse_in (base b:Nat) (s:St) (x:ByteArray) (w:World) (hW:PeoAt base w b s) (hl:s.marriages.length<=100000):
 CallsIn Fence.wide 9 Tryz.prog 99 #[.pointer (some ⟨b,0,none⟩), .string x] w (Ret w (.string (zaJ s x))):=by
 obtain⟨B,d,c,p,wl,r,mv,tv,la,co,h1,h2⟩:=hW;obtain⟨A,cc,rfl,hS,hc⟩:=h2.marr.sl zbi;have hb:=zab h1;unfold WldC at h1;have c3:w.cell? ⟨b,3,none⟩=some (.slice A s.marriages.length cc):=Meq;have HS:=zHi hS;have H1:=zHi h1;have H2:=zHi h2;clear h1 h2 hS;refine callsIn_of_wp_marks Tryz.func99 rfl trivial ?_ rfl;simp only[Tryz.ntmps99,List.size_toArray,List.length_cons,List.length_nil,Nat.reduceAdd,Nat.reduceSub,Array.replicate_succ,Array.replicate_zero,List.push_toArray,List.append_toArray,List.nil_append,List.cons_append];have aS:b≠w.heap.size:=Mcn;have bn:b≠w.heap.size+1:=Mcn;gi_wp2_with (refine⟨trivial,?_⟩;gi_at_call 159;refine(callsIn_wide.2 (back_any _ _ _ _)).mono ?_;rintro e wq ⟨rfl,rfl⟩)
 generalize ao:((((w.alloc (.cells #[.pointer (some ⟨b,0,none⟩)] 191)).alloc (.cells #[.string x] 9)).alloc (.cells #[.string ⟨#[]⟩] 9)).alloc (.cells #[.slice A s.marriages.length cc] 32))=W0;have Ar:W0.heap.size=w.heap.size+4:=by rw[<-ao];simp
 have s0:W0.heap[w.heap.size]?=some (.cells #[.pointer (some ⟨b,0,none⟩)] 191 (0,0)):=by rw[<-ao];exact zal (zal (zal (zar _ _ _ rfl)))
 have s1:W0.heap[w.heap.size+1]?=some (.cells #[.string x] 9 (0,0)):=by rw[<-ao];exact zal (zal (zar _ _ _ Mcq))
 have s2:W0.heap[w.heap.size+1+1]?=some (.cells #[.string ⟨#[]⟩] 9 (0,0)):=by rw[<-ao];exact zal (zar _ _ _ Mcq)
 have s3:W0.heap[w.heap.size+1+1+1]?=some (.cells #[.slice A s.marriages.length cc] 32 (0,0)):=by rw[<-ao];exact zar _ _ _ Mcq
 have aJ:Below w.heap.size w W0:=by rw[<-ao];exact Bw
 have aE:W0.cell? ⟨w.heap.size+1+1+1,0,none⟩=some (.slice A s.marriages.length cc):=by simp[World.cell?,s3]
 clear ao;have S0:=zHi s0;have S1:=zHi s1;have S2:=zHi s2;clear s0 s1 s2 s3;refine wpIn_rangeFunc_ownH rfl Mcn (gf:=225) (lb:= #[.pointer (some ⟨w.heap.size+1+1+1,0,none⟩)]) rfl trivial (enters_of Tryz.func225 Mco rfl)
  (back1_seq (9-1) Mcn W0.heap.size (w.heap.size+1+1+1) s.marriages A cc hl W0 (Nat.le_refl _) Mcn aE (fun W' h=>(HS.o.keep aJ).keep h)) belowK_t (belowK_b (Nat.le_refl _)) (Below.refl _ _) (fun _=>rfl)
  (fun(pre:List (Int×Pair2)) W=>SpI x W0 pre W)
  (fun c (pre:List (Int×Pair2)) W=>SpIx s x w c pre W)
  (fun s A B row hs hg hr=>⟨hs.1,hs.2.grown hg hs.2.size (fun r e=>(hr r e).1)⟩)
  (fun cc s A B row hs hg hr=>⟨by obtain⟨⟨h1,a,m,h2,h3,h4,h5⟩,_⟩:=hs;exact⟨h1,a,m,h2,h3,h4,znR h5 hg (fun r e=>(hr r e).2)⟩,hs.2.grown hg hs.2.size (fun r e=>by have:=(hr r e).1;omega)⟩)
  ⟨by simp,Below.refl _ _⟩
  (fun y a' W=> ∃Bx,W0.heap.size<=Bx/\W.heap[Bx]?=some (.cells #[.string y.2.1, .string y.2.2] 163 (0,0))/\a'= {tmps:= #[.pointer (some ⟨b,0,none⟩), .string x, .pointer (some ⟨w.heap.size,0,none⟩), .pointer (some ⟨w.heap.size+1,0,none⟩), .pointer (some ⟨w.heap.size+1+1,0,none⟩),undef, .pointer (some ⟨Bx,0,none⟩),undef,undef,undef, .pointer (some ⟨b,0,none⟩), .pointer (some ⟨b,0,none⟩), .pointer (some ⟨b,3,none⟩), .slice A s.marriages.length cc, .func (.func 225) #[] #[.pointer (some ⟨w.heap.size+1+1+1,0,none⟩)], .int .i64 y.1, .agg #[.string y.2.1, .string y.2.2],undef,undef,undef,undef,undef,undef,undef,undef,undef,undef,undef,undef,undef,undef,undef,undef,undef,undef,undef,undef,undef],defers:=[]})
  (fun y a' s A B row hs hg hr=>by obtain⟨Bx,h1,h2,h3⟩:=hs;exact⟨Bx,h1,znR h2 hg (fun r e=>(hr r e).2),h3⟩) ?assign ?body ?done ?stop
 case assign=>
  rintro l pre ⟨yi,y1,y2⟩ W K hi hK;simp only[encB];gi_wp2
  exact hK _ _ ((KeepsOthers.alloc _ _).from _) (zad (Below.refl _ _) _ hi.2.size) ⟨hi.1,zad hi.2 _⟩ ⟨W.heap.size,hi.2.size,zar _ _ _ rfl,rfl⟩
 case body=>
  rintro l pre ⟨yi,y1,y2⟩ a' W hWl _ ⟨hp,eU⟩ ⟨Bx,eG,fx,rfl⟩ ag;simp only at fx;have t0:=(eU.block w.heap.size Mcn).trans S0.o;have t1:=(eU.block (w.heap.size+1) Mcn).trans S1.o;have t2:=(eU.block (w.heap.size+1+1) Mcn).trans S2.o;have tW:=(eU.block b Mcn).trans ((aJ.block b hb).trans H1.o);have tA:=H2.o.keep (aJ.trans (eU.mono Mcn));have k0:W.cell? ⟨w.heap.size,0,none⟩=some (.pointer (some ⟨b,0,none⟩)):=by simp[World.cell?,t0]
  have k1:W.cell? ⟨w.heap.size+1,0,none⟩=some (.string x):=by simp[World.cell?,t1]
  have k2:W.cell? ⟨w.heap.size+1+1,0,none⟩=some (.string ⟨#[]⟩):=by simp[World.cell?,t2]
  have k3:W.frozen? ⟨w.heap.size+1+1,0,none⟩=false:=by simp[World.frozen?,t2]
  have k4:W.cell? ⟨b,0,none⟩=some (.map (some d)):=by simp[World.cell?,tW]
  have k5:W.cell? ⟨Bx,0,none⟩=some (.string y1):=by simp[World.cell?,fx]
  have k6:W.cell? ⟨Bx,1,none⟩=some (.string y2):=by simp[World.cell?,fx]
  have l1:=zdb tA y1;have l2:=zdb tA y2;have aW:=zHi eU;have HP:=zHi hp;have T2:=zHi t2;clear t0 t1 t2 tW tA hp;have Kl: ∀W:World,Sem.run Tryz.prog (Instr.index 163 (.agg #[.string y1, .string y2]) (.int .i64 0)) W= .ok (.string y1) W:=fun W=>by kernel_rfl
  have Km: ∀W:World,Sem.run Tryz.prog (Instr.index 163 (.agg #[.string y1, .string y2]) (.int .i64 1)) W= .ok (.string y2) W:=fun W=>by kernel_rfl
  gi_wp2
  gi_loopw [18] (fun i wr=> ∃k:Nat,k<=2/\i= .int .i64 k/\wr=W/\Hid ((0<k->zaf y1 x=false)/\(1<k->zaf y2 x=false))) (fun i _=>2-(intOf i).toNat)
  case atStart=>exact⟨0,by omega,rfl,rfl,⟨by omega,by omega⟩⟩
  case round=>
   obtain⟨k,hk,rfl,rfl,hs⟩:=hrel;obtain rfl|rfl|rfl:k=0\/k=1\/k=2:=by omega
   ·rw[show((0:Nat):Int)=0 from rfl];by_cases h1:y1.toList=x.toList
    ·have aS:(y1.toList==x.toList)=true:=McT;have hm:hasN (y1,y2) x=true:=by simp[hasN,zeg h1]
     have ho:zeU (y1,y2) x=y2:=by simp[zeU,zeg h1]
     have HM:=zHi hm;have HO:=zHi ho;clear hm ho;cases hd:zaK s y2
     ·rw[hd]at l2;gi_wp2
      have g2:=Boxed.set (.string y2) T2.o;have HD:=zHi hd;have bL: ∀i,SpIx s x w .ret (pre++[(i,y1,y2)]) (wr.setCell ⟨w.heap.size+1+1,0,none⟩ (.string y2)):=fun i=>⟨⟨rfl,pre.map Prod.snd,(y1,y2),by simp,HP.o,HM.o,by rw[HO.o,HD.o];exact g2⟩,zaM (aJ.trans (aW.o.mono Mcn)) Mcr _⟩
      exact Mai
     ·rw[hd]at l2;exact MS
    ·have js:(y1.toList==x.toList)=false:=McT;have HN:Hid ((0<1->zaf y1 x=false)/\(1<1->zaf y2 x=false)):=⟨fun _=>ze7 h1,by omega⟩
     gi_wp2
     exact⟨⟨1,by omega,rfl,trivial,HN⟩,by simp[intOf]⟩
   ·rw[show((1:Nat):Int)=1 from rfl];by_cases h2:y2.toList=x.toList
    ·have js:(y2.toList==x.toList)=true:=Mef;have hm:hasN (y1,y2) x=true:=by simp[hasN,zeg h2]
     have ho:zeU (y1,y2) x=y1:=by simp[zeU,hs.o.1 Mcn]
     have HM:=zHi hm;have HO:=zHi ho;clear hm ho;cases hd:zaK s y1
     ·rw[hd]at l1;gi_wp2
      have g2:=Boxed.set (.string y1) T2.o;have HD:=zHi hd;have bL: ∀i,SpIx s x w .ret (pre++[(i,y1,y2)]) (wr.setCell ⟨w.heap.size+1+1,0,none⟩ (.string y1)):=fun i=>⟨⟨rfl,pre.map Prod.snd,(y1,y2),by simp,HP.o,HM.o,by rw[HO.o,HD.o];exact g2⟩,zaM (aJ.trans (aW.o.mono Mcn)) Mcr _⟩
      exact Mai
     ·rw[hd]at l1;exact MS
    ·have js:(y2.toList==x.toList)=false:=Mef;have HN:Hid ((0<2->zaf y1 x=false)/\(1<2->zaf y2 x=false)):=⟨fun _=>hs.o.1 Mcn,fun _=>ze7 h2⟩
     gi_wp2
     exact⟨⟨2,by omega,rfl,trivial,HN⟩,by simp[intOf]⟩
   ·rw[show((2:Nat):Int)=2 from rfl];have hn:hasN (y1,y2) x=false:=by simp[hasN,hs.o.1 Mcn,hs.o.2 Mcn]
    have HN:=zHi hn;clear hn;gi_wp2
    exact⟨KeepsFrom.refl _ _,Below.refl _ _,fun m hm=>by
     rw[List.map_append]at hm;rcases List.mem_append.1 hm with hm|hm
     ·exact HP.o m hm
     ·simp only[List.map_cons,List.map_nil,List.mem_singleton]at hm
      rw[hm];exact HN.o,aW.o⟩
 case done=>
  rintro D ys W hD rfl ⟨hp,eU⟩ hK;have t2:=(eU.block (w.heap.size+1+1) Mcn).trans S2.o;have c2':W.cell? ⟨w.heap.size+1+1,0,none⟩=some (.string ⟨#[]⟩):=by simp[World.cell?,t2]
  have f2':W.frozen? ⟨w.heap.size+1+1,0,none⟩=false:=by simp[World.frozen?,t2]
  have HY:Hid (zaJ s x=⟨#[]⟩):=by
   show _=_;rw[zo5]at hp;unfold zaJ;rw[zi4 hp];simp
  have HK:=zHi hK;have T2:=zHi t2;clear hK t2 hp;gi_wp2
  have g2:=Boxed.set (.string ⟨#[]⟩) T2.o;have J0:(W.setCell ⟨w.heap.size+1+1,0,none⟩ (.string ⟨#[]⟩)).heap[D]?=some (.deferred (some [])):=(heap_setCell_other W ⟨w.heap.size+1+1,0,none⟩ _ _ Mcr).trans HK.o
  refine zeE (base:=w.heap.size) [D] _ Mcq (fun D' qX=>by
   have:D'=D:=by simpa using qX
   subst this
   exact⟨by omega,J0⟩) fun w' ft aV=>⟨.string ⟨#[]⟩,zlw rfl _ _ (w.heap.size+1+1) _ rfl (by simp[World.cell?,aV _ _ _ _ g2]),?_⟩
  exact Ret.of (by rw[HY.o]) ((zaM (aJ.trans (eU.mono Mcn)) Mcr _).trans ft)
 case stop=>
  rintro D cc pre W hD sy ⟨⟨rfl,a,m,h2,h3,h4,h5⟩,eU⟩ hK;have HY:Hid (zaJ s x=if zaK s (zeU m x)then⟨#[]⟩else zeU m x):=by
   show _=_;obtain⟨k,hk,rfl⟩:=sy;rw[zmJ _ _ hk]at h2;have e:s.marriages.reverse=a++m::s.marriages.reverse.drop k:=by
    have:=(List.take_append_drop k s.marriages.reverse).symm;rw[h2]at this;simpa using this
   unfold zaJ;rw[e,zi5 h4 h3]
  have HK:=zHi hK;have G2:=zHi h5;clear hK h5 h4 h3 h2;gi_wp2
  refine zeE (base:=w.heap.size) [D] _ Mcq (fun D' qX=>by
   have:D'=D:=by simpa using qX
   subst this
   exact⟨by omega,HK.o⟩) fun w' ft aV=>⟨.string (if zaK s (zeU m x)then⟨#[]⟩else zeU m x),zlw rfl _ _ (w.heap.size+1+1) _ rfl (by simp[World.cell?,aV _ _ _ _ G2.o]),?_⟩
  exact Ret.of (by rw[HY.o]) (eU.trans ft)
theorem zjH (base b:Nat) (s:St) (x:ByteArray) (w:World) (hW:PeoAt base w b s) (hl:s.marriages.length<=100000):
 Calls Tryz.prog 99 #[.pointer (some ⟨b,0,none⟩), .string x] w (Ret w (.string (zaJ s x))):=callsIn_wide.1 (spouse_in base b s x w hW hl)
end Go.Proofs.YtjhbofabmpfniaaGreatDoor
namespace Go.Proofs.YtjhbofabmpfniaaGreatDoor
open Go.RowKit Go.Shelf
attribute [local go_sem] World.cell?_alloc_mark zae za3 zam za6 zas zat zau zav zaw zax zay
attribute [local go_sem] zaj zac
theorem zi6 {base:Nat} {W:World} {B:List Nat} {d c p wl r:Nat} {mv:Value} {s:St} (h:PplAt base W B d c p wl r mv s) (n:ByteArray):
 ∃A cc,(∀W',Below W.heap.size W W'->(Instr.lookup 134 (.map (some c)) (.string n) false).run Tryz.prog W'= .ok (.slice A (zai s n).length cc) W')/\(zai s n).length<=cc/\Sl W 1 sC A (zai s n):=by
 obtain⟨mc,mp,k1,k2,k3,k4,k5,k6⟩:=h.rows;have hl:=fun W' (hB:Below W.heap.size W W')=>zb3 zmE (k1.below hB).at n
 rcases k3 n with⟨h1,h2⟩|⟨v,h1,h2⟩
 ·rw[h1]at hl;refine⟨none,0,fun W' hB=> ?_,by rw[h2];exact Nat.le_refl _,by rw[h2];exact Sl.nil⟩;rw[h2];exact hl W' hB
 ·rw[h1]at hl;obtain⟨A,cc,rfl,hS,hc⟩:=h2.sl zaD;exact⟨A,cc,hl,hc,hS⟩
def outM (out:List ByteArray):List (ByteArray×Bool):=out.map fun n=>(n,true)
theorem out_put {out:List ByteArray} {n:ByteArray} (h:n∉out):mput eqS n true (outM out)=outM (out++[n]):=by
 induction out with
 |nil=>rfl
 |cons x out ih=>
  have hx:eqS n x=false:=zcn.2 fun e=>h (by simp[e])
  rw[outM,List.map_cons,mput];simp only[hx,Bool.false_eq_true,if_false];have:=ih (fun e=>h (by simp[e]));simp only[outM]at this;rw[this];rfl
theorem out_get (out:List ByteArray) (n:ByteArray):(mget eqS n (outM out)).getD false=out.any (zaf n):=zhK n out
theorem zdj {w:World} {b:Nat} {x:ByteArray} {t:TypeId} {fr:Nat×Nat} (h:w.heap[b]?=some (.cells #[.string x] t fr)):Sl w 1 sC (some ⟨b,0,none⟩) [x]:=fun _=>⟨b,0,rfl,zab h,fun k y hy j u hu=>by
 have hk:k=0:=Mcz;subst hk;simp only[List.getElem?_cons_zero,Option.some.injEq]at hy;subst hy;match j,hu with
 |0,hu=>simp[sC]at hu;simp[World.cell?,h,<-hu]
 |j+1,hu=>simp[sC]at hu⟩
def DescPost (w:World) (s:St) (nm:ByteArray) (e:Ending) (w':World):Prop:=
 ∃out:List ByteArray,e= .returned (.map (some w.heap.size))/\MapS w' w.heap.size ekS evB (outM out)/\Found s nm out []/\Below w.heap.size w w'
theorem desc_any (base b:Nat) (s:St) (nm:ByteArray) (w:World) (hW:PeoAt base w b s) (hl:s.children.length<=100000):
 Calls Tryz.prog 100 #[.pointer (some ⟨b,0,none⟩), .string nm] w (DescPost w s nm):=by
 obtain⟨B,d,c,p,wl,r,mv,tv,la,co,h1,h2⟩:=hW;have hb:=zab h1;unfold WldC at h1;have c1:w.cell? ⟨b,1,none⟩=some (.map (some c)):=Meq;have HP:=zHi h2;have H1:=zHi h1;clear h1 h2;have bR: ∀x,(zai s x).length<=100000:=fun x=>by
  have:(zai s x).length<=s.children.length:=by unfold zai;rw[List.length_map];exact List.length_filter_le _ _
  omega
 go_enter Tryz.func100,Tryz.ntmps100
 have cY:= @run_makeMap Tryz.prog;go_upto_region 3 with fail
 clear cY;have hcw:=c1;go_loopg [6] (s.children.length+1) (fun gg v wr=> ∃out xs:List ByteArray,OwnS wr w.heap.size 9 1 sC v xs/\MapS wr w.heap.size ekS evB (outM out)/\Below w.heap.size w wr/\w.heap.size+1<=wr.heap.size/\Hid (Found s nm out xs)/\(s.children.length-out.length)+xs.length<=gg/\xs.length<=out.length+1)
 case atStart=>
  refine⟨[],[nm], .inr ⟨w.heap.size+1,0,1,#[.string nm],rfl,by omega,zar _ _ _ Mcq,Nat.le_refl _,by simp[maxLen],by simp,fun j u hj=> ?_⟩,?_,Bw,by simp,zmG s nm,by simp,by simp⟩
  ·match j,hj with
   |0,hj=>simpa[sC]using hj
   |j+1,hj=>simp[sC]at hj
  ·exact(MapS.new w).below (n:=w.heap.size+1) (zad (Below.refl _ _) _ Mcq) Mcq
 case round=>
  obtain⟨out,xs,ae,hm,hB,hsz,HF,ba,bv⟩:=hrel;cases xs with
  |nil=>
   obtain⟨A,cc,rfl,hS,hc⟩:=ae.sl zaD;clear ae hS;go_wp2_with fail
   go_ret
   exact⟨out,rfl,hm,HF.o,hB⟩
  |cons x xs=>
   rcases ae with⟨rfl,h0⟩|⟨g,o,cap,cur,rfl,kr,hg,bm,kv,bl,hx⟩
   ·cases h0
   have ae:OwnS wr w.heap.size 9 1 sC (.slice (some ⟨g,o,none⟩) (x::xs).length cap) (x::xs):= .inr ⟨g,o,cap,cur,rfl,kr,hg,bm,kv,bl,hx⟩;obtain⟨_,h1c,cK,wX⟩:=ae.tail zaD;have JS:wr.cell? ⟨g,o,none⟩=some (.string x):=wX 0 _ rfl;have jV:wr.cell? ⟨b,1,none⟩=some (.map (some c)):=(hB.cell (p:=⟨b,1,none⟩) hb).trans c1;obtain⟨KA,kc,ew,fH,im⟩:=zi6 HP.o x;have xl:=ew wr hB;have HK:Hid (∀W',Below w.heap.size w W'->Sl W' 1 sC KA (zai s x)):=fun W' h=>im.keep h
   have vF:Hid (Look s nm x 0 out xs):=found_pop HF.o;have kX:=bR x;have Lh:(0:Int)<((x::xs).length:Int):=by simp only[List.length_cons];omega
   have yB:(1:Int)<=((x::xs).length:Int):=Mcn;have yC:(1:Int)<=(xs.length:Int)+1:=Mcn;have tF:(1:Int)<=(cap:Int):=Mcn;have hT:=zHi cK;have hM:=zHi hm;generalize iR:zai s x=ks at xl HK kX fH;have ic:=zHi iR;clear iR;have wE:=bm;have CN:=bl;have HG:=zHi hg;clear ew im hx hg ae wX cK hm HF bl kv bm;have Cp:Hid (cap=1->OwnS wr w.heap.size 9 1 sC (.slice (some ⟨g,o,none⟩) xs.length 0) xs):=fun e=>by
    have dU:xs=[]:=List.eq_nil_of_length_eq_zero (by simp at wE;omega);subst dU;exact .inr ⟨g,o,0,cur,rfl,kr,HG.o,Nat.le_refl _,Nat.zero_le _,by omega,fun j u hj=>by simp at hj⟩
   clear wE CN;go_upto_region 5 with fail
   go_cut [6]from 13 to 42 (fun v wc=>OwnS wr w.heap.size 9 1 sC v xs/\wr=wc)
   case first=>
    by_cases au:cap=1
    ·go_wp2_with fail
     all_goals go_meet
     all_goals exact⟨Cp.o au,rfl⟩
    ·go_wp2_with fail
     all_goals go_meet
     all_goals exact⟨hT.o,rfl⟩
   case rest=>
    obtain⟨ae,rfl⟩:=hcut;clear hT Cp JS;have fj:=ae;obtain⟨QA,qc,rfl,Jp,hQc⟩:=fj.sl zaD;clear Jp fj;have HO:=zHi ae;clear ae;go_upto_region 7 with fail
    go_loopg [6,28] ks.length (fun gi v i wi=> ∃(j:Nat) (out2 xs2:List ByteArray),j<=ks.length/\ks.length-j<=gi/\i= .int .i64 j/\OwnS wi w.heap.size 9 1 sC v xs2/\MapS wi w.heap.size ekS evB (outM out2)/\Below w.heap.size w wi/\w.heap.size+1<=wi.heap.size/\Hid (Look s nm x j out2 xs2)/\(s.children.length-out2.length)+xs2.length+1<=gk/\xs2.length<=out2.length)
    case atStart=>exact⟨0,out,xs,Nat.zero_le _,Nat.le_refl _,rfl,HO.o,hM.o,hB,hsz,vF,by simp at ba;omega,by simp at bv;omega⟩
    case round=>
     obtain⟨j,out2,xs2,hj,aN,rfl,mN,fC,bB,oP,fZ,Da,yB⟩:=hrel;have hof:=out_few fZ.o.nd fZ.o.desc;by_cases aa:j<ks.length
     ·obtain⟨kb,koff,rfl,mE,xd⟩:=(HK.o wr bB).at aa;obtain⟨ch,zR⟩: ∃ch,ch=ks[j]:=⟨_,rfl⟩
      have c9:wr.cell? ⟨kb,koff+j,none⟩=some (.string ch):=by rw[zR];have:=xd 0 _ rfl;simpa using this
      have dG:=zb3 zox fC.at ch;rw[out_get]at dG;have xo:(Instr.lookup 133 (.map (some w.heap.size)) (.string ch) false).run Tryz.prog wr= .ok (.bool (out2.any (zaf ch))) wr:=dG;clear dG;have cX:(j:Int)<(ks.length:Int):=Mcn;have tN:(0:Int)<=(j:Int):=Mcn;have Dk:j<(zai s x).length:=by rw[ic.o];exact aa
      have wI:(zai s x)[j]=ch:=by rw[zR];simp only[ic.o]
      have oY:=zHi wI;have Hh:=zHi zR;have df:=zHi mN;have p9:=zHi fC;clear xd zR wI mN fC;cases aO:out2.any (zaf ch)
      ·have xF:ch∉out2:=fun h=>by rw[zf4.2 h]at aO;cases aO
       have bF:=zHi aO;have uL:=zHi xF;rw[aO]at xo;clear aO xF;obtain⟨es,c00,Ah,Ge⟩:=p9.o;have Ba:=zHi Ah;clear Ah Ge
       go_wp2_with (first
        |(at_mapUpdate;obtain⟨w1,hrun,ct,cj,dt⟩:=zcu zox p9.o ch true;go_loud(refine zdk rfl _ _ _ rfl _ _ _ rfl rfl rfl w1 hrun ?_))
        |(at_builtin;go_loud(refine za1 (v:=u6) (n:=xs2.length) (m:=1) rfl _ _ rfl zbL zaD zbK rfl ((df.o.keptM cj Ba.o).keep (n:=w1.heap.size) (zad (Below.refl _ _) _)) rfl rfl rfl (zdj (zar _ _ _ dt.symm)) McL Mcn Mcr ?_);intro v3 w3 h1 h2 h3))
       go_roundg (ks.length-(j+1))
       case measure=>omega
       case rel=>
        refine⟨j+1,out2++[ch],xs2++[ch],by omega,Nat.le_refl _,by go_num,h1,?_,?_,?_,?_,?_,?_⟩
        ·have IY:MapS (w1.alloc (.cells #[.string ch] 9)) w.heap.size ekS evB (outM (out2++[ch])):=by
          have:=ct.below (n:=w1.heap.size) (zad (Below.refl _ _) (.cells #[.string ch] 9));rwa [out_put uL.o]at this
         exact IY.grown h2 (fun e=>by
          have aS:OwnS w1 w.heap.size 9 1 sC _ xs2:=df.o.keptM cj Ba.o;obtain⟨es1,c01,Dq,_⟩:=ct;rcases aS with⟨e1,_⟩|⟨g1,o1,cp1,cur1,e1,_,mz,_⟩
          ·rw[e1]at e;cases e
          ·rw[e1]at e;simp only[zaA,Option.some.injEq]at e;subst e;rw[Dq]at mz
           simp at mz)
        ·have eT:Below w.heap.size w (w1.alloc (.cells #[.string ch] 9)):=zad (bB.grown cj bB.size (fun k e=>by cases e;exact Nat.le_refl _)) _;exact eT.grown h2 eT.size (fun k e=>(df.o.ge k e).1)
        ·have:=h2.size;simp at this;omega
        ·have:=znQ fZ.o Dk (by rw[oY.o];exact uL.o);rwa [oY.o]at this
        ·have cQ:=znQ fZ.o Dk (by rw[oY.o];exact uL.o);rw[oY.o]at cQ;have:=out_few cQ.nd cQ.desc;simp at this⊢;omega
        ·simp;omega
      ·have xF:ch∈out2:=zf4.1 aO;have uL:=zHi xF;rw[aO]at xo;clear aO xF;go_wp2_with fail
       go_roundg (ks.length-(j+1))
       case measure=>omega
       case rel=>exact⟨j+1,out2,xs2,by omega,Nat.le_refl _,by go_num,df.o,p9.o,bB,oP,look_old fZ.o Dk (by rw[oY.o];exact uL.o),Da,yB⟩
     ·have cX: ¬(j:Int)<(ks.length:Int):=Mcn;have cA:j=(zai s x).length:=by rw[ic.o];omega
      have uw:Hid (Found s nm out2 xs2):=look_end (by rw[<-cA];exact fZ.o);clear cA;go_wp2_with fail
      go_roundg ((s.children.length-out2.length)+xs2.length)
      case measure=>omega
      case rel=>exact⟨out2,xs2,mN,fC,bB,oP,uw,Nat.le_refl _,by omega⟩
open Classical in
theorem zhw (base b:Nat) (s:St) (nm of:ByteArray) (w:World) (hW:PeoAt base w b s) (hl:s.children.length<=100000):
 Calls Tryz.prog 105 #[.pointer (some ⟨b,0,none⟩), .string nm, .string of] w (Ret w (.bool (decide (Desc s of nm)))):=by
 go_enter Tryz.func105,Tryz.ntmps105
 go_wp2_with (go_at_call 100
              refine(desc_any base b s of _ hW hl).mono ?_;rintro e wq ⟨out,rfl,hm,hf,hB⟩;have dG:(Instr.lookup 133 (.map (some w.heap.size)) (.string nm) false).run Tryz.prog wq= .ok (.bool (out.any (zaf nm))) wq:=by
               have:=zb3 zox hm.at nm;rw[out_get]at this
               exact this)
 go_ret
 refine Ret.of (zaQ ?_) hB;rw[Bool.eq_iff_iff,zf4,decide_eq_true_eq];exact found_end hf nm
end Go.Proofs.YtjhbofabmpfniaaGreatDoor
namespace Go.Proofs.YtjhbofabmpfniaaGreatDoor
open Go.RowKit Go.Shelf
attribute [local go_sem] World.cell?_alloc_mark zae za3 zam za6 zas zat zau zav zaw zax zay
attribute [local go_sem] zaj zac
theorem ix_step {gs:List Grave} {f:Grave->Bool} {k:Nat} (h:k<gs.length):((gs.drop k).findIdx? f).map (· +k)=if f gs[k]then some k else((gs.drop (k+1)).findIdx? f).map (· +(k+1)):=by
 rw[List.drop_eq_getElem_cons h,List.findIdx?_cons];split
 ·simp
 ·rw[Option.map_map];congr 1
  funext x
  show x+1+k=x+(k+1);omega
theorem ix_end {gs:List Grave} {f:Grave->Bool} {k:Nat} (h:gs.length<=k):((gs.drop k).findIdx? f).map (· +k)=none:=by
 rw[List.drop_eq_nil_of_le h];rfl
theorem ix_start (gs:List Grave) (f:Grave->Bool):gs.findIdx? f=((gs.drop 0).findIdx? f).map (· +0):=by
 rw[List.drop_zero];cases gs.findIdx? f<;>rfl
def zlx (ps:List Nat) (i:Option Nat):Value:= .pointer (i.map fun i=>⟨ps.getD i 0,0,none⟩)
theorem zjI (base b:Nat) (s:St) (la co:Int) (place:ByteArray) (day:Int) (w:World) {B ps:List Nat} {d c p wl r:Nat} {mv tv:Value} (hC:WldC w b d c p wl r mv tv la co) (hT:TombsAt base w B tv ps s.graves) (hl:s.graves.length<=100000):
 Calls Tryz.prog 64 #[.pointer (some ⟨b,0,none⟩), .string place, .int .i64 day] w (Ret w (zlx ps (zaO s place day))):=by
 obtain⟨A,cc,rfl,hS,ah⟩:=hT.own.sl zda;have hb:=zab hC;unfold WldC at hC;have c6:w.cell? ⟨b,6,none⟩=some (.slice A ps.length cc):=by simp[World.cell?,hC]
 have eJ:=hT.len;have HT:=zHi hT.all;have HS:=zHi hS;clear hC hT hS;have hR:zaO s place day=((s.graves.drop 0).findIdx? fun g=>zaf g.place place&&zaU g day).map (· +0):=ix_start _ _;generalize zaO s place day=R at*;generalize s.graves=gs at*;have HR:=zHi hR;clear hR;go_enter Tryz.func64,Tryz.ntmps64
 go_wp2_with fail
 go_loopw [14] (fun i wr=> ∃k:Nat,k<=ps.length/\i= .int .i64 k/\Hid (R=((gs.drop k).findIdx? fun g=>zaf g.place place&&zaU g day).map (· +k))/\ ∃z,wr=w.ext z) (fun i _=>ps.length-(intOf i).toNat)
 case atStart=>exact⟨0,Nat.zero_le _,rfl,HR.o,zba (Below.refl _ _)⟩
 case round=>
  obtain⟨k,hk,rfl,HX,z,rfl⟩:=hrel;by_cases aa:k<ps.length
  ·obtain⟨b',off,rfl,cJ,hc⟩:=(HS.o.keep (zaq w z)).at aa;have cz:k<gs.length:=Mcn;obtain⟨H,aV,D,dc,fr,t1,t2,t3,t4,t5,t6,t7⟩:=(HT.o k _ _ (List.getElem?_eq_getElem aa) (List.getElem?_eq_getElem cz)).keep (zaq w z);have aj:=HX.o.trans (ix_step cz);have aD:=zHi aj;have iC:ps.getD k 0=ps[k]:=Mdf;have Il:=zHi iC;clear aj iC t5 t6 t7;generalize ps[k]=T at*;generalize gs[k]=g at*;have cV:=zab t1;unfold zbt at t1;have k0:(w.ext z).cell? ⟨T,0,none⟩=some (.string g.place):=Meo;have k3:(w.ext z).cell? ⟨T,3,none⟩=some (.int .i64 g.fin):=Meo;have k4:(w.ext z).cell? ⟨T,4,none⟩=some (.slice H g.holders.length aV):=Meo;have cp:(w.ext z).cell? ⟨b',off+k,none⟩=some (.pointer (some ⟨T,0,none⟩)):=Mdy;have K3:=zHi k3;have K4:=zHi k4;have ar:(k:Int)<(ps.length:Int):=Mcn;have aT:(0:Int)<=(k:Int):=Mcn;clear t1 hc k3 k4;go_wp2_with (go_at_call 96;refine(ziw g H aV T day _ K3.o K4.o).mono ?_;intro e wq hq;rcases Ret.bools hq with⟨zq,rfl,⟨hb,rfl⟩|⟨hb,rfl⟩⟩<;>clear hq)
   all_goals first
    |(go_ret
      have cO:R=some k:=by rw[aD.o];simp[zeg,ze7, *]
      rw[cO];refine Ret.of ?_ Bw;show _=Value.pointer (some ⟨ps.getD k 0,0,none⟩);rw[Il.o]
      rfl)
    |(go_round
      case rel=>exact⟨k+1,by omega,by go_num,(by rw[aD.o];simp[zeg,ze7, *]:_=_),zba Bw⟩
      case measure=>simp[intOf];omega)
  ·have ar: ¬(k:Int)<(ps.length:Int):=Mcn;have he:=HX.o.trans (ix_end (f:=fun g=>zaf g.place place&&zaU g day) (by omega:gs.length<=k));have HE:=zHi he;clear he;go_wp2_with fail
   go_ret
   exact Ret.of (by rw[HE.o];rfl) Bw
theorem TombAt.kept {base k T:Nat} {W W':World} {B:List Nat} {g:Grave} {cs:Array Value} {t:TypeId} {fr:Nat×Nat} (h:TombAt W base B T g) (hg:W.grownBy W' (some k)) (hx:W.heap[k]?=some (.cells cs t fr)) (ai:T≠k) (h1:t≠75) (h2:t≠9):TombAt W' base B T g:=by
 obtain⟨H,hc,D,dc,fr',t1,t2,t3,t4,t5,t6,t7⟩:=h;exact⟨H,hc,D,dc,fr',(hg.block T (zab t1) (fun e=>ai MdM)).trans t1,t2,t3,t4,t5.kept hg hx h1,t6.kept hg hx h2,t7⟩
theorem TombAt.ne {base k T:Nat} {W:World} {B:List Nat} {g:Grave} {cs:Array Value} {t:TypeId} {fr:Nat×Nat} (h:TombAt W base B T g) (hx:W.heap[k]?=some (.cells cs t fr)) (h1:t≠121):T≠k:=by
 obtain⟨H,hc,D,dc,fr',t1,t2,_⟩:=h;rintro rfl;rw[t1]at hx;simp only[Option.some.injEq,Obj.cells.injEq]at hx;exact h1 hx.2.1.symm
theorem TombsAt.mem {base:Nat} {W:World} {B ps:List Nat} {tv:Value} {gs:List Grave} (h:TombsAt base W B tv ps gs) {T:Nat} (hT:T∈ps): ∃g,TombAt W base B T g:=by
 obtain⟨i,hi,rfl⟩:=List.getElem_of_mem hT;exact⟨_,h.all i _ _ (List.getElem?_eq_getElem hi) (List.getElem?_eq_getElem (by have:=h.len;omega))⟩
theorem TombsAt.lt {base:Nat} {W:World} {B ps:List Nat} {tv:Value} {gs:List Grave} (h:TombsAt base W B tv ps gs) {T:Nat} (hT:T∈ps):T<W.heap.size:=by
 obtain⟨g,H,hc,D,dc,fr',t1,_⟩:=h.mem hT;exact zab t1
theorem TombsAt.kept {base k:Nat} {W W':World} {B ps:List Nat} {tv:Value} {gs:List Grave} {cs:Array Value} {t:TypeId} {fr:Nat×Nat} (h:TombsAt base W B tv ps gs) (hg:W.grownBy W' (some k)) (hx:W.heap[k]?=some (.cells cs t fr)) (h1:t≠75) (h2:t≠9) (h3:t≠121) (h4:t≠118):TombsAt base W' B tv ps gs:=
 ⟨h.own.kept hg hx h4,h.len,h.nd,fun i T g e1 e2=>(h.all i T g e1 e2).kept hg hx ((h.all i T g e1 e2).ne hx h3) h1 h2⟩
theorem wldC_set6 {W:World} {b d c p wl r:Nat} {mv tv:Value} {la co:Int} (h:WldC W b d c p wl r mv tv la co) (v':Value):WldC (W.setCell ⟨b,6,none⟩ v') b d c p wl r mv v' la co:=by
 unfold WldC at*;have:=Joins.block_setCell (i:=6) h v';simpa using this
theorem wld_push {base b:Nat} {W w1:World} {B ps:List Nat} {d c p wl r T:Nat} {mv tv v':Value} {s:St} {g:Grave} {la co:Int} (hb:base<=b) (hC:WldC W b d c p wl r mv tv la co) (hP:PplAt base W B d c p wl r mv s) (hT:TombsAt base W B tv ps s.graves)
 (hN:TombAt W base B T g) (hn:T∉ps) (h1:OwnS w1 base 118 1 ptrC v' (ps++[T])) (h2:W.grownBy w1 (zaA tv)) (h3: ∀k,zaA v'=some k->zaA tv=some k\/W.heap.size<=k):
 WldAt base (w1.setCell ⟨b,6,none⟩ v') b {s with graves:=s.graves++[g]} la co/\WldC w1 b d c p wl r mv tv la co:=by
 have cW:=zab hC;have ae:=hT.own;have bl: ∀k,zaA tv=some k-> ∃cs fr,W.heap[k]?=some (.cells cs 118 fr):=fun k hk=>by
  exact Ma6
 have jt:zaA tv≠some b:=fun e=>by
  obtain⟨cs,fr,hx⟩:=bl b e;exact MbQ
 have cI:WldC w1 b d c p wl r mv tv la co:=(h2.block b cW (fun e=>jt e.symm)).trans hC;have vP:PplAt base w1 B d c p wl r mv s:=by
  cases hk:zaA tv with
  |none=>rw[hk]at h2;exact hP.keep (n:=W.heap.size) ⟨h2.os,h2.tape,h2.output,h2.size,fun i hi=>h2.block i hi Mcq⟩
  |some k=>
   obtain⟨cs,fr,hx⟩:=bl k hk;rw[hk]at h2;exact hP.kept h2 hx Mcp Mcp Mcp
 have b9: ∀ {T':Nat} {g':Grave},TombAt W base B T' g'->TombAt w1 base B T' g':=fun {T' g'} h=>by
  cases hk:zaA tv with
  |none=>rw[hk]at h2;exact h.keep (n:=W.heap.size) ⟨h2.os,h2.tape,h2.output,h2.size,fun i hi=>h2.block i hi Mcq⟩
  |some k=>
   obtain⟨cs,fr,hx⟩:=bl k hk;rw[hk]at h2;exact h.kept h2 hx (h.ne hx Mcp) Mcp Mcp
 refine⟨?_,cI⟩;have aK:=zaz w1 b 6 v';refine⟨B,d,c,p,wl,r,mv,v',ps++[T],hb,wldC_set6 cI v',?_,?_⟩
 ·have:=vP.kept aK cI Mcp Mcp Mcp;exact⟨this.nd,this.ge,this.dead,this.rows,this.marr,this.wills,this.ren⟩
 ·refine⟨h1.kept aK cI Mcp,by simp[hT.len],?_,fun i T' g' e1 e2=> ?_⟩
  ·rw[List.nodup_append];exact⟨hT.nd,by simp,fun a ha b' cJ e=>by rw[List.mem_singleton.1 cJ]at e;exact hn (e▸ha)⟩
  ·have fQ:TombAt w1 base B T' g':=by
    by_cases hi:i<ps.length
    ·have Kj:i<s.graves.length:=by have:=hT.len;omega
     rw[List.getElem?_append_left hi]at e1;rw[List.getElem?_append_left Kj]at e2;exact b9 (hT.all i T' g' e1 e2)
    ·have tM:i=ps.length:=by have:=(List.getElem?_eq_some_iff.1 e1).1;simp at this;omega
     subst tM;simp at e1;rw[hT.len]at e2;simp at e2;subst e1 e2;exact b9 hN
   exact fQ.kept aK cI (fQ.ne cI Mcp) Mcp Mcp
def KeepD (w w':World):Prop:= ∀(k:Nat) (cur:Array Value) (fr:Nat×Nat),w.heap[k]?=some (.cells cur 52 fr)->w'.heap[k]?=w.heap[k]?
section
variable {w w' w2:World}
theorem KeepD.below (h:Below w.heap.size w w'):KeepD w w':=fun k _ _ hk=>h.block k (zab hk)
theorem KeepD.trans (h:KeepD w w') (h2:KeepD w' w2):KeepD w w2:=fun k cur fr hk=>by
 have e:=h k cur fr hk;exact(h2 k cur fr (e.trans hk)).trans e
theorem KeepD.cells {g:Nat} {cs:Array Value} {t:TypeId} {fr:Nat×Nat} (hg:w.grownBy w' (some g)) (hx:w.heap[g]?=some (.cells cs t fr)) (ai:t≠52):KeepD w w':=fun k cur f hk=>
 hg.block k (zab hk) (fun e=>by
  simp only[Option.some.injEq]at e;subst e;rw[hx]at hk;simp only[Option.some.injEq,Obj.cells.injEq]at hk
  exact ai hk.2.1)
theorem KeepD.map {g:Nat} {es:Array MapEntry} {c:Nat} (hg:w.grownBy w' (some g)) (hx:w.heap[g]?=some (.map es c)):KeepD w w':=fun k cur f hk=>
 hg.block k (zab hk) (fun e=>by
  simp only[Option.some.injEq]at e;subst e;rw[hx]at hk
  simp at hk)
theorem KeepD.own {α:Type} {base:Nat} {e:TypeId} {size:Nat} {f:α->List Value} {v:Value} {xs:List α} (h:OwnS w base e size f v xs) (hg:w.grownBy w' (zaA v)) (ai:e≠52):KeepD w w':=by
 rcases h with⟨rfl,_⟩|⟨g,o,c,cur,rfl,_,hx,_⟩
 ·exact fun k cur f hk=>hg.block k (zab hk) Mdg
 ·exact KeepD.cells hg hx ai
end
def zbF (base b:Nat) (x:St×Int) (la co:Int) (w:World) (e:Ending) (w':World):Prop:=
 e= .returned (.int .i64 x.2)/\WldAt base w' b x.1 la co/\Below base w w'/\KeepD w w'
def Deed.v (d:Deed) (B:Option Addr) (c:Nat):Value:= .agg #[.int .i64 d.kind, .int .i64 d.day, .string d.place, .string d.frm, .slice B d.to.length c, .int .i64 d.cls, .int .i64 d.years]
theorem zi7 {p:RPart} (h:za9 16 p.num p.den=true):p.rat.num=p.num/\(p.rat.den:Int)=p.den:=⟨(zbj h).1,(zbj h).2.1⟩
theorem zo6 (l:List RPart) {k:Nat} (h:k<l.length):zbc (l.take (k+1)) []=za4 (zbc (l.take k) []) l[k].name l[k].rat:=by
 rw[List.take_succ_eq_append_getElem h];unfold zbc;rw[List.foldl_append];rfl
theorem sl_ptr {w:World} {b T:Nat} {t:TypeId} {fr:Nat×Nat} (h:w.heap[b]?=some (.cells #[.pointer (some ⟨T,0,none⟩)] t fr)):Sl w 1 ptrC (some ⟨b,0,none⟩) [T]:=fun _=>⟨b,0,rfl,zab h,fun k y hy j u hu=>by
 have hk:k=0:=Mcz;subst hk;simp only[List.getElem?_cons_zero,Option.some.injEq]at hy;subst hy;match j,hu with
 |0,hu=>simp[ptrC]at hu;simp[World.cell?,h,<-hu]
 |j+1,hu=>simp[ptrC]at hu⟩
theorem zhx: ∀ {l:List RPart} {out:Parts} {seen:List ByteArray},zcX l seen=true->(∀p∈out,p.1∈seen)-> ∀k (h:k<l.length),zag (zbc (l.take k) out) l[k].name=0
 | [],_,_,_,_,_,h=>absurd h Mcq
 |p::l,out,seen,hf,ho,0,_=>by
  rw[zcX,Bool.and_eq_true]at hf;have h1:p.name∉seen:=by
   have:=hf.1;simp only[Bool.not_eq_true']at this;intro h;rw[zf4.2 h]at this;cases this
  exact(zdG fun q hq e=>h1 (by have e':q.1=p.name:=e;rw[<-e'];exact ho q hq)).1
 |p::l,out,seen,hf,ho,k+1,h=>by
  rw[zcX,Bool.and_eq_true]at hf
  exact zhx (l:=l) (out:=za4 out p.name p.rat) hf.2 (fun q hq=>by
   rcases zfe hq with e|hq
   ·rw[e];simp
   ·exact List.mem_cons_of_mem _ (ho q hq)) k Mde
theorem zbP {base b:Nat} {s:St} {x:St×Int} {la co er:Int} {w w':World} (hW:WldAt base w b s la co) (hB:Below w.heap.size w w') (hx:x=(s,er)):zbF base b x la co w (.returned (.int .i64 er)) w':=by
 rw[hx];exact⟨rfl,hW.keep hB,hB.mono (by have:=hW.lt;omega),KeepD.below hB⟩
theorem zmK {shares all:Bool} {frm:ByteArray} {l:List RPart} (h:zcB shares all frm l=true):zcX l []=true/\ ∀p∈l,zaf p.name frm=false:=by
 unfold zcB at h;simp only[Bool.and_eq_true,List.all_eq_true,Bool.not_eq_true']at h;exact⟨h.1.1,h.1.2⟩
theorem set_lit (base T:Nat) (xs:Parts) (v:Value) (pl:ByteArray) (cl fr en:Int) (dv:Value) (p:RPart) (w:World) (hp:za9 16 p.num p.den=true) (hT:zbt w T pl cl fr en v dv) (rJ:base<=T) (ae:OwnS w base 75 3 zaa v xs) (hA:AscP xs) (hl:xs.length<=90000):
 Calls Tryz.prog 195 #[.pointer (some ⟨T,0,none⟩), .string p.name, .agg #[.int .i64 p.num, .int .i64 p.den]] w (zku w base T pl cl fr en dv v (setP xs p.name p.rat)):=by
 have h:=ziy base T xs v pl cl fr en dv p.name p.rat w hT rJ ae hA hl;rw[(zi7 hp).1,(zi7 hp).2]at h;exact h
theorem good_take {l:List RPart} (h: ∀p∈l,0<p.rat/\IsN 720720 p.rat/\za9 16 p.num p.den=true) (k:Nat):GoodParts (zbc (l.take k) []):=
 (zio (l:=l.take k) zd7 Mcq fun p hp=>⟨(h p (List.mem_of_mem_take hp)).1,(h p (List.mem_of_mem_take hp)).2.1⟩).1
theorem zcz (n:ByteArray) (q:Rat): ∀l:Parts,(za4 l n q).length<=l.length+1
 | []=>by unfold za4;split<;>simp
 |p::l=>by
  have:=zcz n q l;unfold za4;split
  ·simp
  ·split
   ·simpa using this
   ·split<;>simp<;>omega
theorem zfn: ∀(l:List RPart) (out:Parts),(zbc l out).length<=out.length+l.length
 | [],out=>by simp[zbc]
 |p::l,out=>by
  have h1:=zfn l (za4 out p.name p.rat);have h2:=zcz p.name p.rat out;show(zbc l (za4 out p.name p.rat)).length<=_;simp;omega
theorem grant_any (base b:Nat) (s:St) (la co:Int) (d:Deed) (B:Option Addr) (c:Nat) (w:World) (hW:WldAt base w b s la co) (hL:LensIn w) (hd:OkD d) (hk:d.kind=0) (ag:s.graves.length<=1000) (au:d.to.length<=c) (hS:Sl w 3 RPart.cells B d.to):
 Calls Tryz.prog 138 #[.pointer (some ⟨b,0,none⟩),d.v B c] w (zbF base b (zcN s d) la co w):=by
 have ao:=hW;obtain⟨Bk,dd,cc,pp,wl,rr,mv,tv,ps,aY,hC,hP,hT⟩:=hW;have hp:=(hd.parts (.inl hk)).2;have bO:=(zea hp).1;have zW:=(zmK hp).1;have ca:=hd.day;have dX:=hd.years;have bu:=hd.len;clear hp hd hk;obtain⟨kd,dy,pl,fr,ts,cl,yr⟩:=d;simp only at*;have cW:=zab hC;have bF:=zHi (fun W (hB:Below w.heap.size w W)=>zjI base b s la co pl dy W (hC.keep hB) (hT.keep hB) Mcn);have ug:=zHi (fun W (hB:Below w.heap.size w W)=>ziz base b s ts B _ c W rfl Mcn (ao.peo.keep hB) (hS.keep hB));have am:=zHi (fun W (hB:Below w.heap.size w W)=>zjF dy yr W (hL.keep hB) ca.1 ca.2 dX.1 dX.2);have HW:=zHi ao;have jg:=zHi bO;have Hv:=zHi zW;have HC:=zHi hC;have HP:=zHi hP;have HT:=zHi hT;have HS:=zHi hS;clear ao hC hP hT hS bO zW hL;unfold Deed.v;simp only;go_enter Tryz.func138,Tryz.ntmps138
 go_upto_block 0 with fail
 cases aL:zaO s pl dy with
 |some i=>
  rw[aL]at bF;have HG:Hid (zcN s ⟨kd,dy,pl,fr,ts,cl,yr⟩=(s,13)):=by show _=_;simp[zcN,aL]
  clear aL;go_wp2_with (go_at_call 64;refine(bF.o _ Bw).mono ?_;rintro e wq ⟨rfl,z,rfl⟩;simp only[zlx,Option.map_some])
  go_ret
  exact zbP HW.o Bw HG.o
 |none=>
  rw[aL]at bF;have gR:=zHi aL;clear aL;go_cut [5]from 9 (fun v wc=>v= .int .i64 (if decide (0<yr)then zcg dy yr else-1)/\Hid (zcN s ⟨kd,dy,pl,fr,ts,cl,yr⟩=({s with graves:=s.graves++[⟨pl,cl,if decide (0<yr)then zcg dy yr else-1,zbc ts [],[]⟩]},0))/\Below w.heap.size w wc/\w.heap.size<wc.heap.size/\wc.heap[w.heap.size]?=some (.cells #[.int .i64 kd, .int .i64 dy, .string pl, .string fr, .slice B ts.length c, .int .i64 cl, .int .i64 yr] 52))
  case first=>
   generalize hR:zcg dy yr=R at*;have HR:=zHi hR;clear hR
   go_wp2_with (first
    |(go_at_call 64;refine(bF.o _ Bw).mono ?_;rintro e wq ⟨rfl,z,rfl⟩;simp only[zlx,Option.map_none])
    |(go_at_call 193;refine(ug.o _ Bw).mono ?_;intro e wq hq;rcases Ret.bools hq with⟨zq,rfl,⟨hb,rfl⟩|⟨hb,rfl⟩⟩<;>clear hq)
    |(go_at_call 194;refine(am.o _ Bw).mono ?_;rintro e wq ⟨rfl,z2,rfl⟩))
   all_goals first
    |(go_ret
      exact zbP HW.o Bw (by simp[zcN,gR.o,HR.o, *]))
    |(go_meet
      refine⟨(by first|(simp[*];done)|(simp[*];omega)),(by first|(simp[zcN,gR.o,HR.o, *];done)|(simp[zcN,gR.o,HR.o, *];omega):_=_),Bw,by simp[zae];omega,?_⟩
      repeat(first|exact zar _ _ _ rfl|with_reducible refine zb2 ?_|with_reducible refine zal ?_))
  case rest=>
   obtain⟨rfl,HG,hB,hsz,g0⟩:=hcut;generalize(if decide (0<yr)=true then zcg dy yr else-1)=en at*;clear bF ug am;obtain⟨d0,d1,d2,d3,d4,d5,d6⟩:=cF7 g0;have ai:w.heap.size≠wc.heap.size:=Mcn;have rJ:base<=wc.heap.size:=Mcn;have eA:wc.heap.size∉ps:=fun h=>by have:=HT.o.lt h;omega
   have G0:=zHi g0;clear g0;go_wp2_with fail
   go_loopw [45] (fun i wr=> ∃(k:Nat) (v:Value),k<=ts.length/\i= .int .i64 k/\zbt wr wc.heap.size pl cl dy en v (.slice none 0 0)/\OwnS wr wc.heap.size 75 3 zaa v (zbc (ts.take k) [])/\Below wc.heap.size wc wr) (fun i _=>ts.length-(intOf i).toNat)
   case atStart=>exact⟨0, .slice none 0 0,Nat.zero_le _,rfl,zar _ _ _ rfl,OwnS.nil,Bw⟩
   case round=>
    obtain⟨k,v,hk,rfl,vW,vN,nt⟩:=hrel;have fu:Below w.heap.size w wr:=hB.trans (nt.mono Mcn);have qa:=nt.size;have cV:=zab vW;have bP:=good_take jg.o k;have cz:=zfn (ts.take k) [];have Kb:(ts.take k).length<=8:=Mc7;have yR:=zHi bP;simp only[List.length_nil,Nat.zero_add]at cz;clear bP;by_cases aa:k<ts.length
    ·obtain⟨b',off,rfl,cJ,hc⟩:=(HS.o.keep fu).at aa;have cn:=zhx (out:=[]) Hv.o Mcq k aa;have gJ:=jg.o ts[k] (List.getElem_mem aa);have aK:=zo6 ts aa;generalize ts[k]=p at*;obtain⟨pn,pu,pd⟩:=p;have h0:wr.cell? ⟨b',off+k*3,none⟩=some (.string pn):=hc 0 _ rfl;have h1:wr.cell? ⟨b',off+k*3+1,none⟩=some (.int .i64 pu):=hc 1 _ rfl;have h2:wr.cell? ⟨b',off+k*3+2,none⟩=some (.int .i64 pd):=hc 2 _ rfl;have HN:Hid (setP (zbc (ts.take k) []) pn (RPart.rat ⟨pn,pu,pd⟩)=zbc (ts.take (k+1)) []):=by
      show _=_;have:=zir yR.o (n:=pn) (q:=RPart.rat ⟨pn,pu,pd⟩) (by have:=gJ.1;grind);simp only at cn;rw[cn,Rat.zero_add]at this;rw[this,aK]
     have g8:=zHi (fun W (ft:Below wr.heap.size wr W)=>set_lit wc.heap.size wc.heap.size (zbc (ts.take k) []) v pl cl dy en (.slice none 0 0) ⟨pn,pu,pd⟩ W gJ.2.2 ((ft.block _ cV).trans vW) (Nat.le_refl _) (vN.keep ft) yR.o.asc Mcn);have ar:(k:Int)<(ts.length:Int):=Mcn;have aT:(0:Int)<=(k:Int):=Mcn;have fH:(k:Int)<=(c:Int):=Mcn;clear hc cn gJ aK vW vN;go_wp2_with (go_at_call 195;refine(g8.o _ Bw).mono ?_;rintro e wq ⟨rfl,v',t1,t2,t3,_⟩)
     go_round
     case rel=>exact⟨k+1,v',by omega,by go_num,t1,by rw[<-HN.o];exact t2,Below.trans Bw t3⟩
     case measure=>simp[intOf];omega
    ·have ar: ¬(k:Int)<(ts.length:Int):=Mcn;rw[List.take_of_length_le Mcn]at vN;obtain⟨HA,pw,rfl,xi,eb⟩:=vN.ro;have hN:TombAt wr base Bk wc.heap.size ⟨pl,cl,en,zbc ts [],[]⟩:=⟨HA,pw,none,0,dy,vW,rJ,xi,Nat.le_refl _,eb,Ro.nil,by simp⟩
     have HN:=zHi hN;have zp:WldC wr b dd cc pp wl rr mv tv la co:=HC.o.keep fu;unfold WldC at zp;obtain⟨-,-,-,-,-,-,c6⟩:=cF7 zp;have CI:b<wr.heap.size:=zab zp;have pT:ps.length<=1000:=by rw[HT.o.len];exact ag
     have fA:=HT.o.own.ge;have Hx:=zHi fA;clear vW vN eb hN zp fA
     go_wp2_with (at_builtin
                  go_loud(refine za1 (v:=tv) (n:=ps.length) (m:=1) rfl _ _ rfl elTomb zda znO rfl (HT.o.own.keep (n:=w.heap.size) Bw) rfl rfl rfl (sl_ptr (zar _ _ _ rfl)) McL Mcn Mcr ?_)
                  intro v3 w3 h1 h2 h3;obtain⟨A3,q3,Gx,_,_⟩:=h1.sl zda;rw[List.length_append]at Gx;subst Gx;go_loud(obtain⟨pU,mh⟩:=wld_push aY (HC.o.keep (n:=w.heap.size) Bw) (HP.o.keep (n:=w.heap.size) Bw) (HT.o.keep (n:=w.heap.size) Bw) (HN.o.keep (n:=wr.heap.size) Bw) eA h1 h2 h3)
                  have jR:=zHi pU;go_loud(have ay:=Below.grown (B:=base) (a:=w) (Below.mono (B:=w.heap.size) Bw Mcn) h2 Mcr (fun j hj=>(Hx.o j hj).1))
                  go_loud(have bQ:=((KeepD.below (w:=w) Bw).trans (KeepD.own (HT.o.own.keep (n:=w.heap.size) Bw) h2 Mcp)).trans (KeepD.cells (zaz w3 b 6 (.slice A3 (ps.length+[wc.heap.size].length) q3)) mh Mcp))
                  have jQ:=zHi bQ;unfold WldC at mh;have k6:w3.cell? ⟨b,6,none⟩=some tv:=(by simp only[World.cell?,mh];rfl)
                  have f6:w3.frozen? ⟨b,6,none⟩=false:=(by simp only[World.frozen?,mh];rfl)
                  have aH:=zHi ay
                  clear pU mh ay h1 h2 h3 bQ)
     go_ret
     rw[HG.o];exact⟨rfl,jR.o,zaM aH.o aY _,jQ.o⟩
def zfo {α:Type} (w:World) (e:TypeId) (size:Nat) (f:α->List Value) (xs:List α) (en:Ending) (w':World):Prop:=
 ∃v,en= .returned v/\OwnS w' w.heap.size e size f v xs/\Below w.heap.size w w'
theorem zeF (xs:List (ByteArray×Rat)) (L:Option Addr) (n lc:Nat) (w:World) (hn:n=xs.length) (hl:xs.length<=100000) (hS:Sl w 3 zaa L xs):
 Calls Tryz.prog 108 #[.slice L n lc] w (zfo w 75 3 zaa xs):=by
 have HM:=zHi hn;have q22: ∀(w:World) (a:Option Addr) (n c n' c':Nat),(binOp .eql 39 (.slice a n c) (.slice none n' c')).run Tryz.prog w= .ok (.bool a.isNone) w:=fun w a n c n' c'=>Lib.run_eql_slice_nil w _ _ a n c n' c' Tryz.underlying39
 clear hn;go_enter Tryz.func108,Tryz.ntmps108
 cases L with
 |none=>
  exact MK
 |some ad=>
  go_wp2_with (at_builtin;refine zcl rfl _ _ rfl zdU zao zce rfl (World.ownsRow_made w #[] 0 (Nat.le_refl _) (Nat.zero_le _) Mcq) rfl HM.o (hS.keep Bw) ?q1 ?q2 Mcq ?_)
  case q1=>simp[maxLen,HM.o];omega
  case q2=>simp[HM.o];omega
  intro v' w' h1 h2 h3;go_wp2_with fail
  go_ret
  refine⟨v',rfl,OwnS.of_own zao MdV,Below.grown Bw h2 Mcq Mc8⟩
theorem zly (xs:List ByteArray) (L:Option Addr) (n lc:Nat) (w:World) (hn:n=xs.length) (hl:xs.length<=100000) (hS:Sl w 1 sC L xs):
 Calls Tryz.prog 198 #[.slice L n lc] w (zfo w 9 1 sC xs):=by
 have HM:=zHi hn;have q22: ∀(w:World) (a:Option Addr) (n c n' c':Nat),(binOp .eql 33 (.slice a n c) (.slice none n' c')).run Tryz.prog w= .ok (.bool a.isNone) w:=fun w a n c n' c'=>Lib.run_eql_slice_nil w _ _ a n c n' c' Tryz.underlying33
 clear hn;go_enter Tryz.func198,Tryz.ntmps198
 cases L with
 |none=>
  exact MK
 |some ad=>
  go_wp2_with (at_builtin;refine zcl rfl _ _ rfl zbL zaD zbK rfl (World.ownsRow_made w #[] 0 (Nat.le_refl _) (Nat.zero_le _) Mcq) rfl HM.o (hS.keep Bw) ?q1 ?q2 Mcq ?_)
  case q1=>simp[maxLen,HM.o];omega
  case q2=>simp[HM.o];omega
  intro v' w' h1 h2 h3;go_wp2_with fail
  go_ret
  refine⟨v',rfl,OwnS.of_own zaD MdV,Below.grown Bw h2 Mcq Mc8⟩
def MarkAt (W:World) (C:Nat) (f:Bool):Prop:=W.heap[C]?=some (.cells #[.bool f] 146)
theorem MarkAt.drew {W:World} {C:Nat} {f:Bool} (h:MarkAt W C f):MarkAt W.drew C f:=h
theorem MarkAt.ext {W:World} {C:Nat} {f:Bool} (h:MarkAt W C f) (z:Ez):MarkAt (W.ext z) C f:=zb2 h
theorem MarkAt.alloc {W:World} {C:Nat} {f:Bool} (h:MarkAt W C f) (o:Obj):MarkAt (W.alloc o) C f:=zal h
theorem MarkAt.keep {n:Nat} {W W':World} {C:Nat} {f:Bool} (h:MarkAt W C f) (hB:Below n W W') (hn:C<n):MarkAt W' C f:=(hB.block C hn).trans h
theorem MarkAt.grown {W W':World} {C:Nat} {f:Bool} {k:Nat} (h:MarkAt W C f) (hg:W.grownBy W' (some k)) (hn:C≠k):MarkAt W' C f:=(hg.block C (zab h) (fun e=>hn MdM)).trans h
theorem zah {n b o:Nat} {w W:World} (h:Below n w W) (hb:b<n):W.cell? ⟨b,o,none⟩=w.cell? ⟨b,o,none⟩:=h.cell (p:=⟨b,o,none⟩) hb
theorem zbb {k b o:Nat} {w W:World} (h:w.grownBy W (some k)) (hb:b<w.heap.size) (hk:b≠k):W.cell? ⟨b,o,none⟩=w.cell? ⟨b,o,none⟩:=
 World.cell?_of_block (w:=w) (h.block b hb (fun e=>hk MdM))
def zeG (w:World) (C:Nat) (f:Bool) (r:Rat) (e:Ending) (w':World):Prop:=
 e= .returned (zaB (zbg r))/\MarkAt w' C (f||bigQ r)/\w.grownBy w' (some C)
theorem zlz (w:World) (z:Ez) (row:Option Nat):w.grownBy (w.ext z) row:=zkX (zdE w row) z
theorem zi8 {w w':World} {C:Nat} {f:Bool} {r:Rat} {e:Ending} (hC:MarkAt w C f) (h:ze4 w C r e w'):zeG w C f r e w':=by
 unfold MarkAt at hC;rcases h with⟨hd,rfl,z,rfl⟩|⟨hd,rfl,z,rfl⟩
 ·have hb:bigQ r=false:=by unfold bigQ;simp;omega
  refine⟨by rw[zfg hb],?_,zlz _ _ _⟩;rw[hb,Bool.or_false];exact zb2 hC
 ·have hb:bigQ r=true:=by unfold bigQ;simp;omega
  refine⟨by unfold zbg;rw[hb];rfl,?_,zkX (zaz _ _ _ _) z⟩;rw[hb,Bool.or_true];refine zb2 ?_;have:=Joins.block_setCell (i:=0) hC (.bool true);simpa using this
theorem zbV {w:World} {C:Nat} {f:Bool} (hC:MarkAt w C f):w.cell? ⟨C,0,none⟩=some (.bool f)/\C<w.heap.size/\w.frozen? ⟨C,0,none⟩=false:=by
 have h:=zab hC;unfold MarkAt at hC;exact⟨by simp[World.cell?,hC],h,by simp[World.frozen?,hC]⟩
theorem zhM (C:Nat) (f:Bool) (w:World) (hC:MarkAt w C f) (p q:Rat) (hp:zaI p) (hq:zaI q):Calls Tryz.prog 196 #[.pointer (some ⟨C,0,none⟩),zaB p,zaB q] w (zeG w C f (p*q)):=
 (cmul5_any C f w (zbV hC).1 (zbV hC).2.1 (zbV hC).2.2 p q hp hq).mono fun _ _ h=>zi8 hC h
theorem zhN (C:Nat) (f:Bool) (w:World) (hC:MarkAt w C f) (p q:Rat) (hp:zaI p) (hq:zaI q):Calls Tryz.prog 113 #[.pointer (some ⟨C,0,none⟩),zaB p,zaB q] w (zeG w C f (p+q)):=
 (cadd5_any C f w (zbV hC).1 (zbV hC).2.1 (zbV hC).2.2 p q hp hq).mono fun _ _ h=>zi8 hC h
theorem znS (C:Nat) (f:Bool) (w:World) (hC:MarkAt w C f) (p q:Rat) (hp:zaI p) (hq:zaI q) (h0:0<q):Calls Tryz.prog 197 #[.pointer (some ⟨C,0,none⟩),zaB p,zaB q] w (zeG w C f (p/q)):=
 (cquo5_any C f w (zbV hC).1 (zbV hC).2.1 (zbV hC).2.2 p q hp hq h0).mono fun _ _ h=>zi8 hC h
theorem zi9 {base b i T:Nat} {W W':World} {B ps:List Nat} {d c p wl r:Nat} {mv tv:Value} {s:St} {g':Grave} {la co:Int} {cs:Array Value} {fr:Nat×Nat} (hb:base<=b) (hC:WldC W b d c p wl r mv tv la co) (hP:PplAt base W B d c p wl r mv s) (hT:TombsAt base W B tv ps s.graves)
 (hi:ps[i]?=some T) (hx:W.heap[T]?=some (.cells cs 121 fr)) (hg:W.grownBy W' (some T)) (hN:TombAt W' base B T g'):WldAt base W' b (s.withGrave i g') la co:=by
 have rJ:b≠T:=fun e=>by
  subst e;exact MbQ
 have cC:WldC W' b d c p wl r mv tv la co:=(hg.block b (zab hC) (fun e=>rJ MdM)).trans hC;refine⟨B,d,c,p,wl,r,mv,tv,ps,hb,cC,?_,?_⟩
 ·have:=hP.kept hg hx Mcp Mcp Mcp;exact⟨this.nd,this.ge,this.dead,this.rows,this.marr,this.wills,this.ren⟩
 ·refine⟨hT.own.kept hg hx Mcp,by simp[St.withGrave,hT.len],hT.nd,fun j T' g e1 e2=> ?_⟩;simp only[St.withGrave]at e2;by_cases hj:i=j
  ·subst hj;rw[hi]at e1;have f9:i<s.graves.length:=MdL;exact Mbp
  ·exact Mas
theorem zey {base:Nat} {W:World} {B ps:List Nat} {tv:Value} {s:St} {place:ByteArray} {day:Int} {i:Nat} (hT:TombsAt base W B tv ps s.graves) (h:zaO s place day=some i):
 ∃T g,ps[i]?=some T/\ps.getD i 0=T/\s.graves[i]?=some g/\s.graves.getD i zfb=g/\TombAt W base B T g/\zaU g day=true:=by
 obtain⟨g,h1,h2,h3⟩:=zbJ h;have hi:i<ps.length:=by have:=(List.getElem?_eq_some_iff.1 h1).1;have:=hT.len;omega
 refine⟨ps[i],g,List.getElem?_eq_getElem hi,by rw[List.getD_eq_getElem?_getD,List.getElem?_eq_getElem hi];rfl,h1,zeb h1,hT.all i _ g (List.getElem?_eq_getElem hi) h1,h3⟩
theorem ziA {W:World} {T:Nat} {cs0 cs1 cs2 cs3 cs4 cs5:Value} {fr:Nat×Nat} (h:W.heap[T]?=some (.cells #[cs0,cs1,cs2,cs3,cs4,cs5] 121 fr)) (a0 a1 a2 a3 a4 a5:Value):
 ((((((W.setCell ⟨T,0,none⟩ a0).setCell ⟨T,1,none⟩ a1).setCell ⟨T,2,none⟩ a2).setCell ⟨T,3,none⟩ a3).setCell ⟨T,4,none⟩ a4).setCell ⟨T,5,none⟩ a5).heap[T]?=some (.cells #[a0,a1,a2,a3,a4,a5] 121 fr):=by
 have:=Joins.block_setCell (i:=5) (Joins.block_setCell (i:=4) (Joins.block_setCell (i:=3) (Joins.block_setCell (i:=2) (Joins.block_setCell (i:=1) (Joins.block_setCell (i:=0) h a0) a1) a2) a3) a4) a5;simpa using this
theorem zcd (W:World) (T:Nat) (a0 a1 a2 a3 a4 a5:Value):W.grownBy ((((((W.setCell ⟨T,0,none⟩ a0).setCell ⟨T,1,none⟩ a1).setCell ⟨T,2,none⟩ a2).setCell ⟨T,3,none⟩ a3).setCell ⟨T,4,none⟩ a4).setCell ⟨T,5,none⟩ a5) (some T):=
 zbl (zbl (zbl (zbl (zbl (zaz _ _ _ _) (zaz _ _ _ _)) (zaz _ _ _ _)) (zaz _ _ _ _)) (zaz _ _ _ _)) (zaz _ _ _ _)
def zeH (l:List RPart):Rat:=1-sumQ (zap l)
theorem zl0 (l:List RPart) {k:Nat} (h:k<l.length):zeH (l.take (k+1))=zeH (l.take k)-l[k].rat:=by
 have hs: ∀a b:Parts,sumQ (a++b)=sumQ a+sumQ b:=fun a b=>by
  exact Mbk
 unfold zeH;rw[List.take_succ_eq_append_getElem h];unfold zap;rw[List.map_append,hs];simp only[List.map_cons,List.map_nil,sumQ];grind
theorem znT {l:List RPart} (h: ∀p∈l,0<p.rat): ∀k,0<=sumQ (zap (l.take k))/\sumQ (zap (l.take k))<=sumQ (zap l):=fun k=>by
 have hs: ∀a b:Parts,sumQ (a++b)=sumQ a+sumQ b:=fun a b=>by
  exact Mbk
 have hp: ∀m:List RPart,(∀p∈m,0<p.rat)->0<=sumQ (zap m):=fun m hm=>zbp fun p hp=>by
  obtain⟨q,hq,rfl⟩:=List.mem_map.1 hp;have:=hm q hq;show 0<=q.rat;grind
 refine⟨hp _ fun p hp=>h p (List.mem_of_mem_take hp),?_⟩;have h2:=hp (l.drop k) fun p hp=>h p (List.mem_of_mem_drop hp)
 have e:zap l=zap (l.take k)++zap (l.drop k):=by
  unfold zap;rw[<-List.map_append,List.take_append_drop]
 rw[e,hs];grind
theorem ziB {l:List RPart} (h: ∀p∈l,0<p.rat/\IsN 720720 p.rat/\za9 16 p.num p.den=true): ∀k,Fits (zeH (l.take k))
 |0=>by
  show Fits (1-0);rw[show(1:Rat)-0=1 by grind];exact fits_one
 |k+1=>by
  by_cases hk:k<l.length
  ·rw[zl0 l hk];exact(ziB h k).sub (zeq (h _ (List.getElem_mem hk)).2.2)
  ·rw[show l.take (k+1)=l.take k by rw[List.take_of_length_le Mcn,List.take_of_length_le Mcn]];exact ziB h k
theorem subS_any (s:Rat) (a b:Int) (W:World) (hs:zaI s) (h:za9 16 a b=true):Calls Tryz.prog 148 #[.agg #[.int .i64 s.num, .int .i64 s.den], .agg #[.int .i64 a, .int .i64 b]] W (Ret W (zaB (s-Rat.divInt a b))):=by
 obtain⟨h1,h2,h3,h4⟩:=zbj h;have:=zhC s (Rat.divInt a b) W hs ((zeq h).small (Rat.le_trans Mcp h3) (Rat.le_trans h4 Mcp));unfold zaB at this⊢;rw[h1,h2]at this;exact this
theorem mulS_any (C:Nat) (f:Bool) (w:World) (hC:MarkAt w C f) (p:Rat) (a b:Int) (hp:zaI p) (h:za9 16 a b=true):Calls Tryz.prog 196 #[.pointer (some ⟨C,0,none⟩), .agg #[.int .i64 p.num, .int .i64 p.den], .agg #[.int .i64 a, .int .i64 b]] w (zeG w C f (p*Rat.divInt a b)):=by
 obtain⟨h1,h2,h3,h4⟩:=zbj h;have:=zhM C f w hC p (Rat.divInt a b) hp ((zeq h).small (Rat.le_trans Mcp h3) (Rat.le_trans h4 Mcp));unfold zaB at this;rw[h1,h2]at this;exact this
theorem zl1 {s:St} {d:Deed} {i:Nat} {g:Grave} (aL:zaO s d.place d.day=some i) (hg:s.graves.getD i zfb=g) (hG:GoodG g) (hp: ∀p∈zap d.to,0<=p.2) (h1:sumQ (zap d.to)<=1):
 zbo s d=if g.cls==4 then(s,15)else if zag g.holders d.frm==0 then(s,19)else if ze3 s d.to then(s,28)else
  if(zcw g.holders d.frm (zap d.to)).2 then(s,8)else(s.withGrave i {g with holders:=(zcw g.holders d.frm (zap d.to)).1},0):=by
 have hs:=zks (frm:=d.frm) hG.good hG.small hp h1;unfold zbo;rw[aL];simp only[hg];cases hb:bigQ (zag g.holders d.frm*(1-sumQ (zap d.to)))
 ·rw[hb]at hs;simp only[Bool.false_eq_true,if_false]at hs⊢;rw[hs];cases(zcw g.holders d.frm (zap d.to)).2<;>rfl
 ·rw[hb]at hs;simp only[if_true]at hs⊢;cases ht:(zcw g.holders d.frm (zap d.to)).2
  ·rw[ht]at hs;simp at hs
  ·rfl
end Go.Proofs.YtjhbofabmpfniaaGreatDoor
