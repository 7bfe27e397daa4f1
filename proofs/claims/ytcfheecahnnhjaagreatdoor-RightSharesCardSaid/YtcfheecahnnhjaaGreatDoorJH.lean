import Derived.Test.YtcfheecahnnhjaaGreatDoorJX
import Derived.Test.YtcfheecahnnhjaaGreatDoorJT
import Derived.Deep.RegionHeld3
set_option linter.all false
set_option maxRecDepth 100000
set_option maxHeartbeats 4000000
namespace Go.Proofs.YtcfheecahnnhjaaGreatDoor
open Go.RowKit Go.Shelf
attribute [local go_sem] World.cell?_alloc_mark zag za4 zar zaB zaw zax zay zaz za0 za1 za2
section
attribute [local go_sem] Oper.semAt_some
abbrev Pair2:=ByteArray×ByteArray
def pr0:Pair2:=(⟨#[]⟩,⟨#[]⟩)
def zeg(ms:List Pair2)(k:Nat):List (Int×Pair2):=(List.range k).map fun j=>(((ms.length-1-j:Nat):Int),ms.getD (ms.length-1-j) pr0)
theorem zmG(ms:List Pair2)(k:Nat):zeg ms (k+1)=zeg ms k++[(((ms.length-1-k:Nat):Int),ms.getD (ms.length-1-k) pr0)]:=by
 unfold zeg;rw[List.range_succ,List.map_append];rfl
theorem zoA(ms:List Pair2)(k:Nat):(zeg ms k).length=k:=by simp[zeg]
theorem zoB(ms:List Pair2):(zeg ms ms.length).map (·.2)=ms.reverse:=by
 unfold zeg;apply List.ext_getElem
 ·simp
 ·intro i h1 h2;simp at h1;rw[List.getElem_reverse];exact MbB
theorem zmH(ms:List Pair2)(k:Nat)(hk:k<=ms.length):(zeg ms k).map Prod.snd=ms.reverse.take k:=by
 unfold zeg;apply List.ext_getElem
 ·simp;omega
 ·intro i h1 h2;simp at h1;rw[List.getElem_take,List.getElem_reverse];exact MbB
def encB(x:Int×Pair2):Array Value:= #[.int .i64 x.1,.agg #[.string x.2.1,.string x.2.2]]
theorem back1_in(n:Nat)(hn:1<=n)(l n₀ Bs:Nat)(ms:List Pair2)(A:Option Addr)(c:Nat)(hl:ms.length<=100000)(J Jx:List (Int×Pair2)->World->Prop)
 (hY:∀pre x W,J pre W->pre.length<ms.length->YieldAt Fence.wide (n-1) Tryz.prog l (encB x) W fun e W'=>
   (e=.returned (.bool true)/\J (pre++[x]) W'/\Below n₀ W W')\/(e=.returned (.bool false)/\Jx (pre++[x]) W'))
 (W:World)(wg:Bs<n₀)(Ca:W.cell? ⟨Bs,0,none⟩=some (.slice A ms.length c))(hS:∀W',Below n₀ W W'->Sl W' 2 zaV A ms)(h0:J [] W):
 CallsIn Fence.wide n Tryz.prog 193 #[.func (.yield l) #[] #[],.pointer (some ⟨Bs,0,none⟩)] W fun e W'=>(∃v,e=.returned v)/\
  ((∃ys,ys=zeg ms ms.length/\J ys W')\/(∃pre,(∃k,k<=ms.length/\pre=zeg ms k)/\Jx pre W')):=by
 refine callsIn_of_wp Tryz.func193 rfl trivial ?_ rfl;simp only[Tryz.ntmps193,List.size_toArray,List.length_cons,List.length_nil,Nat.reduceAdd,Nat.reduceSub,Array.replicate_succ,Array.replicate_zero,List.push_toArray,List.append_toArray,List.nil_append,List.cons_append];have uA:IntKind.i64.wrap ((ms.length:Int)-1)=(ms.length:Int)-1:=IntWalk.i64_in _ Mcu;gi_wp2
 gi_loopw [3] (fun i wr=>∃k:Nat,k<=ms.length/\i=.int .i64 ((ms.length:Int)-1-k)/\J (zeg ms k) wr/\Below n₀ W wr) (fun i _=>(intOf i+1).toNat)
 case atStart=>exact⟨0,Nat.zero_le _,by simp,h0,Below.refl _ _⟩
 case round=>
  obtain⟨k,hk,rfl,Fr,hB⟩:=hrel;have bh:wr.cell? ⟨Bs,0,none⟩=some (.slice A ms.length c):=(hB.cell (p:=⟨Bs,0,none⟩) wg).trans Ca;by_cases ae:k<ms.length
  ·have hi:ms.length-1-k<ms.length:=Mcu;obtain⟨b,off,rfl,hb,hc⟩:=(hS wr hB).at hi;obtain⟨fn,tmps,assign,body,hy,hR⟩:=hY _ (((ms.length-1-k:Nat):Int),ms.getD (ms.length-1-k) pr0) wr Fr (by rw[zoA];exact ae);have bG:ms.getD (ms.length-1-k) pr0=ms[ms.length-1-k]:=by rw[List.getD_eq_getElem?_getD,List.getElem?_eq_getElem hi];rfl
   have HT:=zHi (zmG ms k);rw[bG]at hy hR;have HG:=zHi bG;clear bG;generalize ms[ms.length-1-k]=m at hc hy hR HG;obtain⟨m1,m2⟩:=m;have c0:wr.cell? ⟨b,off+(ms.length-1-k)*2,none⟩=some (.string m1):=hc 0 _ rfl;have c1:wr.cell? ⟨b,off+(ms.length-1-k)*2+1,none⟩=some (.string m2):=hc 1 _ rfl;obtain⟨j,hj⟩:∃j:Nat,j=ms.length-1-k:=⟨_,rfl⟩
   rw[<-hj]at c0 c1 hy hR HT HG hi;have cr:(ms.length:Int)-1-k=(j:Int):=Mcu;have pT:(0:Int)<=(j:Int):=Mcu;have cQ:(j:Int)<(ms.length:Int):=Mcu;rw[cr];have HJ:=zHi cr;clear cr hj hc;simp only[encB]at hy hR;gi_wp2
   refine hR.mono ?_;rintro e W3 (⟨rfl,JF,uq⟩|⟨rfl,Cn⟩)
   ·have jy:IntKind.i64.wrap ((j:Int)-1)=(j:Int)-1:=IntWalk.i64_in _ Mcu;have Km:W3.cell? ⟨Bs,0,none⟩=some (.slice (some ⟨b,off,none⟩) ms.length c):=(uq.cell (p:=⟨Bs,0,none⟩) wg).trans bh;gi_wp2
    go_roundw
    case rel=>exact⟨k+1,by omega,by have:=HJ.o;exact zbB Mcu,by rw[HT.o,HG.o];exact JF,hB.trans uq⟩
    case measure=>(have:=HJ.o;simp[intOf];first|done|omega)
   ·gi_wp2
    refine bodyPost_ret (results_none rfl _ _ _) rfl ?_;exact⟨⟨_,rfl⟩,.inr ⟨_,⟨k+1,by omega,rfl⟩,by rw[HT.o,HG.o];exact Cn⟩⟩
  ·obtain rfl:k=ms.length:=by omega
   have oQ:(ms.length:Int)-1-(ms.length:Int)= -1:=Mcu;rw[oQ];gi_wp2
   go_end0
   exact⟨⟨_,rfl⟩,.inl ⟨_,rfl,Fr⟩⟩
theorem back1_seq(n:Nat)(hn:1<=n)(n₀ Bs:Nat)(ms:List Pair2)(A:Option Addr)(c:Nat)(hl:ms.length<=100000)(w:World)(GE:n₀<=w.heap.size)(wg:Bs<n₀)(Ca:w.cell? ⟨Bs,0,none⟩=some (.slice A ms.length c))(hS:∀W',Below n₀ w W'->Sl W' 2 zaV A ms):
 SeqStopsK Fence.wide n Tryz.prog 193 #[.pointer (some ⟨Bs,0,none⟩)] encB (Below n₀) (fun ys=>ys=zeg ms ms.length) (fun pre=>∃k,k<=ms.length/\pre=zeg ms k) ms.length w:=fun l J Jx W hW _ _ hY JE=>
 back1_in n hn l n₀ Bs ms A c hl J Jx hY W wg ((hW.cell (p:=⟨Bs,0,none⟩) (Nat.lt_of_lt_of_le wg GE)).trans Ca) (fun W' h=>hS W' ((hW.mono GE).trans h)) JE
theorem zlv{fn:Func}{p:Tmp}(h:fn.results= #[.cell p 9])(tmps:Array Value)(w:World)(B:Nat)(x:ByteArray)(hp:tmps.getD p undef=.pointer (some ⟨B,0,none⟩))
 (h0:w.cell? ⟨B,0,none⟩=some (.string x)):(results fn tmps).run Tryz.prog w=.ok (.string x) w:=by
 rw[zdJ h,hp];go_simp
theorem back_any(A:Option Addr)(n c:Nat)(w:World):Calls Tryz.prog 180 #[.slice A n c] w fun e w'=>e=.returned (.func (.func 193) #[] #[.pointer (some ⟨w.heap.size,0,none⟩)])/\w'=w.alloc (.cells #[.slice A n c] 41):=by
 go_enter Tryz.func180,Tryz.ntmps180
 exact MaW
def hasN(m:Pair2)(n:ByteArray):Bool:=zae m.1 n||zae m.2 n
def zeV(m:Pair2)(n:ByteArray):ByteArray:=if zae m.1 n then m.2 else m.1
theorem zi0{n:ByteArray}:∀ {l:List Pair2},(∀m∈l,hasN m n=false)->zdt n l=⟨#[]⟩
 | [],_=>rfl
 |m::l,h=>by
  have h0:=h m Mcx;simp only[hasN,Bool.or_eq_false_iff]at h0;rw[zdt,h0.1,h0.2];simpa using zi0 fun x hx=>h x (by simp[hx])
theorem zi1{n:ByteArray}{m:Pair2}{b:List Pair2}(hm:hasN m n=true):∀ {a:List Pair2},(∀m∈a,hasN m n=false)->zdt n (a++m::b)=zeV m n
 | [],_=>by
   rw[List.nil_append,zdt,zeV];cases h:zae m.1 n
   ·simp only[hasN,h,Bool.false_or]at hm;simp[hm]
   ·simp
 |x::a,h=>by
  have h0:=h x Mcx;simp only[hasN,Bool.or_eq_false_iff]at h0;rw[List.cons_append,zdt,h0.1,h0.2];simpa using zi1 hm fun x hx=>h x (by simp[hx])
def marks5(Ds:List Nat):List Deferred:=Ds.map fun D=> {target:=.collected D,args:= #[]}
theorem zeF{F:Fence}{n:Nat}{P:Program}{fn:Func}{tmps:Array Value}{R:Ending->World->Prop}{base:Nat}:∀(Ds:List Nat) (w:World),Ds.Nodup->(∀D∈Ds,base<=D/\w.heap[D]?=some (.deferred (some [])))->
 (∀w',Below base w w'->(∀(k:Nat) (cs:Array Value) (t:TypeId) (fr:Nat×Nat),w.heap[k]?=some (.cells cs t fr)->w'.heap[k]?=some (.cells cs t fr))->∃v,(results fn tmps).run P w'=.ok v w'/\R (.returned v) w')->
 LeavesInM F n P fn tmps R (marks5 Ds) .returning w
 | [],w,_,_,h=>h w (Below.refl _ _) fun _ _ _ _ h=>h
 |D::Ds,w,cZ,hD,h=>by
  obtain⟨hb,hK⟩:=hD D Mcx;have yk:=List.nodup_cons.1 cZ;refine⟨by simp,.inl ⟨D,_,rfl,run_takeDeferred hK,?_⟩⟩;have hp:∀k,k≠D->(w.putObj D (.deferred none)).heap[k]?=w.heap[k]?:=fun k hk=>by
   simp only[World.putObj,Array.getElem?_setIfInBounds];rw[if_neg (fun e=>hk e.symm)]
  refine zeF Ds (w.putObj D (.deferred none)) yk.2 (fun D' ru=>⟨(hD D' (by simp[ru])).1,(hp D' (fun e=>yk.1 (e▸ru))).trans (hD D' (by simp[ru])).2⟩) fun w' hB hc=>?_
  refine h w' (Below.trans (⟨rfl,rfl,rfl,by simp[World.putObj],fun k hk=>hp k Mcu⟩:Below base w (w.putObj D (.deferred none))) hB) fun k cs t fr hk=>hc k cs t fr ((hp k (fun e=>?_)).trans hk)
  subst e;rw[hK]at hk;cases hk
theorem znT{A B:World}{row:Option Nat}{k:Nat}{cs:Array Value}{t:TypeId}{fr:Nat×Nat}(h:A.heap[k]?=some (.cells cs t fr))(hg:A.grownBy B row)(hr:∀r,row=some r->∃o:Obj,A.heap[r]?=some o/\o.isCells=false):B.heap[k]?=some (.cells cs t fr):=
 (hg.block k (zab h) (fun e=>by
   obtain⟨o,ho,hc⟩:=hr k e.symm;rw[h]at ho;simp only[Option.some.injEq]at ho;subst ho
   cases hc)).trans h
def SpI(x:ByteArray)(W0:World)(pre:List (Int×Pair2))(W:World):Prop:=(∀m∈pre.map Prod.snd,hasN m x=false)/\Below W0.heap.size W0 W
def SpIx(s:St)(x:ByteArray)(w:World)(c:Code)(pre:List (Int×Pair2))(W:World):Prop:=
 (c=.ret/\∃a m,pre.map Prod.snd=a++[m]/\(∀y∈a,hasN y x=false)/\hasN m x=true/\W.heap[w.heap.size+1+1]?=some (.cells #[.string (if zaN s (zeV m x)then⟨#[]⟩else zeV m x)] 9 (0,0)))/\Below w.heap.size w W
theorem spouse_in(base b:Nat)(s:St)(x:ByteArray)(w:World)(hW:PeoAt base w b s)(hl:s.marriages.length<=100000):
 CallsIn Fence.wide 9 Tryz.prog 149 #[.pointer (some ⟨b,0,none⟩),.string x] w (Ret w (.string (zaK s x))):=by
 obtain⟨B,d,c,p,wl,r,mv,tv,la,co,h1,h2⟩:=hW;obtain⟨A,cc,rfl,hS,hc⟩:=h2.marr.sl zbm;have hb:=zab h1;unfold WldC at h1;have c3:w.cell? ⟨b,3,none⟩=some (.slice A s.marriages.length cc):=Mer;obtain⟨HS,H1,H2⟩:=yH3 hS h1 h2;clear h1 h2 hS;refine callsIn_of_wp_marks Tryz.func149 rfl trivial ?_ rfl;simp only[Tryz.ntmps149,List.size_toArray,List.length_cons,List.length_nil,Nat.reduceAdd,Nat.reduceSub,Array.replicate_succ,Array.replicate_zero,List.push_toArray,List.append_toArray,List.nil_append,List.cons_append];have aR:b≠w.heap.size:=Mcu;have bs:b≠w.heap.size+1:=Mcu;gi_wp2_with (refine⟨trivial,?_⟩;gi_at_call 180;refine(callsIn_wide.2 (back_any _ _ _ _)).mono ?_;rintro e wq ⟨rfl,rfl⟩)
 generalize ak:((((w.alloc (.cells #[.pointer (some ⟨b,0,none⟩)] 129)).alloc (.cells #[.string x] 9)).alloc (.cells #[.string ⟨#[]⟩] 9)).alloc (.cells #[.slice A s.marriages.length cc] 41))=W0;have AL:W0.heap.size=w.heap.size+4:=by rw[<-ak];simp
 have s0:W0.heap[w.heap.size]?=some (.cells #[.pointer (some ⟨b,0,none⟩)] 129 (0,0)):=by rw[<-ak];exact zal (zal (zal (zaq _ _ _ rfl)))
 have s1:W0.heap[w.heap.size+1]?=some (.cells #[.string x] 9 (0,0)):=by rw[<-ak];exact zal (zal (zaq _ _ _ Mcx))
 have s2:W0.heap[w.heap.size+1+1]?=some (.cells #[.string ⟨#[]⟩] 9 (0,0)):=by rw[<-ak];exact zal (zaq _ _ _ Mcx)
 have s3:W0.heap[w.heap.size+1+1+1]?=some (.cells #[.slice A s.marriages.length cc] 41 (0,0)):=by rw[<-ak];exact zaq _ _ _ Mcx
 have aE:Below w.heap.size w W0:=by rw[<-ak];exact Bw
 have aI:W0.cell? ⟨w.heap.size+1+1+1,0,none⟩=some (.slice A s.marriages.length cc):=by simp[World.cell?,s3]
 clear ak;obtain⟨S0,S1,S2⟩:=yH3 s0 s1 s2;clear s0 s1 s2 s3;refine wpIn_rangeFunc_ownH rfl Mcu (gf:=193) (lb:= #[.pointer (some ⟨w.heap.size+1+1+1,0,none⟩)]) rfl trivial (enters_of Tryz.func193 Mcv rfl)
  (back1_seq (9-1) Mcu W0.heap.size (w.heap.size+1+1+1) s.marriages A cc hl W0 (Nat.le_refl _) Mcu aI (fun W' h=>(HS.o.keep aE).keep h)) belowK_t (belowK_b (Nat.le_refl _)) (Below.refl _ _) (fun _=>rfl)
  (fun(pre:List (Int×Pair2)) W=>SpI x W0 pre W)
  (fun c (pre:List (Int×Pair2)) W=>SpIx s x w c pre W)
  (fun s A B row hs hg hr=>⟨hs.1,hs.2.grown hg hs.2.size (fun r e=>(hr r e).1)⟩)
  (fun cc s A B row hs hg hr=>⟨by obtain⟨⟨h1,a,m,h2,h3,h4,h5⟩,_⟩:=hs;exact⟨h1,a,m,h2,h3,h4,znT h5 hg (fun r e=>(hr r e).2)⟩,hs.2.grown hg hs.2.size (fun r e=>by have:=(hr r e).1;omega)⟩)
  ⟨by simp,Below.refl _ _⟩
  (fun y a' W=>∃Bx,W0.heap.size<=Bx/\W.heap[Bx]?=some (.cells #[.string y.2.1,.string y.2.2] 131 (0,0))/\a'= {tmps:= #[.pointer (some ⟨b,0,none⟩),.string x,.pointer (some ⟨w.heap.size,0,none⟩),.pointer (some ⟨w.heap.size+1,0,none⟩),.pointer (some ⟨w.heap.size+1+1,0,none⟩),undef,.pointer (some ⟨Bx,0,none⟩),undef,undef,undef,.pointer (some ⟨b,0,none⟩),.pointer (some ⟨b,0,none⟩),.pointer (some ⟨b,3,none⟩),.slice A s.marriages.length cc,.func (.func 193) #[] #[.pointer (some ⟨w.heap.size+1+1+1,0,none⟩)],.int .i64 y.1,.agg #[.string y.2.1,.string y.2.2],undef,undef,undef,undef,undef,undef,undef,undef,undef,undef,undef,undef,undef,undef,undef,undef,undef,undef,undef,undef,undef],defers:=[]})
  (fun y a' s A B row hs hg hr=>by obtain⟨Bx,h1,h2,h3⟩:=hs;exact⟨Bx,h1,znT h2 hg (fun r e=>(hr r e).2),h3⟩) ?assign ?body ?done ?stop
 case assign=>
  rintro l pre ⟨yi,y1,y2⟩ W K hi hK;simp only[encB];gi_wp2
  exact hK _ _ ((KeepsOthers.alloc _ _).from _) (zac (Below.refl _ _) _ hi.2.size) ⟨hi.1,zac hi.2 _⟩ ⟨W.heap.size,hi.2.size,zaq _ _ _ rfl,rfl⟩
 case body=>
  rintro l pre ⟨yi,y1,y2⟩ a' W hWl _ ⟨hp,dJ⟩ ⟨Bx,eD,hJ,rfl⟩ ag;simp only at hJ;have t0:=(dJ.block w.heap.size Mcu).trans S0.o;have t1:=(dJ.block (w.heap.size+1) Mcu).trans S1.o;have t2:=(dJ.block (w.heap.size+1+1) Mcu).trans S2.o;have tW:=(dJ.block b Mcu).trans ((aE.block b hb).trans H1.o);have u9:=H2.o.keep (aE.trans (dJ.mono Mcu));have k0:W.cell? ⟨w.heap.size,0,none⟩=some (.pointer (some ⟨b,0,none⟩)):=by simp[World.cell?,t0]
  have k1:W.cell? ⟨w.heap.size+1,0,none⟩=some (.string x):=by simp[World.cell?,t1]
  have k2:W.cell? ⟨w.heap.size+1+1,0,none⟩=some (.string ⟨#[]⟩):=by simp[World.cell?,t2]
  have k3:W.frozen? ⟨w.heap.size+1+1,0,none⟩=false:=by simp[World.frozen?,t2]
  have k4:W.cell? ⟨b,0,none⟩=some (.map (some d)):=by simp[World.cell?,tW]
  have k5:W.cell? ⟨Bx,0,none⟩=some (.string y1):=by simp[World.cell?,hJ]
  have k6:W.cell? ⟨Bx,1,none⟩=some (.string y2):=by simp[World.cell?,hJ]
  have l1:=zd0 u9 y1;have l2:=zd0 u9 y2;obtain⟨b8,HP,T2⟩:=yH3 dJ hp t2;clear t0 t1 t2 tW u9 hp;have KJ:∀W:World,Sem.run Tryz.prog (Instr.index 131 (.agg #[.string y1,.string y2]) (.int .i64 0)) W=.ok (.string y1) W:=fun W=>by kernel_rfl
  have KK:∀W:World,Sem.run Tryz.prog (Instr.index 131 (.agg #[.string y1,.string y2]) (.int .i64 1)) W=.ok (.string y2) W:=fun W=>by kernel_rfl
  gi_wp2
  gi_loopw [18] (fun i wr=>∃k:Nat,k<=2/\i=.int .i64 k/\wr=W/\Hid ((0<k->zae y1 x=false)/\(1<k->zae y2 x=false))) (fun i _=>2-(intOf i).toNat)
  case atStart=>exact⟨0,by omega,rfl,rfl,⟨by omega,by omega⟩⟩
  case round=>
   obtain⟨k,hk,rfl,rfl,hs⟩:=hrel;obtain rfl|rfl|rfl:k=0\/k=1\/k=2:=by omega
   ·rw[show((0:Nat):Int)=0 from rfl];by_cases h1:y1.toList=x.toList
    ·have aR:(y1.toList==x.toList)=true:=Mc1;have hm:hasN (y1,y2) x=true:=by simp[hasN,zek h1]
     have ho:zeV (y1,y2) x=y2:=by simp[zeV,zek h1]
     obtain⟨HM,HO⟩:=yH2 hm ho;clear hm ho;cases hd:zaN s y2
     ·rw[hd]at l2;gi_wp2
      have g2:=Boxed.set (.string y2) T2.o;have HD:=zHi hd;have bN:∀i,SpIx s x w .ret (pre++[(i,y1,y2)]) (wr.setCell ⟨w.heap.size+1+1,0,none⟩ (.string y2)):=fun i=>⟨⟨rfl,pre.map Prod.snd,(y1,y2),by simp,HP.o,HM.o,by rw[HO.o,HD.o];exact g2⟩,zaM (aE.trans (b8.o.mono Mcu)) Mcz _⟩
      exact Mae
     ·rw[hd]at l2;exact MP
    ·have jg:(y1.toList==x.toList)=false:=Mc1;have HN:Hid ((0<1->zae y1 x=false)/\(1<1->zae y2 x=false)):=⟨fun _=>ze7 h1,by omega⟩
     gi_wp2
     exact⟨⟨1,by omega,rfl,trivial,HN⟩,by simp[intOf]⟩
   ·rw[show((1:Nat):Int)=1 from rfl];by_cases h2:y2.toList=x.toList
    ·have jg:(y2.toList==x.toList)=true:=Meg;have hm:hasN (y1,y2) x=true:=by simp[hasN,zek h2]
     have ho:zeV (y1,y2) x=y1:=by simp[zeV,hs.o.1 Mcu]
     obtain⟨HM,HO⟩:=yH2 hm ho;clear hm ho;cases hd:zaN s y1
     ·rw[hd]at l1;gi_wp2
      have g2:=Boxed.set (.string y1) T2.o;have HD:=zHi hd;have bN:∀i,SpIx s x w .ret (pre++[(i,y1,y2)]) (wr.setCell ⟨w.heap.size+1+1,0,none⟩ (.string y1)):=fun i=>⟨⟨rfl,pre.map Prod.snd,(y1,y2),by simp,HP.o,HM.o,by rw[HO.o,HD.o];exact g2⟩,zaM (aE.trans (b8.o.mono Mcu)) Mcz _⟩
      exact Mae
     ·rw[hd]at l1;exact MP
    ·have jg:(y2.toList==x.toList)=false:=Meg;have HN:Hid ((0<2->zae y1 x=false)/\(1<2->zae y2 x=false)):=⟨fun _=>hs.o.1 Mcu,fun _=>ze7 h2⟩
     gi_wp2
     exact⟨⟨2,by omega,rfl,trivial,HN⟩,by simp[intOf]⟩
   ·rw[show((2:Nat):Int)=2 from rfl];have hn:hasN (y1,y2) x=false:=by simp[hasN,hs.o.1 Mcu,hs.o.2 Mcu]
    have HN:=zHi hn;clear hn;gi_wp2
    exact⟨KeepsFrom.refl _ _,Below.refl _ _,fun m hm=>by
     rw[List.map_append]at hm;rcases List.mem_append.1 hm with hm|hm
     ·exact HP.o m hm
     ·simp only[List.map_cons,List.map_nil,List.mem_singleton]at hm
      rw[hm];exact HN.o,b8.o⟩
 case done=>
  rintro D ys W hD rfl ⟨hp,dJ⟩ hK;have t2:=(dJ.block (w.heap.size+1+1) Mcu).trans S2.o;have c2':W.cell? ⟨w.heap.size+1+1,0,none⟩=some (.string ⟨#[]⟩):=by simp[World.cell?,t2]
  have f2':W.frozen? ⟨w.heap.size+1+1,0,none⟩=false:=by simp[World.frozen?,t2]
  have HY:Hid (zaK s x=⟨#[]⟩):=by
   show _=_;rw[zoB]at hp;unfold zaK;rw[zi0 hp];simp
  obtain⟨HK,T2⟩:=yH2 hK t2;clear hK t2 hp;gi_wp2
  have g2:=Boxed.set (.string ⟨#[]⟩) T2.o;have Jq:(W.setCell ⟨w.heap.size+1+1,0,none⟩ (.string ⟨#[]⟩)).heap[D]?=some (.deferred (some [])):=(heap_setCell_other W ⟨w.heap.size+1+1,0,none⟩ _ _ Mcz).trans HK.o
  refine zeF (base:=w.heap.size) [D] _ Mcx (fun D' ru=>by
   have:D'=D:=by simpa using ru
   subst this
   exact⟨by omega,Jq⟩) fun w' eC aM=>⟨.string ⟨#[]⟩,zlv rfl _ _ (w.heap.size+1+1) _ rfl (by simp[World.cell?,aM _ _ _ _ g2]),?_⟩
  exact Ret.of (by rw[HY.o]) ((zaM (aE.trans (dJ.mono Mcu)) Mcz _).trans eC)
 case stop=>
  rintro D cc pre W hD sS ⟨⟨rfl,a,m,h2,h3,h4,h5⟩,dJ⟩ hK;have HY:Hid (zaK s x=if zaN s (zeV m x)then⟨#[]⟩else zeV m x):=by
   show _=_;obtain⟨k,hk,rfl⟩:=sS;rw[zmH _ _ hk]at h2;have e:s.marriages.reverse=a++m::s.marriages.reverse.drop k:=by
    have:=(List.take_append_drop k s.marriages.reverse).symm;rw[h2]at this;simpa using this
   unfold zaK;rw[e,zi1 h4 h3]
  obtain⟨HK,G2⟩:=yH2 hK h5;clear hK h5 h4 h3 h2;gi_wp2
  refine zeF (base:=w.heap.size) [D] _ Mcx (fun D' ru=>by
   have:D'=D:=by simpa using ru
   subst this
   exact⟨by omega,HK.o⟩) fun w' eC aM=>⟨.string (if zaN s (zeV m x)then⟨#[]⟩else zeV m x),zlv rfl _ _ (w.heap.size+1+1) _ rfl (by simp[World.cell?,aM _ _ _ _ G2.o]),?_⟩
  exact Ret.of (by rw[HY.o]) (dJ.trans eC)
theorem zjH(base b:Nat)(s:St)(x:ByteArray)(w:World)(hW:PeoAt base w b s)(hl:s.marriages.length<=100000):
 Calls Tryz.prog 149 #[.pointer (some ⟨b,0,none⟩),.string x] w (Ret w (.string (zaK s x))):=callsIn_wide.1 (spouse_in base b s x w hW hl)
end
section
attribute [local go_sem] zas zad
theorem zi2{base:Nat}{W:World}{B:List Nat}{d c p wl r:Nat}{mv:Value}{s:St}(h:PplAt base W B d c p wl r mv s)(n:ByteArray):
 ∃A cc,(∀W',Below W.heap.size W W'->(Instr.lookup 78 (.map (some c)) (.string n) false).run Tryz.prog W'=.ok (.slice A (zai s n).length cc) W')/\(zai s n).length<=cc/\Sl W 1 sC A (zai s n):=by
 obtain⟨mc,mp,k1,k2,k3,k4,k5,k6⟩:=h.rows;have hl:=fun W' (hB:Below W.heap.size W W')=>zbn zjt (k1.below hB).at n
 rcases k3 n with⟨h1,h2⟩|⟨v,h1,h2⟩
 ·rw[h1]at hl;refine⟨none,0,fun W' hB=>?_,by rw[h2];exact Nat.le_refl _,by rw[h2];exact Sl.nil⟩;rw[h2];exact hl W' hB
 ·rw[h1]at hl;obtain⟨A,cc,rfl,hS,hc⟩:=h2.sl za9;exact⟨A,cc,hl,hc,hS⟩
def outM(out:List ByteArray):List (ByteArray×Bool):=out.map fun n=>(n,true)
theorem out_put{out:List ByteArray}{n:ByteArray}(h:n∉out):mput eqS n true (outM out)=outM (out++[n]):=by
 induction out with
 |nil=>rfl
 |cons x out ih=>
  have hx:eqS n x=false:=zcl.2 fun e=>h (by simp[e])
  rw[outM,List.map_cons,mput];simp only[hx,Bool.false_eq_true,if_false];have:=ih (fun e=>h (by simp[e]));simp only[outM]at this;rw[this];rfl
theorem zmI(out:List ByteArray)(n:ByteArray):(mget eqS n (outM out)).getD false=out.any (zae n):=zhI n out
theorem zcC{w:World}{b:Nat}{x:ByteArray}{t:TypeId}{fr:Nat×Nat}(h:w.heap[b]?=some (.cells #[.string x] t fr)):Sl w 1 sC (some ⟨b,0,none⟩) [x]:=fun _=>⟨b,0,rfl,zab h,fun k y hy j u hu=>by
 have hk:k=0:=McH;subst hk;simp only[List.getElem?_cons_zero,Option.some.injEq]at hy;subst hy;match j,hu with
 |0,hu=>simp[sC]at hu;simp[World.cell?,h,<-hu]
 |j+1,hu=>simp[sC]at hu⟩
def DescPost(w:World)(s:St)(nm:ByteArray)(e:Ending)(w':World):Prop:=
 ∃out:List ByteArray,e=.returned (.map (some w.heap.size))/\MapS w' w.heap.size ekS evB (outM out)/\Found s nm out []/\Below w.heap.size w w'
theorem desc_any(base b:Nat)(s:St)(nm:ByteArray)(w:World)(hW:PeoAt base w b s)(hl:s.children.length<=100000):
 Calls Tryz.prog 65 #[.pointer (some ⟨b,0,none⟩),.string nm] w (DescPost w s nm):=by
 obtain⟨B,d,c,p,wl,r,mv,tv,la,co,h1,h2⟩:=hW;have hb:=zab h1;unfold WldC at h1;have c1:w.cell? ⟨b,1,none⟩=some (.map (some c)):=Mer;obtain⟨HP,H1⟩:=yH2 h2 h1;clear h1 h2;have bX:∀x,(zai s x).length<=100000:=fun x=>by
  have:(zai s x).length<=s.children.length:=by unfold zai;rw[List.length_map];exact List.length_filter_le _ _
  omega
 go_enter Tryz.func65,Tryz.ntmps65
 have ct:= @run_makeMap Tryz.prog;go_upto_region 3 with fail
 clear ct;have hcw:=c1;go_loopg [6] (s.children.length+1) (fun gg v wr=>∃out xs:List ByteArray,OwnS wr w.heap.size 9 1 sC v xs/\MapS wr w.heap.size ekS evB (outM out)/\Below w.heap.size w wr/\w.heap.size+1<=wr.heap.size/\Hid (Found s nm out xs)/\(s.children.length-out.length)+xs.length<=gg/\xs.length<=out.length+1)
 case atStart=>
  refine⟨[],[nm],.inr ⟨w.heap.size+1,0,1,#[.string nm],rfl,by omega,zaq _ _ _ Mcx,Nat.le_refl _,by simp[maxLen],by simp,fun j u hj=>?_⟩,?_,Bw,by simp,zmB s nm,by simp,by simp⟩
  ·match j,hj with
   |0,hj=>simpa[sC]using hj
   |j+1,hj=>simp[sC]at hj
  ·exact(MapS.new w).below (n:=w.heap.size+1) (zac (Below.refl _ _) _ Mcx) Mcx
 case round=>
  obtain⟨out,xs,aa,hm,hB,hsz,HF,aW,bR⟩:=hrel;cases xs with
  |nil=>
   obtain⟨A,cc,rfl,hS,hc⟩:=aa.sl za9;clear aa hS;go_wp2_with fail
   go_ret
   exact⟨out,rfl,hm,HF.o,hB⟩
  |cons x xs=>
   rcases aa with⟨rfl,h0⟩|⟨g,o,cap,cur,rfl,jh,hg,bi,iK,bh,hx⟩
   ·cases h0
   have aa:OwnS wr w.heap.size 9 1 sC (.slice (some ⟨g,o,none⟩) (x::xs).length cap) (x::xs):=.inr ⟨g,o,cap,cur,rfl,jh,hg,bi,iK,bh,hx⟩;obtain⟨_,Jj,cw,pP⟩:=aa.tail za9;have D8:wr.cell? ⟨g,o,none⟩=some (.string x):=pP 0 _ rfl;have kZ:wr.cell? ⟨b,1,none⟩=some (.map (some c)):=(hB.cell (p:=⟨b,1,none⟩) hb).trans c1;obtain⟨KA,kc,cX,fu,fR⟩:=zi2 HP.o x;have xS:=cX wr hB;have HK:Hid (∀W',Below w.heap.size w W'->Sl W' 1 sC KA (zai s x)):=fun W' h=>fR.keep h
   have wA:Hid (Look s nm x 0 out xs):=found_pop HF.o;have l9:=bX x;have Ec:(0:Int)<((x::xs).length:Int):=by simp only[List.length_cons];omega
   have tj:(1:Int)<=((x::xs).length:Int):=Mcu;have tk:(1:Int)<=(xs.length:Int)+1:=Mcu;have im:(1:Int)<=(cap:Int):=Mcu;obtain⟨hT,hM⟩:=yH2 cw hm;generalize fE:zai s x=ks at xS HK l9 fu;have fg:=zHi fE;clear fE;have my:=bi;have sg:=bh;have HG:=zHi hg;clear cX fR hx hg aa pP cw hm HF bh iK bi;have wO:Hid (cap=1->OwnS wr w.heap.size 9 1 sC (.slice (some ⟨g,o,none⟩) xs.length 0) xs):=fun e=>by
    have f9:xs=[]:=List.eq_nil_of_length_eq_zero (by simp at my;omega);exact Mbk
   clear my sg;go_upto_region 5 with fail
   go_cut [6]from 13 to 42 (fun v wc=>OwnS wr w.heap.size 9 1 sC v xs/\wr=wc)
   case first=>
    by_cases ax:cap=1
    ·exact MbA
    ·go_wp2_with fail
     all_goals go_meet
     all_goals exact⟨hT.o,rfl⟩
   case rest=>
    obtain⟨aa,rfl⟩:=hcut;clear hT wO D8;have cR:=aa;obtain⟨QA,qc,rfl,JS,JT⟩:=cR.sl za9;clear JS cR;have HO:=zHi aa;clear aa;go_upto_region 7 with fail
    go_loopg [6,28] ks.length (fun gi v i wi=>∃(j:Nat) (out2 xs2:List ByteArray),j<=ks.length/\ks.length-j<=gi/\i=.int .i64 j/\OwnS wi w.heap.size 9 1 sC v xs2/\MapS wi w.heap.size ekS evB (outM out2)/\Below w.heap.size w wi/\w.heap.size+1<=wi.heap.size/\Hid (Look s nm x j out2 xs2)/\(s.children.length-out2.length)+xs2.length+1<=gk/\xs2.length<=out2.length)
    case atStart=>exact⟨0,out,xs,Nat.zero_le _,Nat.le_refl _,rfl,HO.o,hM.o,hB,hsz,wA,by simp at aW;omega,by simp at bR;omega⟩
    case round=>
     obtain⟨j,out2,xs2,hj,aG,rfl,mS,dX,bE,oZ,gw,Dm,tj⟩:=hrel;have hof:=out_few gw.o.nd gw.o.desc;by_cases ae:j<ks.length
     ·obtain⟨kb,koff,rfl,mH,xL⟩:=(HK.o wr bE).at ae;obtain⟨ch,Aw⟩:∃ch,ch=ks[j]:=⟨_,rfl⟩
      have c9:wr.cell? ⟨kb,koff+j,none⟩=some (.string ch):=by rw[Aw];have:=xL 0 _ rfl;simpa using this
      have cY:=zbn zll dX.at ch;rw[zmI]at cY;have xV:(Instr.lookup 77 (.map (some w.heap.size)) (.string ch) false).run Tryz.prog wr=.ok (.bool (out2.any (zae ch))) wr:=cY;clear cY;have cQ:(j:Int)<(ks.length:Int):=Mcu;have pT:(0:Int)<=(j:Int):=Mcu;have Dx:j<(zai s x).length:=by rw[fg.o];exact ae
      have xp:(zai s x)[j]=ch:=by rw[Aw];simp only[fg.o]
      obtain⟨pg,I1,dq,pk⟩:=yH4 xp Aw mS dX;clear xL Aw xp mS dX;cases aJ:out2.any (zae ch)
      ·have mO:ch∉out2:=fun h=>by rw[zee.2 h]at aJ;cases aJ
       obtain⟨bK,qN⟩:=yH2 aJ mO;rw[aJ]at xV;clear aJ mO;obtain⟨es,c00,sN,AF⟩:=pk.o;have pm:=zHi sN;clear sN AF
       go_wp2_with (first
        |(at_mapUpdate;obtain⟨w1,hrun,cf,bz,dm⟩:=zcc zll pk.o ch true;go_loud(refine zc7 rfl _ _ _ rfl _ _ _ rfl rfl rfl w1 hrun ?_))
        |(at_builtin;go_loud(refine zat (v:=u6) (n:=xs2.length) (m:=1) rfl _ _ rfl zb9 za9 zb8 rfl ((dq.o.keptM bz pm.o).keep (n:=w1.heap.size) (zac (Below.refl _ _) _)) rfl rfl rfl (zcC (zaq _ _ _ dm.symm)) McP Mcu Mcz ?_);intro v3 w3 h1 h2 h3))
       go_roundg (ks.length-(j+1))
       case measure=>omega
       case rel=>
        refine⟨j+1,out2++[ch],xs2++[ch],by omega,Nat.le_refl _,by go_num,h1,?_,?_,?_,?_,?_,?_⟩
        ·have Jo:MapS (w1.alloc (.cells #[.string ch] 9)) w.heap.size ekS evB (outM (out2++[ch])):=by
          have:=cf.below (n:=w1.heap.size) (zac (Below.refl _ _) (.cells #[.string ch] 9));rwa [out_put qN.o]at this
         exact Jo.grown h2 (fun e=>by
          have aR:OwnS w1 w.heap.size 9 1 sC _ xs2:=dq.o.keptM bz pm.o;obtain⟨es1,c01,sO,_⟩:=cf;rcases aR with⟨e1,_⟩|⟨g1,o1,cp1,cur1,e1,_,mC,_⟩
          ·rw[e1]at e;cases e
          ·rw[e1]at e;simp only[za5,Option.some.injEq]at e;subst e;rw[sO]at mC
           simp at mC)
        ·have cV:Below w.heap.size w (w1.alloc (.cells #[.string ch] 9)):=zac (bE.grown bz bE.size (fun k e=>by cases e;exact Nat.le_refl _)) _;exact cV.grown h2 cV.size (fun k e=>(dq.o.ge k e).1)
        ·have:=h2.size;simp at this;omega
        ·have:=znM gw.o Dx (by rw[pg.o];exact qN.o);rwa [pg.o]at this
        ·have cZ:=znM gw.o Dx (by rw[pg.o];exact qN.o);rw[pg.o]at cZ;have:=out_few cZ.nd cZ.desc;simp at this⊢;omega
        ·simp;omega
      ·have mO:ch∈out2:=zee.1 aJ;have qN:=zHi mO;rw[aJ]at xV;clear aJ mO;go_wp2_with fail
       go_roundg (ks.length-(j+1))
       case measure=>omega
       case rel=>exact⟨j+1,out2,xs2,by omega,Nat.le_refl _,by go_num,dq.o,pk.o,bE,oZ,look_old gw.o Dx (by rw[pg.o];exact qN.o),Dm,tj⟩
     ·have cQ:¬(j:Int)<(ks.length:Int):=Mcu;have cE:j=(zai s x).length:=by rw[fg.o];omega
      have vf:Hid (Found s nm out2 xs2):=look_end (by rw[<-cE];exact gw.o);clear cE;go_wp2_with fail
      go_roundg ((s.children.length-out2.length)+xs2.length)
      case measure=>omega
      case rel=>exact⟨out2,xs2,mS,dX,bE,oZ,vf,Nat.le_refl _,by omega⟩
open Classical in
theorem zhu(base b:Nat)(s:St)(nm of:ByteArray)(w:World)(hW:PeoAt base w b s)(hl:s.children.length<=100000):
 Calls Tryz.prog 40 #[.pointer (some ⟨b,0,none⟩),.string nm,.string of] w (Ret w (.bool (decide (Desc s of nm)))):=by
 go_enter Tryz.func40,Tryz.ntmps40
 go_wp2_with (go_at_call 65
              refine(desc_any base b s of _ hW hl).mono ?_;rintro e wq ⟨out,rfl,hm,hf,hB⟩;have cY:(Instr.lookup 77 (.map (some w.heap.size)) (.string nm) false).run Tryz.prog wq=.ok (.bool (out.any (zae nm))) wq:=by
               have:=zbn zll hm.at nm;rw[zmI]at this
               exact this)
 go_ret
 refine Ret.of (zaP ?_) hB;rw[Bool.eq_iff_iff,zee,decide_eq_true_eq];exact found_end hf nm
end
attribute [local go_sem] zas zad
theorem ix_step{gs:List Grave}{f:Grave->Bool}{k:Nat}(h:k<gs.length):((gs.drop k).findIdx? f).map (· +k)=if f gs[k]then some k else((gs.drop (k+1)).findIdx? f).map (· +(k+1)):=by
 rw[List.drop_eq_getElem_cons h,List.findIdx?_cons];split
 ·simp
 ·rw[Option.map_map];congr 1
  funext x
  show x+1+k=x+(k+1);omega
theorem ix_end{gs:List Grave}{f:Grave->Bool}{k:Nat}(h:gs.length<=k):((gs.drop k).findIdx? f).map (· +k)=none:=by
 rw[List.drop_eq_nil_of_le h];rfl
theorem ix_start(gs:List Grave)(f:Grave->Bool):gs.findIdx? f=((gs.drop 0).findIdx? f).map (· +0):=by
 rw[List.drop_zero];cases gs.findIdx? f<;>rfl
def zlw(ps:List Nat)(i:Option Nat):Value:=.pointer (i.map fun i=>⟨ps.getD i 0,0,none⟩)
theorem zi3(base b:Nat)(s:St)(la co:Int)(place:ByteArray)(day:Int)(w:World){B ps:List Nat}{d c p wl r:Nat}{mv tv:Value}(hC:WldC w b d c p wl r mv tv la co)(hT:TombsAt base w B tv ps s.graves)(hl:s.graves.length<=100000):
 Calls Tryz.prog 24 #[.pointer (some ⟨b,0,none⟩),.string place,.int .i64 day] w (Ret w (zlw ps (zaL s place day))):=by
 obtain⟨A,cc,rfl,hS,ah⟩:=hT.own.sl zcL;have hb:=zab hC;unfold WldC at hC;have c6:w.cell? ⟨b,6,none⟩=some (.slice A ps.length cc):=by simp[World.cell?,hC]
 have eG:=hT.len;obtain⟨HT,HS⟩:=yH2 hT.all hS;clear hC hT hS;have hR:zaL s place day=((s.graves.drop 0).findIdx? fun g=>zae g.place place&&zaR g day).map (· +0):=ix_start _ _;generalize zaL s place day=R at*;generalize s.graves=gs at*;have HR:=zHi hR;clear hR;go_enter Tryz.func24,Tryz.ntmps24
 go_wp2_with fail
 go_loopw [14] (fun i wr=>∃k:Nat,k<=ps.length/\i=.int .i64 k/\Hid (R=((gs.drop k).findIdx? fun g=>zae g.place place&&zaR g day).map (· +k))/\∃z,wr=w.ext z) (fun i _=>ps.length-(intOf i).toNat)
 case atStart=>exact⟨0,Nat.zero_le _,rfl,HR.o,zaZ (Below.refl _ _)⟩
 case round=>
  obtain⟨k,hk,rfl,HX,z,rfl⟩:=hrel;by_cases ae:k<ps.length
  ·obtain⟨b',off,rfl,cK,hc⟩:=(HS.o.keep (zao w z)).at ae;have cq:k<gs.length:=Mcu;obtain⟨H,aM,D,dc,fr,t1,t2,t3,t4,t5,t6,t7⟩:=(HT.o k _ _ (List.getElem?_eq_getElem ae) (List.getElem?_eq_getElem cq)).keep (zao w z);have ao:=HX.o.trans (ix_step cq);have aK:=zHi ao;have ia:ps.getD k 0=ps[k]:=Mdi;have IO:=zHi ia;clear ao ia t5 t6 t7;generalize ps[k]=T at*;generalize gs[k]=g at*;have ca:=zab t1;unfold zbw at t1;have k0:(w.ext z).cell? ⟨T,0,none⟩=some (.string g.place):=Mep;have k3:(w.ext z).cell? ⟨T,3,none⟩=some (.int .i64 g.fin):=Mep;have k4:(w.ext z).cell? ⟨T,4,none⟩=some (.slice H g.holders.length aM):=Mep;have cp:(w.ext z).cell? ⟨b',off+k,none⟩=some (.pointer (some ⟨T,0,none⟩)):=Mdo;obtain⟨K3,K4⟩:=yH2 k3 k4;have ar:(k:Int)<(ps.length:Int):=Mcu;have aT:(0:Int)<=(k:Int):=Mcu;clear t1 hc k3 k4;go_wp2_with (go_at_call 27;refine(zfQ g H aM T day _ K3.o K4.o).mono ?_;intro e wq hq;rcases Ret.bools hq with⟨zq,rfl,⟨hb,rfl⟩|⟨hb,rfl⟩⟩<;>clear hq)
   all_goals first
    |(go_ret
      have cW:R=some k:=by rw[aK.o];simp[zek,ze7, *]
      rw[cW];refine Ret.of ?_ Bw;show _=Value.pointer (some ⟨ps.getD k 0,0,none⟩);rw[IO.o]
      rfl)
    |(go_round
      case rel=>exact⟨k+1,by omega,by go_num,(by rw[aK.o];simp[zek,ze7, *]:_=_),zaZ Bw⟩
      case measure=>simp[intOf];omega)
  ·have ar:¬(k:Int)<(ps.length:Int):=Mcu;have he:=HX.o.trans (ix_end (f:=fun g=>zae g.place place&&zaR g day) (by omega:gs.length<=k));have HE:=zHi he;clear he;go_wp2_with fail
   go_ret
   exact Ret.of (by rw[HE.o];rfl) Bw
theorem TombAt.kept{base k T:Nat}{W W':World}{B:List Nat}{g:Grave}{cs:Array Value}{t:TypeId}{fr:Nat×Nat}(h:TombAt W base B T g)(hg:W.grownBy W' (some k))(hx:W.heap[k]?=some (.cells cs t fr))(ai:T≠k)(h1:t≠64)(h2:t≠9):TombAt W' base B T g:=by
 obtain⟨H,hc,D,dc,fr',t1,t2,t3,t4,t5,t6,t7⟩:=h;exact⟨H,hc,D,dc,fr',(hg.block T (zab t1) (fun e=>ai MdO)).trans t1,t2,t3,t4,t5.kept hg hx h1,t6.kept hg hx h2,t7⟩
theorem TombAt.ne{base k T:Nat}{W:World}{B:List Nat}{g:Grave}{cs:Array Value}{t:TypeId}{fr:Nat×Nat}(h:TombAt W base B T g)(hx:W.heap[k]?=some (.cells cs t fr))(h1:t≠88):T≠k:=by
 obtain⟨H,hc,D,dc,fr',t1,t2,_⟩:=h;rintro rfl;rw[t1]at hx;simp only[Option.some.injEq,Obj.cells.injEq]at hx;exact h1 hx.2.1.symm
theorem TombsAt.mem{base:Nat}{W:World}{B ps:List Nat}{tv:Value}{gs:List Grave}(h:TombsAt base W B tv ps gs){T:Nat}(hT:T∈ps):∃g,TombAt W base B T g:=by
 obtain⟨i,hi,rfl⟩:=List.getElem_of_mem hT;exact⟨_,h.all i _ _ (List.getElem?_eq_getElem hi) (List.getElem?_eq_getElem (by have:=h.len;omega))⟩
theorem TombsAt.lt{base:Nat}{W:World}{B ps:List Nat}{tv:Value}{gs:List Grave}(h:TombsAt base W B tv ps gs){T:Nat}(hT:T∈ps):T<W.heap.size:=by
 obtain⟨g,H,hc,D,dc,fr',t1,_⟩:=h.mem hT;exact zab t1
theorem TombsAt.kept{base k:Nat}{W W':World}{B ps:List Nat}{tv:Value}{gs:List Grave}{cs:Array Value}{t:TypeId}{fr:Nat×Nat}(h:TombsAt base W B tv ps gs)(hg:W.grownBy W' (some k))(hx:W.heap[k]?=some (.cells cs t fr))(h1:t≠64)(h2:t≠9)(h3:t≠88)(h4:t≠73):TombsAt base W' B tv ps gs:=
 ⟨h.own.kept hg hx h4,h.len,h.nd,fun i T g e1 e2=>(h.all i T g e1 e2).kept hg hx ((h.all i T g e1 e2).ne hx h3) h1 h2⟩
theorem wldC_set6{W:World}{b d c p wl r:Nat}{mv tv:Value}{la co:Int}(h:WldC W b d c p wl r mv tv la co)(v':Value):WldC (W.setCell ⟨b,6,none⟩ v') b d c p wl r mv v' la co:=by
 unfold WldC at*;have:=Joins.block_setCell (i:=6) h v';simpa using this
theorem wld_push{base b:Nat}{W w1:World}{B ps:List Nat}{d c p wl r T:Nat}{mv tv v':Value}{s:St}{g:Grave}{la co:Int}(hb:base<=b)(hC:WldC W b d c p wl r mv tv la co)(hP:PplAt base W B d c p wl r mv s)(hT:TombsAt base W B tv ps s.graves)
 (hN:TombAt W base B T g)(hn:T∉ps)(h1:OwnS w1 base 73 1 ptrC v' (ps++[T]))(h2:W.grownBy w1 (za5 tv))(h3:∀k,za5 v'=some k->za5 tv=some k\/W.heap.size<=k):
 WldAt base (w1.setCell ⟨b,6,none⟩ v') b {s with graves:=s.graves++[g]} la co/\WldC w1 b d c p wl r mv tv la co:=by
 have dK:=zab hC;have aa:=hT.own;have bh:∀k,za5 tv=some k->∃cs fr,W.heap[k]?=some (.cells cs 73 fr):=fun k hk=>by
  exact Ma6
 have ji:za5 tv≠some b:=fun e=>by
  obtain⟨cs,fr,hx⟩:=bh b e;exact MbX
 have cO:WldC w1 b d c p wl r mv tv la co:=(h2.block b dK (fun e=>ji e.symm)).trans hC;have wJ:PplAt base w1 B d c p wl r mv s:=by
  cases hk:za5 tv with
  |none=>rw[hk]at h2;exact hP.keep (n:=W.heap.size) ⟨h2.os,h2.tape,h2.output,h2.size,fun i hi=>h2.block i hi Mcx⟩
  |some k=>
   obtain⟨cs,fr,hx⟩:=bh k hk;rw[hk]at h2;exact hP.kept h2 hx Mcw Mcw Mcw
 have aU:∀ {T':Nat} {g':Grave},TombAt W base B T' g'->TombAt w1 base B T' g':=fun {T' g'} h=>by
  cases hk:za5 tv with
  |none=>rw[hk]at h2;exact h.keep (n:=W.heap.size) ⟨h2.os,h2.tape,h2.output,h2.size,fun i hi=>h2.block i hi Mcx⟩
  |some k=>
   obtain⟨cs,fr,hx⟩:=bh k hk;rw[hk]at h2;exact h.kept h2 hx (h.ne hx Mcw) Mcw Mcw
 refine⟨?_,cO⟩;have aL:=zav w1 b 6 v';refine⟨B,d,c,p,wl,r,mv,v',ps++[T],hb,wldC_set6 cO v',?_,?_⟩
 ·have:=wJ.kept aL cO Mcw Mcw Mcw;exact⟨this.nd,this.ge,this.dead,this.rows,this.marr,this.wills,this.ren⟩
 ·refine⟨h1.kept aL cO Mcw,by simp[hT.len],?_,fun i T' g' e1 e2=>?_⟩
  ·rw[List.nodup_append];exact⟨hT.nd,by simp,fun a ha b' cK e=>by rw[List.mem_singleton.1 cK]at e;exact hn (e▸ha)⟩
  ·have fS:TombAt w1 base B T' g':=by
    by_cases hi:i<ps.length
    ·have KH:i<s.graves.length:=by have:=hT.len;omega
     rw[List.getElem?_append_left hi]at e1;rw[List.getElem?_append_left KH]at e2;exact aU (hT.all i T' g' e1 e2)
    ·have uo:i=ps.length:=by have:=(List.getElem?_eq_some_iff.1 e1).1;simp at this;omega
     subst uo;simp at e1;rw[hT.len]at e2;simp at e2;subst e1 e2;exact aU hN
   exact fS.kept aL cO (fS.ne cO Mcw) Mcw Mcw
def KeepD(w w':World):Prop:= ∀(k:Nat) (cur:Array Value) (fr:Nat×Nat),w.heap[k]?=some (.cells cur 69 fr)->w'.heap[k]?=w.heap[k]?
section
variable {w w' w2:World}
theorem KeepD.below(h:Below w.heap.size w w'):KeepD w w':=fun k _ _ hk=>h.block k (zab hk)
theorem KeepD.trans(h:KeepD w w')(h2:KeepD w' w2):KeepD w w2:=fun k cur fr hk=>by
 have e:=h k cur fr hk;exact(h2 k cur fr (e.trans hk)).trans e
theorem KeepD.cells{g:Nat}{cs:Array Value}{t:TypeId}{fr:Nat×Nat}(hg:w.grownBy w' (some g))(hx:w.heap[g]?=some (.cells cs t fr))(ai:t≠69):KeepD w w':=fun k cur f hk=>
 hg.block k (zab hk) (fun e=>by
  simp only[Option.some.injEq]at e;subst e;rw[hx]at hk;simp only[Option.some.injEq,Obj.cells.injEq]at hk
  exact ai hk.2.1)
theorem KeepD.map{g:Nat}{es:Array MapEntry}{c:Nat}(hg:w.grownBy w' (some g))(hx:w.heap[g]?=some (.map es c)):KeepD w w':=fun k cur f hk=>
 hg.block k (zab hk) (fun e=>by
  simp only[Option.some.injEq]at e;subst e;rw[hx]at hk
  simp at hk)
theorem KeepD.own{α:Type}{base:Nat}{e:TypeId}{size:Nat}{f:α->List Value}{v:Value}{xs:List α}(h:OwnS w base e size f v xs)(hg:w.grownBy w' (za5 v))(ai:e≠69):KeepD w w':=by
 rcases h with⟨rfl,_⟩|⟨g,o,c,cur,rfl,_,hx,_⟩
 ·exact fun k cur f hk=>hg.block k (zab hk) Mdj
 ·exact KeepD.cells hg hx ai
end
def zbK(base b:Nat)(x:St×Int)(la co:Int)(w:World)(e:Ending)(w':World):Prop:=
 e=.returned (.int .i64 x.2)/\WldAt base w' b x.1 la co/\Below base w w'/\KeepD w w'
def Deed.v(d:Deed)(B:Option Addr)(c:Nat):Value:=.agg #[.int .i64 d.kind,.int .i64 d.day,.string d.place,.string d.frm,.slice B d.to.length c,.int .i64 d.cls,.int .i64 d.years]
theorem zi4{p:RPart}(h:za8 16 p.num p.den=true):p.rat.num=p.num/\(p.rat.den:Int)=p.den:=⟨(zbp h).1,(zbp h).2.1⟩
theorem zoC(l:List RPart){k:Nat}(h:k<l.length):zbe (l.take (k+1)) []=za3 (zbe (l.take k) []) l[k].name l[k].rat:=by
 rw[List.take_succ_eq_append_getElem h];unfold zbe;rw[List.foldl_append];rfl
theorem sl_ptr{w:World}{b T:Nat}{t:TypeId}{fr:Nat×Nat}(h:w.heap[b]?=some (.cells #[.pointer (some ⟨T,0,none⟩)] t fr)):Sl w 1 ptrC (some ⟨b,0,none⟩) [T]:=fun _=>⟨b,0,rfl,zab h,fun k y hy j u hu=>by
 have hk:k=0:=McH;subst hk;simp only[List.getElem?_cons_zero,Option.some.injEq]at hy;subst hy;match j,hu with
 |0,hu=>simp[ptrC]at hu;simp[World.cell?,h,<-hu]
 |j+1,hu=>simp[ptrC]at hu⟩
theorem zhv:∀ {l:List RPart} {out:Parts} {seen:List ByteArray},zde l seen=true->(∀p∈out,p.1∈seen)->∀k (h:k<l.length),zaf (zbe (l.take k) out) l[k].name=0
 | [],_,_,_,_,_,h=>absurd h Mcx
 |p::l,out,seen,hf,ho,0,_=>by
  rw[zde,Bool.and_eq_true]at hf;have h1:p.name∉seen:=by
   have:=hf.1;simp only[Bool.not_eq_true']at this;intro h;rw[zee.2 h]at this;cases this
  exact(zdK fun q hq e=>h1 (by have e':q.1=p.name:=e;rw[<-e'];exact ho q hq)).1
 |p::l,out,seen,hf,ho,k+1,h=>by
  rw[zde,Bool.and_eq_true]at hf
  exact zhv (l:=l) (out:=za3 out p.name p.rat) hf.2 (fun q hq=>by
   rcases zfd hq with e|hq
   ·rw[e];simp
   ·exact List.mem_cons_of_mem _ (ho q hq)) k Mdy
theorem zbR{base b:Nat}{s:St}{x:St×Int}{la co er:Int}{w w':World}(hW:WldAt base w b s la co)(hB:Below w.heap.size w w')(hx:x=(s,er)):zbK base b x la co w (.returned (.int .i64 er)) w':=by
 rw[hx];exact⟨rfl,hW.keep hB,hB.mono (by have:=hW.lt;omega),KeepD.below hB⟩
theorem zmJ{shares all:Bool}{frm:ByteArray}{l:List RPart}(h:zcF shares all frm l=true):zde l []=true/\∀p∈l,zae p.name frm=false:=by
 unfold zcF at h;simp only[Bool.and_eq_true,List.all_eq_true,Bool.not_eq_true']at h;exact⟨h.1.1,h.1.2⟩
theorem set_lit(base T:Nat)(xs:Parts)(v:Value)(pl:ByteArray)(cl fr en:Int)(dv:Value)(p:RPart)(w:World)(hp:za8 16 p.num p.den=true)(hT:zbw w T pl cl fr en v dv)(rX:base<=T)(aa:OwnS w base 64 3 zaa v xs)(hA:AscP xs)(hl:xs.length<=90000):
 Calls Tryz.prog 141 #[.pointer (some ⟨T,0,none⟩),.string p.name,.agg #[.int .i64 p.num,.int .i64 p.den]] w (zks w base T pl cl fr en dv v (setP xs p.name p.rat)):=by
 have h:=ziu base T xs v pl cl fr en dv p.name p.rat w hT rX aa hA hl;rw[(zi4 hp).1,(zi4 hp).2]at h;exact h
theorem good_take{l:List RPart}(h:∀p∈l,0<p.rat/\IsN 720720 p.rat/\za8 16 p.num p.den=true)(k:Nat):GoodParts (zbe (l.take k) []):=
 (zim (l:=l.take k) zdD Mcx fun p hp=>⟨(h p (List.mem_of_mem_take hp)).1,(h p (List.mem_of_mem_take hp)).2.1⟩).1
theorem zc1(n:ByteArray)(q:Rat):∀l:Parts,(za3 l n q).length<=l.length+1
 | []=>by unfold za3;split<;>simp
 |p::l=>by
  have:=zc1 n q l;unfold za3;split
  ·simp
  ·split
   ·simpa using this
   ·split<;>simp<;>omega
theorem zfl:∀(l:List RPart) (out:Parts),(zbe l out).length<=out.length+l.length
 | [],out=>by simp[zbe]
 |p::l,out=>by
  have h1:=zfl l (za3 out p.name p.rat);have h2:=zc1 p.name p.rat out;show(zbe l (za3 out p.name p.rat)).length<=_;simp;omega
theorem grant_any(base b:Nat)(s:St)(la co:Int)(d:Deed)(B:Option Addr)(c:Nat)(w:World)(hW:WldAt base w b s la co)(hL:LensIn w)(hd:OkD d)(hk:d.kind=0)(ag:s.graves.length<=1000)(ax:d.to.length<=c)(hS:Sl w 3 RPart.cells B d.to):
 Calls Tryz.prog 109 #[.pointer (some ⟨b,0,none⟩),d.v B c] w (zbK base b (zcT s d) la co w):=by
 have ak:=hW;obtain⟨Bk,dd,cc,pp,wl,rr,mv,tv,ps,ba,hC,hP,hT⟩:=hW;have hp:=(hd.parts (.inl hk)).2;have bQ:=(zef hp).1;have Ay:=(zmJ hp).1;have cg:=hd.day;have dW:=hd.years;have bx:=hd.len;clear hp hd hk;obtain⟨kd,dy,pl,fr,ts,cl,yr⟩:=d;simp only at*;have dK:=zab hC;obtain⟨bK,uK,am,HW,dh,If,HC,HP⟩:=yH8 (fun W (hB:Below w.heap.size w W)=>zi3 base b s la co pl dy W (hC.keep hB) (hT.keep hB) Mcu) (fun W (hB:Below w.heap.size w W)=>ziv base b s ts B _ c W rfl Mcu (ak.peo.keep hB) (hS.keep hB)) (fun W (hB:Below w.heap.size w W)=>zjF dy yr W (hL.keep hB) cg.1 cg.2 dW.1 dW.2) ak bQ Ay hC hP;obtain⟨HT,HS⟩:=yH2 hT hS;clear ak hC hP hT hS bQ Ay hL;unfold Deed.v;simp only;go_enter Tryz.func109,Tryz.ntmps109
 go_upto_block 0 with fail
 cases aO:zaL s pl dy with
 |some i=>
  rw[aO]at bK;have HG:Hid (zcT s ⟨kd,dy,pl,fr,ts,cl,yr⟩=(s,13)):=by show _=_;simp[zcT,aO]
  clear aO;go_wp2_with (go_at_call 24;refine(bK.o _ Bw).mono ?_;rintro e wq ⟨rfl,z,rfl⟩;simp only[zlw,Option.map_some])
  go_ret
  exact zbR HW.o Bw HG.o
 |none=>
  rw[aO]at bK;have kK:=zHi aO;clear aO;go_cut [5]from 9 (fun v wc=>v=.int .i64 (if decide (0<yr)then zcj dy yr else-1)/\Hid (zcT s ⟨kd,dy,pl,fr,ts,cl,yr⟩=({s with graves:=s.graves++[⟨pl,cl,if decide (0<yr)then zcj dy yr else-1,zbe ts [],[]⟩]},0))/\Below w.heap.size w wc/\w.heap.size<wc.heap.size/\wc.heap[w.heap.size]?=some (.cells #[.int .i64 kd,.int .i64 dy,.string pl,.string fr,.slice B ts.length c,.int .i64 cl,.int .i64 yr] 69))
  case first=>
   generalize hR:zcj dy yr=R at*;have HR:=zHi hR;clear hR
   go_wp2_with (first
    |(go_at_call 24;refine(bK.o _ Bw).mono ?_;rintro e wq ⟨rfl,z,rfl⟩;simp only[zlw,Option.map_none])
    |(go_at_call 139;refine(uK.o _ Bw).mono ?_;intro e wq hq;rcases Ret.bools hq with⟨zq,rfl,⟨hb,rfl⟩|⟨hb,rfl⟩⟩<;>clear hq)
    |(go_at_call 140;refine(am.o _ Bw).mono ?_;rintro e wq ⟨rfl,z2,rfl⟩))
   all_goals first
    |(go_ret
      exact zbR HW.o Bw (by simp[zcT,kK.o,HR.o, *]))
    |(go_meet
      refine⟨(by first|(simp[*];done)|(simp[*];omega)),(by first|(simp[zcT,kK.o,HR.o, *];done)|(simp[zcT,kK.o,HR.o, *];omega):_=_),Bw,by simp[zag];omega,?_⟩
      repeat(first|exact zaq _ _ _ rfl|with_reducible refine zb5 ?_|with_reducible refine zal ?_))
  case rest=>
   obtain⟨rfl,HG,hB,hsz,g0⟩:=hcut;generalize(if decide (0<yr)=true then zcj dy yr else-1)=en at*;clear bK uK am;obtain⟨d0,d1,d2,d3,d4,d5,d6⟩:=cF7 g0;have ai:w.heap.size≠wc.heap.size:=Mcu;have rX:base<=wc.heap.size:=Mcu;have cS:wc.heap.size∉ps:=fun h=>by have:=HT.o.lt h;omega
   have G0:=zHi g0;clear g0;go_wp2_with fail
   go_loopw [45] (fun i wr=>∃(k:Nat) (v:Value),k<=ts.length/\i=.int .i64 k/\zbw wr wc.heap.size pl cl dy en v (.slice none 0 0)/\OwnS wr wc.heap.size 64 3 zaa v (zbe (ts.take k) [])/\Below wc.heap.size wc wr) (fun i _=>ts.length-(intOf i).toNat)
   case atStart=>exact⟨0,.slice none 0 0,Nat.zero_le _,rfl,zaq _ _ _ rfl,OwnS.nil,Bw⟩
   case round=>
    obtain⟨k,v,hk,rfl,wP,wH,nC⟩:=hrel;have fm:Below w.heap.size w wr:=hB.trans (nC.mono Mcu);have uB:=nC.size;have ca:=zab wP;have bG:=good_take dh.o k;have cq:=zfl (ts.take k) [];have Ky:(ts.take k).length<=8:=Mdd;have zH:=zHi bG;simp only[List.length_nil,Nat.zero_add]at cq;clear bG;by_cases ae:k<ts.length
    ·obtain⟨b',off,rfl,cK,hc⟩:=(HS.o.keep fm).at ae;have cv:=zhv (out:=[]) If.o Mcx k ae;have gR:=dh.o ts[k] (List.getElem_mem ae);have aL:=zoC ts ae;generalize ts[k]=p at*;obtain⟨pn,pu,pd⟩:=p;have h0:wr.cell? ⟨b',off+k*3,none⟩=some (.string pn):=hc 0 _ rfl;have h1:wr.cell? ⟨b',off+k*3+1,none⟩=some (.int .i64 pu):=hc 1 _ rfl;have h2:wr.cell? ⟨b',off+k*3+2,none⟩=some (.int .i64 pd):=hc 2 _ rfl;have HN:Hid (setP (zbe (ts.take k) []) pn (RPart.rat ⟨pn,pu,pd⟩)=zbe (ts.take (k+1)) []):=by
      show _=_;have:=zip zH.o (n:=pn) (q:=RPart.rat ⟨pn,pu,pd⟩) (by have:=gR.1;grind);simp only at cv;rw[cv,Rat.zero_add]at this;rw[this,aL]
     have gx:=zHi (fun W (eC:Below wr.heap.size wr W)=>set_lit wc.heap.size wc.heap.size (zbe (ts.take k) []) v pl cl dy en (.slice none 0 0) ⟨pn,pu,pd⟩ W gR.2.2 ((eC.block _ ca).trans wP) (Nat.le_refl _) (wH.keep eC) zH.o.asc Mcu);have ar:(k:Int)<(ts.length:Int):=Mcu;have aT:(0:Int)<=(k:Int):=Mcu;have fu:(k:Int)<=(c:Int):=Mcu;clear hc cv gR aL wP wH;go_wp2_with (go_at_call 141;refine(gx.o _ Bw).mono ?_;rintro e wq ⟨rfl,v',t1,t2,t3,_⟩)
     go_round
     case rel=>exact⟨k+1,v',by omega,by go_num,t1,by rw[<-HN.o];exact t2,Below.trans Bw t3⟩
     case measure=>simp[intOf];omega
    ·have ar:¬(k:Int)<(ts.length:Int):=Mcu;rw[List.take_of_length_le Mcu]at wH;obtain⟨HA,kY,rfl,DD,dZ⟩:=wH.ro;have hN:TombAt wr base Bk wc.heap.size ⟨pl,cl,en,zbe ts [],[]⟩:=⟨HA,kY,none,0,dy,wP,rX,DD,Nat.le_refl _,dZ,Ro.nil,by simp⟩
     have HN:=zHi hN;have Aa:WldC wr b dd cc pp wl rr mv tv la co:=HC.o.keep fm;unfold WldC at Aa;obtain⟨-,-,-,-,-,-,c6⟩:=cF7 Aa;have CW:b<wr.heap.size:=zab Aa;have fK:ps.length<=1000:=by rw[HT.o.len];exact ag
     have eV:=HT.o.own.ge;have Ii:=zHi eV;clear wP wH dZ hN Aa eV
     go_wp2_with (at_builtin
                  go_loud(refine zat (v:=tv) (n:=ps.length) (m:=1) rfl _ _ rfl elTomb zcL znK rfl (HT.o.own.keep (n:=w.heap.size) Bw) rfl rfl rfl (sl_ptr (zaq _ _ _ rfl)) McP Mcu Mcz ?_)
                  intro v3 w3 h1 h2 h3;obtain⟨A3,q3,Ha,_,_⟩:=h1.sl zcL;rw[List.length_append]at Ha;subst Ha;go_loud(obtain⟨qb,mw⟩:=wld_push ba (HC.o.keep (n:=w.heap.size) Bw) (HP.o.keep (n:=w.heap.size) Bw) (HT.o.keep (n:=w.heap.size) Bw) (HN.o.keep (n:=wr.heap.size) Bw) cS h1 h2 h3)
                  have jE:=zHi qb;go_loud(have ay:=Below.grown (B:=base) (a:=w) (Below.mono (B:=w.heap.size) Bw Mcu) h2 Mcz (fun j hj=>(Ii.o j hj).1))
                  go_loud(have bV:=((KeepD.below (w:=w) Bw).trans (KeepD.own (HT.o.own.keep (n:=w.heap.size) Bw) h2 Mcw)).trans (KeepD.cells (zav w3 b 6 (.slice A3 (ps.length+[wc.heap.size].length) q3)) mw Mcw))
                  have jT:=zHi bV;unfold WldC at mw;have k6:w3.cell? ⟨b,6,none⟩=some tv:=(by simp only[World.cell?,mw];rfl)
                  have f6:w3.frozen? ⟨b,6,none⟩=false:=(by simp only[World.frozen?,mw];rfl)
                  have aH:=zHi ay
                  clear qb mw ay h1 h2 h3 bV)
     go_ret
     rw[HG.o];exact⟨rfl,jE.o,zaM aH.o ba _,jT.o⟩
def zlx{α:Type}(w:World)(e:TypeId)(size:Nat)(f:α->List Value)(xs:List α)(en:Ending)(w':World):Prop:=
 ∃v,en=.returned v/\OwnS w' w.heap.size e size f v xs/\Below w.heap.size w w'
theorem zeG(xs:List (ByteArray×Rat))(L:Option Addr)(n lc:Nat)(w:World)(hn:n=xs.length)(hl:xs.length<=100000)(hS:Sl w 3 zaa L xs):
 Calls Tryz.prog 143 #[.slice L n lc] w (zlx w 64 3 zaa xs):=by
 have HM:=zHi hn;have q22:∀(w:World) (a:Option Addr) (n c n' c':Nat),(binOp .eql 48 (.slice a n c) (.slice none n' c')).run Tryz.prog w=.ok (.bool a.isNone) w:=fun w a n c n' c'=>Lib.run_eql_slice_nil w _ _ a n c n' c' Tryz.underlying48
 clear hn;go_enter Tryz.func143,Tryz.ntmps143
 cases L with
 |none=>
  exact MaI
 |some ad=>
  go_wp2_with (at_builtin;refine zeT rfl _ _ rfl zdV zam zcg rfl (World.ownsRow_made w #[] 0 (Nat.le_refl _) (Nat.zero_le _) Mcx) rfl HM.o (hS.keep Bw) ?q1 ?q2 Mcx ?_)
  case q1=>simp[maxLen,HM.o];omega
  case q2=>simp[HM.o];omega
  intro v' w' h1 h2 h3;go_wp2_with fail
  go_ret
  refine⟨v',rfl,OwnS.of_own zam (by simpa[HM.o]using h1),Below.grown Bw h2 Mcx (by intro k hk;simp[Value.ownBlock]at hk;omega)⟩
theorem zhw(xs:List ByteArray)(L:Option Addr)(n lc:Nat)(w:World)(hn:n=xs.length)(hl:xs.length<=100000)(hS:Sl w 1 sC L xs):
 Calls Tryz.prog 105 #[.slice L n lc] w (zlx w 9 1 sC xs):=by
 have HM:=zHi hn;have q22:∀(w:World) (a:Option Addr) (n c n' c':Nat),(binOp .eql 36 (.slice a n c) (.slice none n' c')).run Tryz.prog w=.ok (.bool a.isNone) w:=fun w a n c n' c'=>Lib.run_eql_slice_nil w _ _ a n c n' c' Tryz.underlying36
 clear hn;go_enter Tryz.func105,Tryz.ntmps105
 cases L with
 |none=>
  exact MaI
 |some ad=>
  go_wp2_with (at_builtin;refine zeT rfl _ _ rfl zb9 za9 zb8 rfl (World.ownsRow_made w #[] 0 (Nat.le_refl _) (Nat.zero_le _) Mcx) rfl HM.o (hS.keep Bw) ?q1 ?q2 Mcx ?_)
  case q1=>simp[maxLen,HM.o];omega
  case q2=>simp[HM.o];omega
  intro v' w' h1 h2 h3;go_wp2_with fail
  go_ret
  refine⟨v',rfl,OwnS.of_own za9 (by simpa[HM.o]using h1),Below.grown Bw h2 Mcx (by intro k hk;simp[Value.ownBlock]at hk;omega)⟩
def MarkAt(W:World)(C:Nat)(f:Bool):Prop:=W.heap[C]?=some (.cells #[.bool f] 190)
theorem MarkAt.drew{W:World}{C:Nat}{f:Bool}(h:MarkAt W C f):MarkAt W.drew C f:=h
theorem MarkAt.ext{W:World}{C:Nat}{f:Bool}(h:MarkAt W C f)(z:Ez):MarkAt (W.ext z) C f:=zb5 h
theorem MarkAt.alloc{W:World}{C:Nat}{f:Bool}(h:MarkAt W C f)(o:Obj):MarkAt (W.alloc o) C f:=zal h
theorem MarkAt.keep{n:Nat}{W W':World}{C:Nat}{f:Bool}(h:MarkAt W C f)(hB:Below n W W')(hn:C<n):MarkAt W' C f:=(hB.block C hn).trans h
theorem MarkAt.grown{W W':World}{C:Nat}{f:Bool}{k:Nat}(h:MarkAt W C f)(hg:W.grownBy W' (some k))(hn:C≠k):MarkAt W' C f:=(hg.block C (zab h) (fun e=>hn MdO)).trans h
theorem zah{n b o:Nat}{w W:World}(h:Below n w W)(hb:b<n):W.cell? ⟨b,o,none⟩=w.cell? ⟨b,o,none⟩:=h.cell (p:=⟨b,o,none⟩) hb
theorem zbd{k b o:Nat}{w W:World}(h:w.grownBy W (some k))(hb:b<w.heap.size)(hk:b≠k):W.cell? ⟨b,o,none⟩=w.cell? ⟨b,o,none⟩:=
 World.cell?_of_block (w:=w) (h.block b hb (fun e=>hk MdO))
def zeH(w:World)(C:Nat)(f:Bool)(r:Rat)(e:Ending)(w':World):Prop:=
 e=.returned (zaA (zbj r))/\MarkAt w' C (f||bigQ r)/\w.grownBy w' (some C)
theorem zly(w:World)(z:Ez)(row:Option Nat):w.grownBy (w.ext z) row:=zkZ (zdp w row) z
theorem zi5{w w':World}{C:Nat}{f:Bool}{r:Rat}{e:Ending}(hC:MarkAt w C f)(h:ze6 w C r e w'):zeH w C f r e w':=by
 unfold MarkAt at hC;rcases h with⟨hd,rfl,z,rfl⟩|⟨hd,rfl,z,rfl⟩
 ·have hb:bigQ r=false:=by unfold bigQ;simp;omega
  refine⟨by rw[zfg hb],?_,zly _ _ _⟩;rw[hb,Bool.or_false];exact zb5 hC
 ·have hb:bigQ r=true:=by unfold bigQ;simp;omega
  refine⟨by unfold zbj;rw[hb];rfl,?_,zkZ (zav _ _ _ _) z⟩;rw[hb,Bool.or_true];refine zb5 ?_;have:=Joins.block_setCell (i:=0) hC (.bool true);simpa using this
theorem zbW{w:World}{C:Nat}{f:Bool}(hC:MarkAt w C f):w.cell? ⟨C,0,none⟩=some (.bool f)/\C<w.heap.size/\w.frozen? ⟨C,0,none⟩=false:=by
 have h:=zab hC;unfold MarkAt at hC;exact⟨by simp[World.cell?,hC],h,by simp[World.frozen?,hC]⟩
theorem zhL(C:Nat)(f:Bool)(w:World)(hC:MarkAt w C f)(p q:Rat)(hp:zaJ p)(hq:zaJ q):Calls Tryz.prog 144 #[.pointer (some ⟨C,0,none⟩),zaA p,zaA q] w (zeH w C f (p*q)):=
 (cmul5_any C f w (zbW hC).1 (zbW hC).2.1 (zbW hC).2.2 p q hp hq).mono fun _ _ h=>zi5 hC h
theorem zhM(C:Nat)(f:Bool)(w:World)(hC:MarkAt w C f)(p q:Rat)(hp:zaJ p)(hq:zaJ q):Calls Tryz.prog 145 #[.pointer (some ⟨C,0,none⟩),zaA p,zaA q] w (zeH w C f (p+q)):=
 (cadd5_any C f w (zbW hC).1 (zbW hC).2.1 (zbW hC).2.2 p q hp hq).mono fun _ _ h=>zi5 hC h
theorem znU(C:Nat)(f:Bool)(w:World)(hC:MarkAt w C f)(p q:Rat)(hp:zaJ p)(hq:zaJ q)(h0:0<q):Calls Tryz.prog 146 #[.pointer (some ⟨C,0,none⟩),zaA p,zaA q] w (zeH w C f (p/q)):=
 (cquo5_any C f w (zbW hC).1 (zbW hC).2.1 (zbW hC).2.2 p q hp hq h0).mono fun _ _ h=>zi5 hC h
theorem zi6{base b i T:Nat}{W W':World}{B ps:List Nat}{d c p wl r:Nat}{mv tv:Value}{s:St}{g':Grave}{la co:Int}{cs:Array Value}{fr:Nat×Nat}(hb:base<=b)(hC:WldC W b d c p wl r mv tv la co)(hP:PplAt base W B d c p wl r mv s)(hT:TombsAt base W B tv ps s.graves)
 (hi:ps[i]?=some T)(hx:W.heap[T]?=some (.cells cs 88 fr))(hg:W.grownBy W' (some T))(hN:TombAt W' base B T g'):WldAt base W' b (s.withGrave i g') la co:=by
 have rX:b≠T:=fun e=>by
  subst e;exact MbX
 have cF:WldC W' b d c p wl r mv tv la co:=(hg.block b (zab hC) (fun e=>rX MdO)).trans hC;refine⟨B,d,c,p,wl,r,mv,tv,ps,hb,cF,?_,?_⟩
 ·have:=hP.kept hg hx Mcw Mcw Mcw;exact⟨this.nd,this.ge,this.dead,this.rows,this.marr,this.wills,this.ren⟩
 ·refine⟨hT.own.kept hg hx Mcw,by simp[St.withGrave,hT.len],hT.nd,fun j T' g e1 e2=>?_⟩;simp only[St.withGrave]at e2;by_cases hj:i=j
  ·subst hj;rw[hi]at e1;have eF:i<s.graves.length:=MdN;exact Mbv
  ·exact Mam
theorem zdM{base:Nat}{W:World}{B ps:List Nat}{tv:Value}{s:St}{place:ByteArray}{day:Int}{i:Nat}(hT:TombsAt base W B tv ps s.graves)(h:zaL s place day=some i):
 ∃T g,ps[i]?=some T/\ps.getD i 0=T/\s.graves[i]?=some g/\s.graves.getD i zfa=g/\TombAt W base B T g/\zaR g day=true:=by
 obtain⟨g,h1,h2,h3⟩:=zbO h;have hi:i<ps.length:=by have:=(List.getElem?_eq_some_iff.1 h1).1;have:=hT.len;omega
 refine⟨ps[i],g,List.getElem?_eq_getElem hi,by rw[List.getD_eq_getElem?_getD,List.getElem?_eq_getElem hi];rfl,h1,zf1 h1,hT.all i _ g (List.getElem?_eq_getElem hi) h1,h3⟩
theorem zi7{W:World}{T:Nat}{cs0 cs1 cs2 cs3 cs4 cs5:Value}{fr:Nat×Nat}(h:W.heap[T]?=some (.cells #[cs0,cs1,cs2,cs3,cs4,cs5] 88 fr))(a0 a1 a2 a3 a4 a5:Value):
 ((((((W.setCell ⟨T,0,none⟩ a0).setCell ⟨T,1,none⟩ a1).setCell ⟨T,2,none⟩ a2).setCell ⟨T,3,none⟩ a3).setCell ⟨T,4,none⟩ a4).setCell ⟨T,5,none⟩ a5).heap[T]?=some (.cells #[a0,a1,a2,a3,a4,a5] 88 fr):=by
 have:=Joins.block_setCell (i:=5) (Joins.block_setCell (i:=4) (Joins.block_setCell (i:=3) (Joins.block_setCell (i:=2) (Joins.block_setCell (i:=1) (Joins.block_setCell (i:=0) h a0) a1) a2) a3) a4) a5;simpa using this
theorem zce(W:World)(T:Nat)(a0 a1 a2 a3 a4 a5:Value):W.grownBy ((((((W.setCell ⟨T,0,none⟩ a0).setCell ⟨T,1,none⟩ a1).setCell ⟨T,2,none⟩ a2).setCell ⟨T,3,none⟩ a3).setCell ⟨T,4,none⟩ a4).setCell ⟨T,5,none⟩ a5) (some T):=
 zbq (zbq (zbq (zbq (zbq (zav _ _ _ _) (zav _ _ _ _)) (zav _ _ _ _)) (zav _ _ _ _)) (zav _ _ _ _)) (zav _ _ _ _)
def zeI(l:List RPart):Rat:=1-sumQ (zan l)
theorem zlz(l:List RPart){k:Nat}(h:k<l.length):zeI (l.take (k+1))=zeI (l.take k)-l[k].rat:=by
 have hs:∀a b:Parts,sumQ (a++b)=sumQ a+sumQ b:=fun a b=>by
  exact Mbn
 unfold zeI;rw[List.take_succ_eq_append_getElem h];unfold zan;rw[List.map_append,hs];simp only[List.map_cons,List.map_nil,sumQ];grind
theorem znV{l:List RPart}(h:∀p∈l,0<p.rat):∀k,0<=sumQ (zan (l.take k))/\sumQ (zan (l.take k))<=sumQ (zan l):=fun k=>by
 have hs:∀a b:Parts,sumQ (a++b)=sumQ a+sumQ b:=fun a b=>by
  exact Mbn
 have hp:∀m:List RPart,(∀p∈m,0<p.rat)->0<=sumQ (zan m):=fun m hm=>zbt fun p hp=>by
  obtain⟨q,hq,rfl⟩:=List.mem_map.1 hp;have:=hm q hq;show 0<=q.rat;grind
 refine⟨hp _ fun p hp=>h p (List.mem_of_mem_take hp),?_⟩;have h2:=hp (l.drop k) fun p hp=>h p (List.mem_of_mem_drop hp)
 have e:zan l=zan (l.take k)++zan (l.drop k):=by
  unfold zan;rw[<-List.map_append,List.take_append_drop]
 rw[e,hs];grind
theorem zi8{l:List RPart}(h:∀p∈l,0<p.rat/\IsN 720720 p.rat/\za8 16 p.num p.den=true):∀k,Fits (zeI (l.take k))
 |0=>by
  show Fits (1-0);rw[show(1:Rat)-0=1 by grind];exact fits_one
 |k+1=>by
  by_cases hk:k<l.length
  ·rw[zlz l hk];exact(zi8 h k).sub (zes (h _ (List.getElem_mem hk)).2.2)
  ·rw[show l.take (k+1)=l.take k by rw[List.take_of_length_le Mcu,List.take_of_length_le Mcu]];exact zi8 h k
theorem subS_any(s:Rat)(a b:Int)(W:World)(hs:zaJ s)(h:za8 16 a b=true):Calls Tryz.prog 142 #[.agg #[.int .i64 s.num,.int .i64 s.den],.agg #[.int .i64 a,.int .i64 b]] W (Ret W (zaA (s-Rat.divInt a b))):=by
 obtain⟨h1,h2,h3,h4⟩:=zbp h;have:=zhB s (Rat.divInt a b) W hs ((zes h).small (Rat.le_trans Mcw h3) (Rat.le_trans h4 Mcw));unfold zaA at this⊢;rw[h1,h2]at this;exact this
theorem mulS_any(C:Nat)(f:Bool)(w:World)(hC:MarkAt w C f)(p:Rat)(a b:Int)(hp:zaJ p)(h:za8 16 a b=true):Calls Tryz.prog 144 #[.pointer (some ⟨C,0,none⟩),.agg #[.int .i64 p.num,.int .i64 p.den],.agg #[.int .i64 a,.int .i64 b]] w (zeH w C f (p*Rat.divInt a b)):=by
 obtain⟨h1,h2,h3,h4⟩:=zbp h;have:=zhL C f w hC p (Rat.divInt a b) hp ((zes h).small (Rat.le_trans Mcw h3) (Rat.le_trans h4 Mcw));unfold zaA at this;rw[h1,h2]at this;exact this
theorem zl0{s:St}{d:Deed}{i:Nat}{g:Grave}(aO:zaL s d.place d.day=some i)(hg:s.graves.getD i zfa=g)(hG:GoodG g)(hp:∀p∈zan d.to,0<=p.2)(h1:sumQ (zan d.to)<=1):
 zbs s d=if g.cls==4 then(s,15)else if zaf g.holders d.frm==0 then(s,19)else if ze5 s d.to then(s,28)else
  if(zcz g.holders d.frm (zan d.to)).2 then(s,8)else(s.withGrave i {g with holders:=(zcz g.holders d.frm (zan d.to)).1},0):=by
 have hs:=zkx (frm:=d.frm) hG.good hG.small hp h1;unfold zbs;rw[aO];simp only[hg];cases hb:bigQ (zaf g.holders d.frm*(1-sumQ (zan d.to)))
 ·rw[hb]at hs;simp only[Bool.false_eq_true,if_false]at hs⊢;rw[hs];cases(zcz g.holders d.frm (zan d.to)).2<;>rfl
 ·rw[hb]at hs;simp only[if_true]at hs⊢;cases ht:(zcz g.holders d.frm (zan d.to)).2
  ·rw[ht]at hs;simp at hs
  ·rfl
