import Derived.Test.YthhgkjfgpkbliaaGreatDoorJX
import Derived.Test.YthhgkjfgpkbliaaGreatDoorJT
import Derived.Deep.RegionHeld3
set_option linter.all false
set_option maxRecDepth 100000
set_option maxHeartbeats 4000000
namespace Go.Proofs.YthhgkjfgpkbliaaGreatDoor
open Go.RowKit Go.Shelf
attribute [local go_sem] World.cell?_alloc_mark zae zav zai zaw zam zan zao zap zaq zar zas
section
attribute [local go_sem] Oper.semAt_some
abbrev Pair2:=ByteArray×ByteArray
def pr0:Pair2:=(⟨#[]⟩,⟨#[]⟩)
def zdo(ms:List Pair2)(k:Nat):List (Int×Pair2):=(List.range k).map fun j=>(((ms.length-1-j:Nat):Int),ms.getD (ms.length-1-j) pr0)
theorem zkE(ms:List Pair2)(k:Nat):zdo ms (k+1)=zdo ms k++[(((ms.length-1-k:Nat):Int),ms.getD (ms.length-1-k) pr0)]:=by
 unfold zdo;rw[List.range_succ,List.map_append];rfl
theorem zmx(ms:List Pair2)(k:Nat):(zdo ms k).length=k:=by simp[zdo]
theorem zmy(ms:List Pair2):(zdo ms ms.length).map (·.2)=ms.reverse:=by
 unfold zdo;apply List.ext_getElem
 ·simp
 ·intro i h1 h2;simp at h1;rw[List.getElem_reverse];exact MaW
theorem zkF(ms:List Pair2)(k:Nat)(hk:k<=ms.length):(zdo ms k).map Prod.snd=ms.reverse.take k:=by
 unfold zdo;apply List.ext_getElem
 ·simp;omega
 ·intro i h1 h2;simp at h1;rw[List.getElem_take,List.getElem_reverse];exact MaW
def encB(x:Int×Pair2):Array Value:= #[.int .i64 x.1,.agg #[.string x.2.1,.string x.2.2]]
theorem back1_in(n:Nat)(hn:1<=n)(l n₀ Bs:Nat)(ms:List Pair2)(A:Option Addr)(c:Nat)(hl:ms.length<=100000)(J Jx:List (Int×Pair2)->World->Prop)
 (hY:∀pre x W,J pre W->pre.length<ms.length->YieldAt Fence.wide (n-1) Tryz.prog l (encB x) W fun e W'=>
   (e=.returned (.bool true)/\J (pre++[x]) W'/\Below n₀ W W')\/(e=.returned (.bool false)/\Jx (pre++[x]) W'))
 (W:World)(pk:Bs<n₀)(uw:W.cell? ⟨Bs,0,none⟩=some (.slice A ms.length c))(hS:∀W',Below n₀ W W'->Sl W' 2 zb9 A ms)(h0:J [] W):
 CallsIn Fence.wide n Tryz.prog 235 #[.func (.yield l) #[] #[],.pointer (some ⟨Bs,0,none⟩)] W fun e W'=>(∃v,e=.returned v)/\
  ((∃ys,ys=zdo ms ms.length/\J ys W')\/(∃pre,(∃k,k<=ms.length/\pre=zdo ms k)/\Jx pre W')):=by
 refine callsIn_of_wp Tryz.func235 rfl trivial ?_ rfl;simp only[Tryz.ntmps235,List.size_toArray,List.length_cons,List.length_nil,Nat.reduceAdd,Nat.reduceSub,Array.replicate_succ,Array.replicate_zero,List.push_toArray,List.append_toArray,List.nil_append,List.cons_append];have tu:IntKind.i64.wrap ((ms.length:Int)-1)=(ms.length:Int)-1:=IntWalk.i64_in _ MbC;gi_wp2
 gi_loopw [3] (fun i wr=>∃k:Nat,k<=ms.length/\i=.int .i64 ((ms.length:Int)-1-k)/\J (zdo ms k) wr/\Below n₀ W wr) (fun i _=>(intOf i+1).toNat)
 case atStart=>exact⟨0,Nat.zero_le _,by simp,h0,Below.refl _ _⟩
 case round=>
  obtain⟨k,hk,rfl,xJ,hB⟩:=hrel;have aL:wr.cell? ⟨Bs,0,none⟩=some (.slice A ms.length c):=(hB.cell (p:=⟨Bs,0,none⟩) pk).trans uw;by_cases aa:k<ms.length
  ·have hi:ms.length-1-k<ms.length:=MbC;obtain⟨b,off,rfl,hb,hc⟩:=(hS wr hB).at hi;obtain⟨fn,tmps,assign,body,hy,hR⟩:=hY _ (((ms.length-1-k:Nat):Int),ms.getD (ms.length-1-k) pr0) wr xJ (by rw[zmx];exact aa);have aQ:ms.getD (ms.length-1-k) pr0=ms[ms.length-1-k]:=by rw[List.getD_eq_getElem?_getD,List.getElem?_eq_getElem hi];rfl
   have HT:=zHi (zkE ms k);rw[aQ]at hy hR;have HG:=zHi aQ;clear aQ;generalize ms[ms.length-1-k]=m at hc hy hR HG;obtain⟨m1,m2⟩:=m;have c0:wr.cell? ⟨b,off+(ms.length-1-k)*2,none⟩=some (.string m1):=hc 0 _ rfl;have c1:wr.cell? ⟨b,off+(ms.length-1-k)*2+1,none⟩=some (.string m2):=hc 1 _ rfl;obtain⟨j,hj⟩:∃j:Nat,j=ms.length-1-k:=⟨_,rfl⟩
   rw[<-hj]at c0 c1 hy hR HT HG hi;have bh:(ms.length:Int)-1-k=(j:Int):=MbC;have sS:(0:Int)<=(j:Int):=MbC;have dQ:(j:Int)<(ms.length:Int):=MbC;rw[bh];have HJ:=zHi bh;clear bh hj hc;simp only[encB]at hy hR;gi_wp2
   refine hR.mono ?_;rintro e W3 (⟨rfl,Bj,vJ⟩|⟨rfl,uJ⟩)
   ·have eZ:IntKind.i64.wrap ((j:Int)-1)=(j:Int)-1:=IntWalk.i64_in _ MbC;have BX:W3.cell? ⟨Bs,0,none⟩=some (.slice (some ⟨b,off,none⟩) ms.length c):=(vJ.cell (p:=⟨Bs,0,none⟩) pk).trans aL;gi_wp2
    go_roundw
    case rel=>exact⟨k+1,by omega,by have:=HJ.o;exact zbU MbC,by rw[HT.o,HG.o];exact Bj,hB.trans vJ⟩
    case measure=>(have:=HJ.o;simp[intOf];first|done|omega)
   ·gi_wp2
    refine bodyPost_ret (results_none rfl _ _ _) rfl ?_;exact⟨⟨_,rfl⟩,.inr ⟨_,⟨k+1,by omega,rfl⟩,by rw[HT.o,HG.o];exact uJ⟩⟩
  ·obtain rfl:k=ms.length:=by omega
   have jM:(ms.length:Int)-1-(ms.length:Int)= -1:=MbC;rw[jM];gi_wp2
   go_end0
   exact⟨⟨_,rfl⟩,.inl ⟨_,rfl,xJ⟩⟩
theorem back1_seq(n:Nat)(hn:1<=n)(n₀ Bs:Nat)(ms:List Pair2)(A:Option Addr)(c:Nat)(hl:ms.length<=100000)(w:World)(yR:n₀<=w.heap.size)(pk:Bs<n₀)(uw:w.cell? ⟨Bs,0,none⟩=some (.slice A ms.length c))(hS:∀W',Below n₀ w W'->Sl W' 2 zb9 A ms):
 SeqStopsK Fence.wide n Tryz.prog 235 #[.pointer (some ⟨Bs,0,none⟩)] encB (Below n₀) (fun ys=>ys=zdo ms ms.length) (fun pre=>∃k,k<=ms.length/\pre=zdo ms k) ms.length w:=fun l J Jx W hW _ _ hY Bi=>
 back1_in n hn l n₀ Bs ms A c hl J Jx hY W pk ((hW.cell (p:=⟨Bs,0,none⟩) (Nat.lt_of_lt_of_le pk yR)).trans uw) (fun W' h=>hS W' ((hW.mono yR).trans h)) Bi
theorem zjy{fn:Func}{p:Tmp}(h:fn.results= #[.cell p 9])(tmps:Array Value)(w:World)(B:Nat)(x:ByteArray)(hp:tmps.getD p undef=.pointer (some ⟨B,0,none⟩))
 (h0:w.cell? ⟨B,0,none⟩=some (.string x)):(results fn tmps).run Tryz.prog w=.ok (.string x) w:=by
 rw[zd3 h,hp];go_simp
theorem back_any(A:Option Addr)(n c:Nat)(w:World):Calls Tryz.prog 210 #[.slice A n c] w fun e w'=>e=.returned (.func (.func 235) #[] #[.pointer (some ⟨w.heap.size,0,none⟩)])/\w'=w.alloc (.cells #[.slice A n c] 31):=by
 go_enter Tryz.func210,Tryz.ntmps210
 exact Map
def hasN(m:Pair2)(n:ByteArray):Bool:=zag m.1 n||zag m.2 n
def zdW(m:Pair2)(n:ByteArray):ByteArray:=if zag m.1 n then m.2 else m.1
theorem zhi{n:ByteArray}:∀ {l:List Pair2},(∀m∈l,hasN m n=false)->zdl n l=⟨#[]⟩
 | [],_=>rfl
 |m::l,h=>by
  have h0:=h m MbF;simp only[hasN,Bool.or_eq_false_iff]at h0;rw[zdl,h0.1,h0.2];simpa using zhi fun x hx=>h x McG
theorem zhj{n:ByteArray}{m:Pair2}{b:List Pair2}(hm:hasN m n=true):∀ {a:List Pair2},(∀m∈a,hasN m n=false)->zdl n (a++m::b)=zdW m n
 | [],_=>by
   rw[List.nil_append,zdl,zdW];cases h:zag m.1 n
   ·simp only[hasN,h,Bool.false_or]at hm;simp[hm]
   ·simp
 |x::a,h=>by
  have h0:=h x MbF;simp only[hasN,Bool.or_eq_false_iff]at h0;rw[List.cons_append,zdl,h0.1,h0.2];simpa using zhj hm fun x hx=>h x McG
def marks5(Ds:List Nat):List Deferred:=Ds.map fun D=> {target:=.collected D,args:= #[]}
theorem zdL{F:Fence}{n:Nat}{P:Program}{fn:Func}{tmps:Array Value}{R:Ending->World->Prop}{base:Nat}:∀(Ds:List Nat) (w:World),Ds.Nodup->(∀D∈Ds,base<=D/\w.heap[D]?=some (.deferred (some [])))->
 (∀w',Below base w w'->(∀(k:Nat) (cs:Array Value) (t:TypeId) (fr:Nat×Nat),w.heap[k]?=some (.cells cs t fr)->w'.heap[k]?=some (.cells cs t fr))->∃v,(results fn tmps).run P w'=.ok v w'/\R (.returned v) w')->
 LeavesInM F n P fn tmps R (marks5 Ds) .returning w
 | [],w,_,_,h=>h w (Below.refl _ _) fun _ _ _ _ h=>h
 |D::Ds,w,ca,hD,h=>by
  obtain⟨hb,hK⟩:=hD D MbF;have qQ:=List.nodup_cons.1 ca;refine⟨by simp,.inl ⟨D,_,rfl,run_takeDeferred hK,?_⟩⟩;have hp:∀k,k≠D->(w.putObj D (.deferred none)).heap[k]?=w.heap[k]?:=fun k hk=>by
   simp only[World.putObj,Array.getElem?_setIfInBounds];rw[if_neg (fun e=>hk e.symm)]
  refine zdL Ds (w.putObj D (.deferred none)) qQ.2 (fun D' lU=>⟨(hD D' (by simp[lU])).1,(hp D' (fun e=>qQ.1 (e▸lU))).trans (hD D' (by simp[lU])).2⟩) fun w' hB hc=>?_
  refine h w' (Below.trans (⟨rfl,rfl,rfl,by simp[World.putObj],fun k hk=>hp k MbC⟩:Below base w (w.putObj D (.deferred none))) hB) fun k cs t fr hk=>hc k cs t fr ((hp k (fun e=>?_)).trans hk)
  subst e;rw[hK]at hk;cases hk
theorem zlA{A B:World}{row:Option Nat}{k:Nat}{cs:Array Value}{t:TypeId}{fr:Nat×Nat}(h:A.heap[k]?=some (.cells cs t fr))(hg:A.grownBy B row)(hr:∀r,row=some r->∃o:Obj,A.heap[r]?=some o/\o.isCells=false):B.heap[k]?=some (.cells cs t fr):=
 (hg.block k (zad h) (fun e=>by
   obtain⟨o,ho,hc⟩:=hr k e.symm;rw[h]at ho;simp only[Option.some.injEq]at ho;subst ho
   cases hc)).trans h
def SpI(x:ByteArray)(W0:World)(pre:List (Int×Pair2))(W:World):Prop:=(∀m∈pre.map Prod.snd,hasN m x=false)/\Below W0.heap.size W0 W
def SpIx(s:St)(x:ByteArray)(w:World)(c:Code)(pre:List (Int×Pair2))(W:World):Prop:=
 (c=.ret/\∃a m,pre.map Prod.snd=a++[m]/\(∀y∈a,hasN y x=false)/\hasN m x=true/\W.heap[w.heap.size+1+1]?=some (.cells #[.string (if zaK s (zdW m x)then⟨#[]⟩else zdW m x)] 9 (0,0)))/\Below w.heap.size w W
theorem spouse_in(base b:Nat)(s:St)(x:ByteArray)(w:World)(hW:PeoAt base w b s)(hl:s.marriages.length<=100000):
 CallsIn Fence.wide 9 Tryz.prog 153 #[.pointer (some ⟨b,0,none⟩),.string x] w (Ret w (.string (zbi s x))):=by
 obtain⟨B,d,c,p,wl,r,mv,tv,la,co,h1,h2⟩:=hW;obtain⟨A,cc,rfl,hS,hc⟩:=h2.marr.sl zfl;have hb:=zad h1;unfold WldC at h1;have c3:w.cell? ⟨b,3,none⟩=some (.slice A s.marriages.length cc):=McN;obtain⟨HS,H1,H2⟩:=yH3 hS h1 h2;clear h1 h2 hS;refine callsIn_of_wp_marks Tryz.func153 rfl trivial ?_ rfl;simp only[Tryz.ntmps153,List.size_toArray,List.length_cons,List.length_nil,Nat.reduceAdd,Nat.reduceSub,Array.replicate_succ,Array.replicate_zero,List.push_toArray,List.append_toArray,List.nil_append,List.cons_append];have cS:b≠w.heap.size:=MbC;have cw:b≠w.heap.size+1:=MbC;gi_wp2_with (refine⟨trivial,?_⟩;gi_at_call 210;refine(callsIn_wide.2 (back_any _ _ _ _)).mono ?_;rintro e wq ⟨rfl,rfl⟩)
 generalize aF:((((w.alloc (.cells #[.pointer (some ⟨b,0,none⟩)] 169)).alloc (.cells #[.string x] 9)).alloc (.cells #[.string ⟨#[]⟩] 9)).alloc (.cells #[.slice A s.marriages.length cc] 31))=W0;have tB:W0.heap.size=w.heap.size+4:=by rw[<-aF];simp
 have s0:W0.heap[w.heap.size]?=some (.cells #[.pointer (some ⟨b,0,none⟩)] 169 (0,0)):=by rw[<-aF];exact zal (zal (zal (za3 _ _ _ rfl)))
 have s1:W0.heap[w.heap.size+1]?=some (.cells #[.string x] 9 (0,0)):=by rw[<-aF];exact zal (zal (za3 _ _ _ MbF))
 have s2:W0.heap[w.heap.size+1+1]?=some (.cells #[.string ⟨#[]⟩] 9 (0,0)):=by rw[<-aF];exact zal (za3 _ _ _ MbF)
 have s3:W0.heap[w.heap.size+1+1+1]?=some (.cells #[.slice A s.marriages.length cc] 31 (0,0)):=by rw[<-aF];exact za3 _ _ _ MbF
 have iR:Below w.heap.size w W0:=by rw[<-aF];exact Bw
 have aS:W0.cell? ⟨w.heap.size+1+1+1,0,none⟩=some (.slice A s.marriages.length cc):=by simp[World.cell?,s3]
 clear aF;obtain⟨S0,S1,S2⟩:=yH3 s0 s1 s2;clear s0 s1 s2 s3;refine wpIn_rangeFunc_ownH rfl MbC (gf:=235) (lb:= #[.pointer (some ⟨w.heap.size+1+1+1,0,none⟩)]) rfl trivial (enters_of Tryz.func235 MbE rfl)
  (back1_seq (9-1) MbC W0.heap.size (w.heap.size+1+1+1) s.marriages A cc hl W0 (Nat.le_refl _) MbC aS (fun W' h=>(HS.o.keep iR).keep h)) belowK_t (belowK_b (Nat.le_refl _)) (Below.refl _ _) (fun _=>rfl)
  (fun(pre:List (Int×Pair2)) W=>SpI x W0 pre W)
  (fun c (pre:List (Int×Pair2)) W=>SpIx s x w c pre W)
  (fun s A B row hs hg hr=>⟨hs.1,hs.2.grown hg hs.2.size (fun r e=>(hr r e).1)⟩)
  (fun cc s A B row hs hg hr=>⟨by obtain⟨⟨h1,a,m,h2,h3,h4,h5⟩,_⟩:=hs;exact⟨h1,a,m,h2,h3,h4,zlA h5 hg (fun r e=>(hr r e).2)⟩,hs.2.grown hg hs.2.size (fun r e=>by have:=(hr r e).1;omega)⟩)
  ⟨by simp,Below.refl _ _⟩
  (fun y a' W=>∃Bx,W0.heap.size<=Bx/\W.heap[Bx]?=some (.cells #[.string y.2.1,.string y.2.2] 171 (0,0))/\a'= {tmps:= #[.pointer (some ⟨b,0,none⟩),.string x,.pointer (some ⟨w.heap.size,0,none⟩),.pointer (some ⟨w.heap.size+1,0,none⟩),.pointer (some ⟨w.heap.size+1+1,0,none⟩),undef,.pointer (some ⟨Bx,0,none⟩),undef,undef,undef,.pointer (some ⟨b,0,none⟩),.pointer (some ⟨b,0,none⟩),.pointer (some ⟨b,3,none⟩),.slice A s.marriages.length cc,.func (.func 235) #[] #[.pointer (some ⟨w.heap.size+1+1+1,0,none⟩)],.int .i64 y.1,.agg #[.string y.2.1,.string y.2.2],undef,undef,undef,undef,undef,undef,undef,undef,undef,undef,undef,undef,undef,undef,undef,undef,undef,undef,undef,undef,undef],defers:=[]})
  (fun y a' s A B row hs hg hr=>by obtain⟨Bx,h1,h2,h3⟩:=hs;exact⟨Bx,h1,zlA h2 hg (fun r e=>(hr r e).2),h3⟩) ?assign ?body ?done ?stop
 case assign=>
  rintro l pre ⟨yi,y1,y2⟩ W K hi hK;simp only[encB];gi_wp2
  exact hK _ _ ((KeepsOthers.alloc _ _).from _) (zau (Below.refl _ _) _ hi.2.size) ⟨hi.1,zau hi.2 _⟩ ⟨W.heap.size,hi.2.size,za3 _ _ _ rfl,rfl⟩
 case body=>
  rintro l pre ⟨yi,y1,y2⟩ a' W hWl _ ⟨hp,cE⟩ ⟨Bx,fo,ik,rfl⟩ af;simp only at ik;have t0:=(cE.block w.heap.size MbC).trans S0.o;have t1:=(cE.block (w.heap.size+1) MbC).trans S1.o;have t2:=(cE.block (w.heap.size+1+1) MbC).trans S2.o;have tW:=(cE.block b MbC).trans ((iR.block b hb).trans H1.o);have nG:=H2.o.keep (iR.trans (cE.mono MbC));have k0:W.cell? ⟨w.heap.size,0,none⟩=some (.pointer (some ⟨b,0,none⟩)):=by simp[World.cell?,t0]
  have k1:W.cell? ⟨w.heap.size+1,0,none⟩=some (.string x):=by simp[World.cell?,t1]
  have k2:W.cell? ⟨w.heap.size+1+1,0,none⟩=some (.string ⟨#[]⟩):=by simp[World.cell?,t2]
  have k3:W.frozen? ⟨w.heap.size+1+1,0,none⟩=false:=by simp[World.frozen?,t2]
  have k4:W.cell? ⟨b,0,none⟩=some (.map (some d)):=by simp[World.cell?,tW]
  have k5:W.cell? ⟨Bx,0,none⟩=some (.string y1):=by simp[World.cell?,ik]
  have k6:W.cell? ⟨Bx,1,none⟩=some (.string y2):=by simp[World.cell?,ik]
  have l1:=zcK nG y1;have l2:=zcK nG y2;obtain⟨aM,HP,T2⟩:=yH3 cE hp t2;clear t0 t1 t2 tW nG hp;have Cm:∀W:World,Sem.run Tryz.prog (Instr.index 171 (.agg #[.string y1,.string y2]) (.int .i64 0)) W=.ok (.string y1) W:=fun W=>by kernel_rfl
  have Cn:∀W:World,Sem.run Tryz.prog (Instr.index 171 (.agg #[.string y1,.string y2]) (.int .i64 1)) W=.ok (.string y2) W:=fun W=>by kernel_rfl
  gi_wp2
  gi_loopw [18] (fun i wr=>∃k:Nat,k<=2/\i=.int .i64 k/\wr=W/\Hid ((0<k->zag y1 x=false)/\(1<k->zag y2 x=false))) (fun i _=>2-(intOf i).toNat)
  case atStart=>exact⟨0,by omega,rfl,rfl,⟨by omega,by omega⟩⟩
  case round=>
   obtain⟨k,hk,rfl,rfl,hs⟩:=hrel;obtain rfl|rfl|rfl:k=0\/k=1\/k=2:=by omega
   ·rw[show((0:Nat):Int)=0 from rfl];by_cases h1:y1.toList=x.toList
    ·have cS:(y1.toList==x.toList)=true:=Mb7;have hm:hasN (y1,y2) x=true:=by simp[hasN,zdu h1]
     have ho:zdW (y1,y2) x=y2:=by simp[zdW,zdu h1]
     obtain⟨HM,HO⟩:=yH2 hm ho;clear hm ho;cases hd:zaK s y2
     ·rw[hd]at l2;gi_wp2
      have g2:=Boxed.set (.string y2) T2.o;have HD:=zHi hd;have cU:∀i,SpIx s x w .ret (pre++[(i,y1,y2)]) (wr.setCell ⟨w.heap.size+1+1,0,none⟩ (.string y2)):=fun i=>⟨⟨rfl,pre.map Prod.snd,(y1,y2),by simp,HP.o,HM.o,by rw[HO.o,HD.o];exact g2⟩,zaU (iR.trans (aM.o.mono MbC)) MbH _⟩
      exact MS
     ·rw[hd]at l2;exact Mz
    ·have dG:(y1.toList==x.toList)=false:=Mb7;have HN:Hid ((0<1->zag y1 x=false)/\(1<1->zag y2 x=false)):=⟨fun _=>zdH h1,by omega⟩
     gi_wp2
     exact⟨⟨1,by omega,rfl,trivial,HN⟩,by simp[intOf]⟩
   ·rw[show((1:Nat):Int)=1 from rfl];by_cases h2:y2.toList=x.toList
    ·have dG:(y2.toList==x.toList)=true:=by simpa using h2
     have hm:hasN (y1,y2) x=true:=by simp[hasN,zdu h2]
     have ho:zdW (y1,y2) x=y1:=by simp[zdW,hs.o.1 MbC]
     obtain⟨HM,HO⟩:=yH2 hm ho;clear hm ho;cases hd:zaK s y1
     ·rw[hd]at l1;gi_wp2
      have g2:=Boxed.set (.string y1) T2.o;have HD:=zHi hd;have cU:∀i,SpIx s x w .ret (pre++[(i,y1,y2)]) (wr.setCell ⟨w.heap.size+1+1,0,none⟩ (.string y1)):=fun i=>⟨⟨rfl,pre.map Prod.snd,(y1,y2),by simp,HP.o,HM.o,by rw[HO.o,HD.o];exact g2⟩,zaU (iR.trans (aM.o.mono MbC)) MbH _⟩
      exact MS
     ·rw[hd]at l1;exact Mz
    ·have dG:(y2.toList==x.toList)=false:=by simpa using h2
     have HN:Hid ((0<2->zag y1 x=false)/\(1<2->zag y2 x=false)):=⟨fun _=>hs.o.1 MbC,fun _=>zdH h2⟩
     gi_wp2
     exact⟨⟨2,by omega,rfl,trivial,HN⟩,by simp[intOf]⟩
   ·rw[show((2:Nat):Int)=2 from rfl];have hn:hasN (y1,y2) x=false:=by simp[hasN,hs.o.1 MbC,hs.o.2 MbC]
    have HN:=zHi hn;clear hn;gi_wp2
    exact⟨KeepsFrom.refl _ _,Below.refl _ _,fun m hm=>by
     rw[List.map_append]at hm;rcases List.mem_append.1 hm with hm|hm
     ·exact HP.o m hm
     ·simp only[List.map_cons,List.map_nil,List.mem_singleton]at hm
      rw[hm];exact HN.o,aM.o⟩
 case done=>
  rintro D ys W hD rfl ⟨hp,cE⟩ hK;have t2:=(cE.block (w.heap.size+1+1) MbC).trans S2.o;have c2':W.cell? ⟨w.heap.size+1+1,0,none⟩=some (.string ⟨#[]⟩):=by simp[World.cell?,t2]
  have f2':W.frozen? ⟨w.heap.size+1+1,0,none⟩=false:=by simp[World.frozen?,t2]
  have HY:Hid (zbi s x=⟨#[]⟩):=by
   show _=_;rw[zmy]at hp;unfold zbi;rw[zhi hp];simp
  obtain⟨HK,T2⟩:=yH2 hK t2;clear hK t2 hp;gi_wp2
  have g2:=Boxed.set (.string ⟨#[]⟩) T2.o;have B3:(W.setCell ⟨w.heap.size+1+1,0,none⟩ (.string ⟨#[]⟩)).heap[D]?=some (.deferred (some [])):=(heap_setCell_other W ⟨w.heap.size+1+1,0,none⟩ _ _ MbH).trans HK.o
  refine zdL (base:=w.heap.size) [D] _ MbF (fun D' lU=>by
   have:D'=D:=by simpa using lU
   subst this
   exact⟨by omega,B3⟩) fun w' eP ar=>⟨.string ⟨#[]⟩,zjy rfl _ _ (w.heap.size+1+1) _ rfl (by simp[World.cell?,ar _ _ _ _ g2]),?_⟩
  exact Ret.of (by rw[HY.o]) ((zaU (iR.trans (cE.mono MbC)) MbH _).trans eP)
 case stop=>
  rintro D cc pre W hD mN ⟨⟨rfl,a,m,h2,h3,h4,h5⟩,cE⟩ hK;have HY:Hid (zbi s x=if zaK s (zdW m x)then⟨#[]⟩else zdW m x):=by
   show _=_;obtain⟨k,hk,rfl⟩:=mN;rw[zkF _ _ hk]at h2;have e:s.marriages.reverse=a++m::s.marriages.reverse.drop k:=by
    have:=(List.take_append_drop k s.marriages.reverse).symm;rw[h2]at this;simpa using this
   unfold zbi;rw[e,zhj h4 h3]
  obtain⟨HK,G2⟩:=yH2 hK h5;clear hK h5 h4 h3 h2;gi_wp2
  refine zdL (base:=w.heap.size) [D] _ MbF (fun D' lU=>by
   have:D'=D:=by simpa using lU
   subst this
   exact⟨by omega,HK.o⟩) fun w' eP ar=>⟨.string (if zaK s (zdW m x)then⟨#[]⟩else zdW m x),zjy rfl _ _ (w.heap.size+1+1) _ rfl (by simp[World.cell?,ar _ _ _ _ G2.o]),?_⟩
  exact Ret.of (by rw[HY.o]) (cE.trans eP)
theorem zig(base b:Nat)(s:St)(x:ByteArray)(w:World)(hW:PeoAt base w b s)(hl:s.marriages.length<=100000):
 Calls Tryz.prog 153 #[.pointer (some ⟨b,0,none⟩),.string x] w (Ret w (.string (zbi s x))):=callsIn_wide.1 (spouse_in base b s x w hW hl)
end
section
attribute [local go_sem] zah zac
theorem zhk{base:Nat}{W:World}{B:List Nat}{d c p wl r:Nat}{mv:Value}{s:St}(h:PplAt base W B d c p wl r mv s)(n:ByteArray):
 ∃A cc,(∀W',Below W.heap.size W W'->(Instr.lookup 104 (.map (some c)) (.string n) false).run Tryz.prog W'=.ok (.slice A (zaf s n).length cc) W')/\(zaf s n).length<=cc/\Sl W 1 sC A (zaf s n):=by
 obtain⟨mc,mp,k1,k2,k3,k4,k5,k6⟩:=h.rows;have hl:=fun W' (hB:Below W.heap.size W W')=>zbh zk9 (k1.below hB).at n
 rcases k3 n with⟨h1,h2⟩|⟨v,h1,h2⟩
 ·rw[h1]at hl;refine⟨none,0,fun W' hB=>?_,by rw[h2];exact Nat.le_refl _,by rw[h2];exact Sl.nil⟩;rw[h2];exact hl W' hB
 ·rw[h1]at hl;obtain⟨A,cc,rfl,hS,hc⟩:=h2.sl zbG;exact⟨A,cc,hl,hc,hS⟩
def outM(out:List ByteArray):List (ByteArray×Bool):=out.map fun n=>(n,true)
theorem out_put{out:List ByteArray}{n:ByteArray}(h:n∉out):mput eqS n true (outM out)=outM (out++[n]):=by
 induction out with
 |nil=>rfl
 |cons x out ih=>
  have hx:eqS n x=false:=zb5.2 fun e=>h (by simp[e])
  rw[outM,List.map_cons,mput];simp only[hx,Bool.false_eq_true,if_false];have:=ih (fun e=>h (by simp[e]));simp only[outM]at this;rw[this];rfl
theorem out_get(out:List ByteArray)(n:ByteArray):(mget eqS n (outM out)).getD false=out.any (zag n):=zgx n out
theorem zdB{w:World}{b:Nat}{x:ByteArray}{t:TypeId}{fr:Nat×Nat}(h:w.heap[b]?=some (.cells #[.string x] t fr)):Sl w 1 sC (some ⟨b,0,none⟩) [x]:=fun _=>⟨b,0,rfl,zad h,fun k y hy j u hu=>by
 have hk:k=0:=MbK;subst hk;simp only[List.getElem?_cons_zero,Option.some.injEq]at hy;subst hy;match j,hu with
 |0,hu=>simp[sC]at hu;simp[World.cell?,h,<-hu]
 |j+1,hu=>simp[sC]at hu⟩
def DescPost(w:World)(s:St)(nm:ByteArray)(e:Ending)(w':World):Prop:=
 ∃out:List ByteArray,e=.returned (.map (some w.heap.size))/\MapS w' w.heap.size ekS evB (outM out)/\Found s nm out []/\Below w.heap.size w w'
theorem desc_any(base b:Nat)(s:St)(nm:ByteArray)(w:World)(hW:PeoAt base w b s)(hl:s.children.length<=100000):
 Calls Tryz.prog 116 #[.pointer (some ⟨b,0,none⟩),.string nm] w (DescPost w s nm):=by
 obtain⟨B,d,c,p,wl,r,mv,tv,la,co,h1,h2⟩:=hW;have hb:=zad h1;unfold WldC at h1;have c1:w.cell? ⟨b,1,none⟩=some (.map (some c)):=McN;obtain⟨HP,H1⟩:=yH2 h2 h1;clear h1 h2;have bR:∀x,(zaf s x).length<=100000:=fun x=>by
  have:(zaf s x).length<=s.children.length:=by unfold zaf;rw[List.length_map];exact List.length_filter_le _ _
  omega
 go_enter Tryz.func116,Tryz.ntmps116
 have cq:= @run_makeMap Tryz.prog;go_upto_region 3 with fail
 clear cq;have hcw:=c1;go_loopg [6] (s.children.length+1) (fun gg v wr=>∃out xs:List ByteArray,OwnS wr w.heap.size 9 1 sC v xs/\MapS wr w.heap.size ekS evB (outM out)/\Below w.heap.size w wr/\w.heap.size+1<=wr.heap.size/\Hid (Found s nm out xs)/\(s.children.length-out.length)+xs.length<=gg/\xs.length<=out.length+1)
 case atStart=>
  refine⟨[],[nm],.inr ⟨w.heap.size+1,0,1,#[.string nm],rfl,by omega,za3 _ _ _ MbF,Nat.le_refl _,by simp[maxLen],by simp,fun j u hj=>?_⟩,?_,Bw,by simp,zkB s nm,by simp,by simp⟩
  ·match j,hj with
   |0,hj=>simpa[sC]using hj
   |j+1,hj=>simp[sC]at hj
  ·exact(MapS.new w).below (n:=w.heap.size+1) (zau (Below.refl _ _) _ MbF) MbF
 case round=>
  obtain⟨out,xs,ae,hm,hB,hsz,HF,be,bv⟩:=hrel;cases xs with
  |nil=>
   obtain⟨A,cc,rfl,hS,hc⟩:=ae.sl zbG;clear ae hS;go_wp2_with fail
   go_ret
   exact⟨out,rfl,hm,HF.o,hB⟩
  |cons x xs=>
   rcases ae with⟨rfl,h0⟩|⟨g,o,cap,cur,rfl,ij,hg,aA,gu,aL,hx⟩
   ·cases h0
   have ae:OwnS wr w.heap.size 9 1 sC (.slice (some ⟨g,o,none⟩) (x::xs).length cap) (x::xs):=.inr ⟨g,o,cap,cur,rfl,ij,hg,aA,gu,aL,hx⟩;obtain⟨_,h1c,bG,qv⟩:=ae.tail zbG;have BY:wr.cell? ⟨g,o,none⟩=some (.string x):=qv 0 _ rfl;have hcb:wr.cell? ⟨b,1,none⟩=some (.map (some c)):=(hB.cell (p:=⟨b,1,none⟩) hb).trans c1;obtain⟨KA,kc,cn,eV,ia⟩:=zhk HP.o x;have qF:=cn wr hB;have HK:Hid (∀W',Below w.heap.size w W'->Sl W' 1 sC KA (zaf s x)):=fun W' h=>ia.keep h
   have pD:Hid (Look s nm x 0 out xs):=found_pop HF.o;have mE:=bR x;have Dj:(0:Int)<((x::xs).length:Int):=by simp only[List.length_cons];omega
   have rP:(1:Int)<=((x::xs).length:Int):=MbC;have rQ:(1:Int)<=(xs.length:Int)+1:=MbC;have gM:(1:Int)<=(cap:Int):=MbC;obtain⟨hT,hM⟩:=yH2 bG hm;generalize hks:zaf s x=ks at qF HK mE eV;have ka:=zHi hks;clear hks;have qb:=aA;have vn:=aL;have HG:=zHi hg;clear cn ia hx hg ae qv bG hm HF aL gu aA;have uT:Hid (cap=1->OwnS wr w.heap.size 9 1 sC (.slice (some ⟨g,o,none⟩) xs.length 0) xs):=fun e=>by
    have rN:xs=[]:=List.eq_nil_of_length_eq_zero (by simp at qb;omega);subst rN;exact .inr ⟨g,o,0,cur,rfl,ij,HG.o,Nat.le_refl _,Nat.zero_le _,by omega,fun j u hj=>by simp at hj⟩
   clear qb vn;go_upto_region 5 with fail
   go_cut [6]from 13 to 42 (fun v wc=>OwnS wr w.heap.size 9 1 sC v xs/\wr=wc)
   case first=>
    by_cases aj:cap=1
    ·go_wp2_with fail
     all_goals go_meet
     all_goals exact⟨uT.o aj,rfl⟩
    ·go_wp2_with fail
     all_goals go_meet
     all_goals exact⟨hT.o,rfl⟩
   case rest=>
    obtain⟨ae,rfl⟩:=hcut;clear hT uT BY;have cJ:=ae;obtain⟨QA,qc,rfl,BC,hQc⟩:=cJ.sl zbG;clear BC cJ;have HO:=zHi ae;clear ae;go_upto_region 7 with fail
    go_loopg [6,28] ks.length (fun gi v i wi=>∃(j:Nat) (out2 xs2:List ByteArray),j<=ks.length/\ks.length-j<=gi/\i=.int .i64 j/\OwnS wi w.heap.size 9 1 sC v xs2/\MapS wi w.heap.size ekS evB (outM out2)/\Below w.heap.size w wi/\w.heap.size+1<=wi.heap.size/\Hid (Look s nm x j out2 xs2)/\(s.children.length-out2.length)+xs2.length+1<=gk/\xs2.length<=out2.length)
    case atStart=>exact⟨0,out,xs,Nat.zero_le _,Nat.le_refl _,rfl,HO.o,hM.o,hB,hsz,pD,by simp at be;omega,by simp at bv;omega⟩
    case round=>
     obtain⟨j,out2,xs2,hj,bJ,rfl,iD,gz,bs,rC,dY,vE,rP⟩:=hrel;have hof:=out_few dY.o.nd dY.o.desc;by_cases aa:j<ks.length
     ·obtain⟨kb,koff,rfl,vM,qB⟩:=(HK.o wr bs).at aa;obtain⟨ch,sK⟩:∃ch,ch=ks[j]:=⟨_,rfl⟩
      have c9:wr.cell? ⟨kb,koff+j,none⟩=some (.string ch):=by rw[sK];have:=qB 0 _ rfl;simpa using this
      have kF:=zbh zml gz.at ch;rw[out_get]at kF;have qH:(Instr.lookup 103 (.map (some w.heap.size)) (.string ch) false).run Tryz.prog wr=.ok (.bool (out2.any (zag ch))) wr:=kF;clear kF;have dQ:(j:Int)<(ks.length:Int):=MbC;have sS:(0:Int)<=(j:Int):=MbC;have vI:j<(zaf s x).length:=by rw[ka.o];exact aa
      have qf:(zaf s x)[j]=ch:=by rw[sK];simp only[ka.o]
      obtain⟨om,zB,cK,ke⟩:=yH4 qf sK iD gz;clear qB sK qf iD gz;cases aB:out2.any (zag ch)
      ·have qT:ch∉out2:=fun h=>by rw[zgr.2 h]at aB;cases aB
       obtain⟨ba,oS⟩:=yH2 aB qT;rw[aB]at qH;clear aB qT;obtain⟨es,c00,te,CF⟩:=ke.o;have tV:=zHi te;clear te CF
       go_wp2_with (first
        |(at_mapUpdate;obtain⟨w1,ai,cO,bn,eG⟩:=zbY zml ke.o ch true;go_loud(refine zcB rfl _ _ _ rfl _ _ _ rfl rfl rfl w1 ai ?_))
        |(at_builtin;go_loud(refine zaG (v:=u6) (n:=xs2.length) (m:=1) rfl _ _ rfl zeE zbG zeD rfl ((cK.o.keptM bn tV.o).keep (n:=w1.heap.size) (zau (Below.refl _ _) _)) rfl rfl rfl (zdB (za3 _ _ _ eG.symm)) MbO MbC MbH ?_);intro v3 w3 h1 h2 h3))
       go_roundg (ks.length-(j+1))
       case measure=>omega
       case rel=>
        refine⟨j+1,out2++[ch],xs2++[ch],by omega,Nat.le_refl _,by go_num,h1,?_,?_,?_,?_,?_,?_⟩
        ·have AY:MapS (w1.alloc (.cells #[.string ch] 9)) w.heap.size ekS evB (outM (out2++[ch])):=by
          have:=cO.below (n:=w1.heap.size) (zau (Below.refl _ _) (.cells #[.string ch] 9));rwa [out_put oS.o]at this
         exact AY.grown h2 (fun e=>by
          have cS:OwnS w1 w.heap.size 9 1 sC _ xs2:=cK.o.keptM bn tV.o;obtain⟨es1,c01,vP,_⟩:=cO;rcases cS with⟨e1,_⟩|⟨g1,o1,cp1,cur1,e1,_,ql,_⟩
          ·rw[e1]at e;cases e
          ·rw[e1]at e;simp only[za1,Option.some.injEq]at e;subst e;rw[vP]at ql
           simp at ql)
        ·have fR:Below w.heap.size w (w1.alloc (.cells #[.string ch] 9)):=zau (bs.grown bn bs.size (fun k e=>by cases e;exact Nat.le_refl _)) _;exact fR.grown h2 fR.size (fun k e=>(cK.o.ge k e).1)
        ·have:=h2.size;simp at this;omega
        ·have:=zl5 dY.o vI (by rw[om.o];exact oS.o);rwa [om.o]at this
        ·have ca:=zl5 dY.o vI (by rw[om.o];exact oS.o);rw[om.o]at ca;have:=out_few ca.nd ca.desc;simp at this⊢;omega
        ·simp;omega
      ·have qT:ch∈out2:=zgr.1 aB;have oS:=zHi qT;rw[aB]at qH;clear aB qT;go_wp2_with fail
       go_roundg (ks.length-(j+1))
       case measure=>omega
       case rel=>exact⟨j+1,out2,xs2,by omega,Nat.le_refl _,by go_num,cK.o,ke.o,bs,rC,look_old dY.o vI (by rw[om.o];exact oS.o),vE,rP⟩
     ·have dQ:¬(j:Int)<(ks.length:Int):=MbC;have bZ:j=(zaf s x).length:=by rw[ka.o];omega
      have ox:Hid (Found s nm out2 xs2):=look_end (by rw[<-bZ];exact dY.o);clear bZ;go_wp2_with fail
      go_roundg ((s.children.length-out2.length)+xs2.length)
      case measure=>omega
      case rel=>exact⟨out2,xs2,iD,gz,bs,rC,ox,Nat.le_refl _,by omega⟩
open Classical in
theorem zge(base b:Nat)(s:St)(nm of:ByteArray)(w:World)(hW:PeoAt base w b s)(hl:s.children.length<=100000):
 Calls Tryz.prog 65 #[.pointer (some ⟨b,0,none⟩),.string nm,.string of] w (Ret w (.bool (decide (Desc s of nm)))):=by
 go_enter Tryz.func65,Tryz.ntmps65
 go_wp2_with (go_at_call 116
              refine(desc_any base b s of _ hW hl).mono ?_;rintro e wq ⟨out,rfl,hm,hf,hB⟩;have kF:(Instr.lookup 103 (.map (some w.heap.size)) (.string nm) false).run Tryz.prog wq=.ok (.bool (out.any (zag nm))) wq:=by
               have:=zbh zml hm.at nm;rw[out_get]at this
               exact this)
 go_ret
 refine Ret.of (zaW ?_) hB;rw[Bool.eq_iff_iff,zgr,decide_eq_true_eq];exact found_end hf nm
end
attribute [local go_sem] zah zac
theorem ix_step{gs:List Grave}{f:Grave->Bool}{k:Nat}(h:k<gs.length):((gs.drop k).findIdx? f).map (· +k)=if f gs[k]then some k else((gs.drop (k+1)).findIdx? f).map (· +(k+1)):=by
 rw[List.drop_eq_getElem_cons h,List.findIdx?_cons];split
 ·simp
 ·rw[Option.map_map];congr 1
  funext x
  show x+1+k=x+(k+1);omega
theorem ix_end{gs:List Grave}{f:Grave->Bool}{k:Nat}(h:gs.length<=k):((gs.drop k).findIdx? f).map (· +k)=none:=by
 rw[List.drop_eq_nil_of_le h];rfl
theorem ix_start(gs:List Grave)(f:Grave->Bool):gs.findIdx? f=((gs.drop 0).findIdx? f).map (· +0):=by
 rw[List.drop_zero];cases gs.findIdx? f<;>rfl
def zjz(ps:List Nat)(i:Option Nat):Value:=.pointer (i.map fun i=>⟨ps.getD i 0,0,none⟩)
theorem zih(base b:Nat)(s:St)(la co:Int)(place:ByteArray)(day:Int)(w:World){B ps:List Nat}{d c p wl r:Nat}{mv tv:Value}(hC:WldC w b d c p wl r mv tv la co)(hT:TombsAt base w B tv ps s.graves)(hl:s.graves.length<=100000):
 Calls Tryz.prog 48 #[.pointer (some ⟨b,0,none⟩),.string place,.int .i64 day] w (Ret w (zjz ps (zaH s place day))):=by
 obtain⟨A,cc,rfl,hS,ah⟩:=hT.own.sl zc4;have hb:=zad hC;unfold WldC at hC;have c6:w.cell? ⟨b,6,none⟩=some (.slice A ps.length cc):=by simp[World.cell?,hC]
 have gy:=hT.len;obtain⟨HT,HS⟩:=yH2 hT.all hS;clear hC hT hS;have hR:zaH s place day=((s.graves.drop 0).findIdx? fun g=>zag g.place place&&zaE g day).map (· +0):=ix_start _ _;generalize zaH s place day=R at*;generalize s.graves=gs at*;have HR:=zHi hR;clear hR;go_enter Tryz.func48,Tryz.ntmps48
 go_wp2_with fail
 go_loopw [14] (fun i wr=>∃k:Nat,k<=ps.length/\i=.int .i64 k/\Hid (R=((gs.drop k).findIdx? fun g=>zag g.place place&&zaE g day).map (· +k))/\∃z,wr=w.ext z) (fun i _=>ps.length-(intOf i).toNat)
 case atStart=>exact⟨0,Nat.zero_le _,rfl,HR.o,zaM (Below.refl _ _)⟩
 case round=>
  obtain⟨k,hk,rfl,HX,z,rfl⟩:=hrel;by_cases aa:k<ps.length
  ·obtain⟨b',off,rfl,bE,hc⟩:=(HS.o.keep (za5 w z)).at aa;have cm:k<gs.length:=MbC;obtain⟨H,ar,D,dc,fr,t1,t2,t3,t4,t5,t6,t7⟩:=(HT.o k _ _ (List.getElem?_eq_getElem aa) (List.getElem?_eq_getElem cm)).keep (za5 w z);have am:=HX.o.trans (ix_step cm);have bO:=zHi am;have eE:ps.getD k 0=ps[k]:=Mb5;have An:=zHi eE;clear am eE t5 t6 t7;generalize ps[k]=T at*;generalize gs[k]=g at*;have bD:=zad t1;unfold zbe at t1;have k0:(w.ext z).cell? ⟨T,0,none⟩=some (.string g.place):=McM;have k3:(w.ext z).cell? ⟨T,3,none⟩=some (.int .i64 g.fin):=McM;have k4:(w.ext z).cell? ⟨T,4,none⟩=some (.slice H g.holders.length ar):=McM;have cp:(w.ext z).cell? ⟨b',off+k,none⟩=some (.pointer (some ⟨T,0,none⟩)):=Mci;obtain⟨K3,K4⟩:=yH2 k3 k4;have ao:(k:Int)<(ps.length:Int):=MbC;have bf:(0:Int)<=(k:Int):=MbC;clear t1 hc k3 k4;go_wp2_with (go_at_call 107;refine(zgX g H ar T day _ K3.o K4.o).mono ?_;intro e wq hq;rcases Ret.bools hq with⟨zq,rfl,⟨hb,rfl⟩|⟨hb,rfl⟩⟩<;>clear hq)
   all_goals first
    |(go_ret
      have BD:R=some k:=by rw[bO.o];simp[zdu,zdH, *]
      rw[BD];refine Ret.of ?_ Bw;show _=Value.pointer (some ⟨ps.getD k 0,0,none⟩);rw[An.o]
      rfl)
    |(go_round
      case rel=>exact⟨k+1,by omega,by go_num,(by rw[bO.o];simp[zdu,zdH, *]:_=_),zaM Bw⟩
      case measure=>simp[intOf];omega)
  ·have ao:¬(k:Int)<(ps.length:Int):=MbC;have he:=HX.o.trans (ix_end (f:=fun g=>zag g.place place&&zaE g day) (by omega:gs.length<=k));have HE:=zHi he;clear he;go_wp2_with fail
   go_ret
   exact Ret.of (by rw[HE.o];rfl) Bw
theorem TombAt.kept{base k T:Nat}{W W':World}{B:List Nat}{g:Grave}{cs:Array Value}{t:TypeId}{fr:Nat×Nat}(h:TombAt W base B T g)(hg:W.grownBy W' (some k))(hx:W.heap[k]?=some (.cells cs t fr))(ag:T≠k)(h1:t≠59)(h2:t≠9):TombAt W' base B T g:=by
 obtain⟨H,hc,D,dc,fr',t1,t2,t3,t4,t5,t6,t7⟩:=h;exact⟨H,hc,D,dc,fr',(hg.block T (zad t1) (fun e=>ag Mcn)).trans t1,t2,t3,t4,t5.kept hg hx h1,t6.kept hg hx h2,t7⟩
theorem TombAt.ne{base k T:Nat}{W:World}{B:List Nat}{g:Grave}{cs:Array Value}{t:TypeId}{fr:Nat×Nat}(h:TombAt W base B T g)(hx:W.heap[k]?=some (.cells cs t fr))(h1:t≠114):T≠k:=by
 obtain⟨H,hc,D,dc,fr',t1,t2,_⟩:=h;rintro rfl;rw[t1]at hx;simp only[Option.some.injEq,Obj.cells.injEq]at hx;exact h1 hx.2.1.symm
theorem TombsAt.mem{base:Nat}{W:World}{B ps:List Nat}{tv:Value}{gs:List Grave}(h:TombsAt base W B tv ps gs){T:Nat}(hT:T∈ps):∃g,TombAt W base B T g:=by
 obtain⟨i,hi,rfl⟩:=List.getElem_of_mem hT;exact⟨_,h.all i _ _ (List.getElem?_eq_getElem hi) (List.getElem?_eq_getElem (by have:=h.len;omega))⟩
theorem TombsAt.lt{base:Nat}{W:World}{B ps:List Nat}{tv:Value}{gs:List Grave}(h:TombsAt base W B tv ps gs){T:Nat}(hT:T∈ps):T<W.heap.size:=by
 obtain⟨g,H,hc,D,dc,fr',t1,_⟩:=h.mem hT;exact zad t1
theorem TombsAt.kept{base k:Nat}{W W':World}{B ps:List Nat}{tv:Value}{gs:List Grave}{cs:Array Value}{t:TypeId}{fr:Nat×Nat}(h:TombsAt base W B tv ps gs)(hg:W.grownBy W' (some k))(hx:W.heap[k]?=some (.cells cs t fr))(h1:t≠59)(h2:t≠9)(h3:t≠114)(h4:t≠112):TombsAt base W' B tv ps gs:=
 ⟨h.own.kept hg hx h4,h.len,h.nd,fun i T g e1 e2=>(h.all i T g e1 e2).kept hg hx ((h.all i T g e1 e2).ne hx h3) h1 h2⟩
theorem wldC_set6{W:World}{b d c p wl r:Nat}{mv tv:Value}{la co:Int}(h:WldC W b d c p wl r mv tv la co)(v':Value):WldC (W.setCell ⟨b,6,none⟩ v') b d c p wl r mv v' la co:=by
 unfold WldC at*;have:=Joins.block_setCell (i:=6) h v';simpa using this
theorem wld_push{base b:Nat}{W w1:World}{B ps:List Nat}{d c p wl r T:Nat}{mv tv v':Value}{s:St}{g:Grave}{la co:Int}(hb:base<=b)(hC:WldC W b d c p wl r mv tv la co)(hP:PplAt base W B d c p wl r mv s)(hT:TombsAt base W B tv ps s.graves)
 (hN:TombAt W base B T g)(hn:T∉ps)(h1:OwnS w1 base 112 1 ptrC v' (ps++[T]))(h2:W.grownBy w1 (za1 tv))(h3:∀k,za1 v'=some k->za1 tv=some k\/W.heap.size<=k):
 WldAt base (w1.setCell ⟨b,6,none⟩ v') b {s with graves:=s.graves++[g]} la co/\WldC w1 b d c p wl r mv tv la co:=by
 have bu:=zad hC;have ae:=hT.own;have aL:∀k,za1 tv=some k->∃cs fr,W.heap[k]?=some (.cells cs 112 fr):=fun k hk=>by
  exact Mav
 have ft:za1 tv≠some b:=fun e=>by
  obtain⟨cs,fr,hx⟩:=aL b e;exact Mbd
 have bt:WldC w1 b d c p wl r mv tv la co:=(h2.block b bu (fun e=>ft e.symm)).trans hC;have pL:PplAt base w1 B d c p wl r mv s:=by
  cases hk:za1 tv with
  |none=>rw[hk]at h2;exact hP.keep (n:=W.heap.size) ⟨h2.os,h2.tape,h2.output,h2.size,fun i hi=>h2.block i hi MbF⟩
  |some k=>
   obtain⟨cs,fr,hx⟩:=aL k hk;rw[hk]at h2;exact hP.kept h2 hx MbD MbD MbD
 have aE:∀ {T':Nat} {g':Grave},TombAt W base B T' g'->TombAt w1 base B T' g':=fun {T' g'} h=>by
  cases hk:za1 tv with
  |none=>rw[hk]at h2;exact h.keep (n:=W.heap.size) ⟨h2.os,h2.tape,h2.output,h2.size,fun i hi=>h2.block i hi MbF⟩
  |some k=>
   obtain⟨cs,fr,hx⟩:=aL k hk;rw[hk]at h2;exact h.kept h2 hx (h.ne hx MbD) MbD MbD
 refine⟨?_,bt⟩;have aw:=zay w1 b 6 v';refine⟨B,d,c,p,wl,r,mv,v',ps++[T],hb,wldC_set6 bt v',?_,?_⟩
 ·have:=pL.kept aw bt MbD MbD MbD;exact⟨this.nd,this.ge,this.dead,this.rows,this.marr,this.wills,this.ren⟩
 ·refine⟨h1.kept aw bt MbD,by simp[hT.len],?_,fun i T' g' e1 e2=>?_⟩
  ·rw[List.nodup_append];exact⟨hT.nd,by simp,fun a ha b' bE e=>by rw[List.mem_singleton.1 bE]at e;exact hn (e▸ha)⟩
  ·have dh:TombAt w1 base B T' g':=by
    by_cases hi:i<ps.length
    ·have Ck:i<s.graves.length:=by have:=hT.len;omega
     rw[List.getElem?_append_left hi]at e1;rw[List.getElem?_append_left Ck]at e2;exact aE (hT.all i T' g' e1 e2)
    ·have yz:i=ps.length:=by have:=(List.getElem?_eq_some_iff.1 e1).1;simp at this;omega
     subst yz;simp at e1;rw[hT.len]at e2;simp at e2;subst e1 e2;exact aE hN
   exact dh.kept aw bt (dh.ne bt MbD) MbD MbD
def KeepD(w w':World):Prop:= ∀(k:Nat) (cur:Array Value) (fr:Nat×Nat),w.heap[k]?=some (.cells cur 28 fr)->w'.heap[k]?=w.heap[k]?
section
variable {w w' w2:World}
theorem KeepD.below(h:Below w.heap.size w w'):KeepD w w':=fun k _ _ hk=>h.block k (zad hk)
theorem KeepD.trans(h:KeepD w w')(h2:KeepD w' w2):KeepD w w2:=fun k cur fr hk=>by
 have e:=h k cur fr hk;exact(h2 k cur fr (e.trans hk)).trans e
theorem KeepD.cells{g:Nat}{cs:Array Value}{t:TypeId}{fr:Nat×Nat}(hg:w.grownBy w' (some g))(hx:w.heap[g]?=some (.cells cs t fr))(ag:t≠28):KeepD w w':=fun k cur f hk=>
 hg.block k (zad hk) (fun e=>by
  simp only[Option.some.injEq]at e;subst e;rw[hx]at hk;simp only[Option.some.injEq,Obj.cells.injEq]at hk
  exact ag hk.2.1)
theorem KeepD.map{g:Nat}{es:Array MapEntry}{c:Nat}(hg:w.grownBy w' (some g))(hx:w.heap[g]?=some (.map es c)):KeepD w w':=fun k cur f hk=>
 hg.block k (zad hk) (fun e=>by
  simp only[Option.some.injEq]at e;subst e;rw[hx]at hk
  simp at hk)
theorem KeepD.own{α:Type}{base:Nat}{e:TypeId}{size:Nat}{f:α->List Value}{v:Value}{xs:List α}(h:OwnS w base e size f v xs)(hg:w.grownBy w' (za1 v))(ag:e≠28):KeepD w w':=by
 rcases h with⟨rfl,_⟩|⟨g,o,c,cur,rfl,_,hx,_⟩
 ·exact fun k cur f hk=>hg.block k (zad hk) (by simp[za1])
 ·exact KeepD.cells hg hx ag
end
def zbr(base b:Nat)(x:St×Int)(la co:Int)(w:World)(e:Ending)(w':World):Prop:=
 e=.returned (.int .i64 x.2)/\WldAt base w' b x.1 la co/\Below base w w'/\KeepD w w'
def Deed.v(d:Deed)(B:Option Addr)(c:Nat):Value:=.agg #[.int .i64 d.kind,.int .i64 d.day,.string d.place,.string d.frm,.slice B d.to.length c,.int .i64 d.cls,.int .i64 d.years]
theorem zhl{p:RPart}(h:za2 16 p.num p.den=true):p.rat.num=p.num/\(p.rat.den:Int)=p.den:=⟨(zbo h).1,(zbo h).2.1⟩
theorem zmz(l:List RPart){k:Nat}(h:k<l.length):zbc (l.take (k+1)) []=za6 (zbc (l.take k) []) l[k].name l[k].rat:=by
 rw[List.take_succ_eq_append_getElem h];unfold zbc;rw[List.foldl_append];rfl
theorem sl_ptr{w:World}{b T:Nat}{t:TypeId}{fr:Nat×Nat}(h:w.heap[b]?=some (.cells #[.pointer (some ⟨T,0,none⟩)] t fr)):Sl w 1 ptrC (some ⟨b,0,none⟩) [T]:=fun _=>⟨b,0,rfl,zad h,fun k y hy j u hu=>by
 have hk:k=0:=MbK;subst hk;simp only[List.getElem?_cons_zero,Option.some.injEq]at hy;subst hy;match j,hu with
 |0,hu=>simp[ptrC]at hu;simp[World.cell?,h,<-hu]
 |j+1,hu=>simp[ptrC]at hu⟩
theorem zgf:∀ {l:List RPart} {out:Parts} {seen:List ByteArray},zda l seen=true->(∀p∈out,p.1∈seen)->∀k (h:k<l.length),zab (zbc (l.take k) out) l[k].name=0
 | [],_,_,_,_,_,h=>absurd h MbF
 |p::l,out,seen,hf,ho,0,_=>by
  rw[zda,Bool.and_eq_true]at hf;have h1:p.name∉seen:=by
   have:=hf.1;simp only[Bool.not_eq_true']at this;intro h;rw[zgr.2 h]at this;cases this
  exact(zcw fun q hq e=>h1 (by have e':q.1=p.name:=e;rw[<-e'];exact ho q hq)).1
 |p::l,out,seen,hf,ho,k+1,h=>by
  rw[zda,Bool.and_eq_true]at hf
  exact zgf (l:=l) (out:=za6 out p.name p.rat) hf.2 (fun q hq=>by
   rcases zgM hq with e|hq
   ·rw[e];simp
   ·exact List.mem_cons_of_mem _ (ho q hq)) k McB
theorem zb0{base b:Nat}{s:St}{x:St×Int}{la co er:Int}{w w':World}(hW:WldAt base w b s la co)(hB:Below w.heap.size w w')(hx:x=(s,er)):zbr base b x la co w (.returned (.int .i64 er)) w':=by
 rw[hx];exact⟨rfl,hW.keep hB,hB.mono (by have:=hW.lt;omega),KeepD.below hB⟩
theorem zkG{shares all:Bool}{frm:ByteArray}{l:List RPart}(h:zc1 shares all frm l=true):zda l []=true/\∀p∈l,zag p.name frm=false:=by
 unfold zc1 at h;simp only[Bool.and_eq_true,List.all_eq_true,Bool.not_eq_true']at h;exact⟨h.1.1,h.1.2⟩
theorem set_lit(base T:Nat)(xs:Parts)(v:Value)(pl:ByteArray)(cl fr en:Int)(dv:Value)(p:RPart)(w:World)(hp:za2 16 p.num p.den=true)(hT:zbe w T pl cl fr en v dv)(mj:base<=T)(ae:OwnS w base 59 3 zaa v xs)(hA:AscP xs)(hl:xs.length<=90000):
 Calls Tryz.prog 145 #[.pointer (some ⟨T,0,none⟩),.string p.name,.agg #[.int .i64 p.num,.int .i64 p.den]] w (zi8 w base T pl cl fr en dv v (setP xs p.name p.rat)):=by
 have h:=zha base T xs v pl cl fr en dv p.name p.rat w hT mj ae hA hl;rw[(zhl hp).1,(zhl hp).2]at h;exact h
theorem good_take{l:List RPart}(h:∀p∈l,0<p.rat/\IsN 720720 p.rat/\za2 16 p.num p.den=true)(k:Nat):GoodParts (zbc (l.take k) []):=
 (zgR (l:=l.take k) zcU MbF fun p hp=>⟨(h p (List.mem_of_mem_take hp)).1,(h p (List.mem_of_mem_take hp)).2.1⟩).1
theorem zfu(n:ByteArray)(q:Rat):∀l:Parts,(za6 l n q).length<=l.length+1
 | []=>by unfold za6;split<;>simp
 |p::l=>by
  have:=zfu n q l;unfold za6;split
  ·simp
  ·split
   ·simpa using this
   ·split<;>simp<;>omega
theorem zel:∀(l:List RPart) (out:Parts),(zbc l out).length<=out.length+l.length
 | [],out=>by simp[zbc]
 |p::l,out=>by
  have h1:=zel l (za6 out p.name p.rat);have h2:=zfu p.name p.rat out;show(zbc l (za6 out p.name p.rat)).length<=_;simp;omega
theorem grant_any(base b:Nat)(s:St)(la co:Int)(d:Deed)(B:Option Addr)(c:Nat)(w:World)(hW:WldAt base w b s la co)(hL:LensIn w)(hd:OkD d)(hk:d.kind=0)(af:s.graves.length<=1000)(aj:d.to.length<=c)(hS:Sl w 3 RPart.cells B d.to):
 Calls Tryz.prog 96 #[.pointer (some ⟨b,0,none⟩),d.v B c] w (zbr base b (zdb s d) la co w):=by
 have aF:=hW;obtain⟨Bk,dd,cc,pp,wl,rr,mv,tv,ps,ax,hC,hP,hT⟩:=hW;have hp:=(hd.parts (.inl hk)).2;have cd:=(zfe hp).1;have sN:=(zkG hp).1;have kw:=hd.day;have ip:=hd.years;have aZ:=hd.len;clear hp hd hk;obtain⟨kd,dy,pl,fr,ts,cl,yr⟩:=d;simp only at*;have bu:=zad hC;obtain⟨ba,oc,aq,HW,hJ,zI,HC,HP⟩:=yH8 (fun W (hB:Below w.heap.size w W)=>zih base b s la co pl dy W (hC.keep hB) (hT.keep hB) MbC) (fun W (hB:Below w.heap.size w W)=>zhb base b s ts B _ c W rfl MbC (aF.peo.keep hB) (hS.keep hB)) (fun W (hB:Below w.heap.size w W)=>zif dy yr W (hL.keep hB) kw.1 kw.2 ip.1 ip.2) aF cd sN hC hP;obtain⟨HT,HS⟩:=yH2 hT hS;clear aF hC hP hT hS cd sN hL;unfold Deed.v;simp only;go_enter Tryz.func96,Tryz.ntmps96
 go_upto_block 0 with fail
 cases ap:zaH s pl dy with
 |some i=>
  rw[ap]at ba;have HG:Hid (zdb s ⟨kd,dy,pl,fr,ts,cl,yr⟩=(s,13)):=by show _=_;simp[zdb,ap]
  clear ap;go_wp2_with (go_at_call 48;refine(ba.o _ Bw).mono ?_;rintro e wq ⟨rfl,z,rfl⟩;simp only[zjz,Option.map_some])
  go_ret
  exact zb0 HW.o Bw HG.o
 |none=>
  rw[ap]at ba;have gH:=zHi ap;clear ap;go_cut [5]from 9 (fun v wc=>v=.int .i64 (if decide (0<yr)then zc9 dy yr else-1)/\Hid (zdb s ⟨kd,dy,pl,fr,ts,cl,yr⟩=({s with graves:=s.graves++[⟨pl,cl,if decide (0<yr)then zc9 dy yr else-1,zbc ts [],[]⟩]},0))/\Below w.heap.size w wc/\w.heap.size<wc.heap.size/\wc.heap[w.heap.size]?=some (.cells #[.int .i64 kd,.int .i64 dy,.string pl,.string fr,.slice B ts.length c,.int .i64 cl,.int .i64 yr] 28))
  case first=>
   generalize hR:zc9 dy yr=R at*;have HR:=zHi hR;clear hR
   go_wp2_with (first
    |(go_at_call 48;refine(ba.o _ Bw).mono ?_;rintro e wq ⟨rfl,z,rfl⟩;simp only[zjz,Option.map_none])
    |(go_at_call 143;refine(oc.o _ Bw).mono ?_;intro e wq hq;rcases Ret.bools hq with⟨zq,rfl,⟨hb,rfl⟩|⟨hb,rfl⟩⟩<;>clear hq)
    |(go_at_call 144;refine(aq.o _ Bw).mono ?_;rintro e wq ⟨rfl,z2,rfl⟩))
   all_goals first
    |(go_ret
      exact zb0 HW.o Bw (by simp[zdb,gH.o,HR.o, *]))
    |(go_meet
      refine⟨(by first|(simp[*];done)|(simp[*];omega)),(by first|(simp[zdb,gH.o,HR.o, *];done)|(simp[zdb,gH.o,HR.o, *];omega):_=_),Bw,by simp[zae];omega,?_⟩
      repeat(first|exact za3 _ _ _ rfl|with_reducible refine zbZ ?_|with_reducible refine zal ?_))
  case rest=>
   obtain⟨rfl,HG,hB,hsz,g0⟩:=hcut;generalize(if decide (0<yr)=true then zc9 dy yr else-1)=en at*;clear ba oc aq;obtain⟨d0,d1,d2,d3,d4,d5,d6⟩:=cF7 g0;have ag:w.heap.size≠wc.heap.size:=MbC;have mj:base<=wc.heap.size:=MbC;have dq:wc.heap.size∉ps:=fun h=>by have:=HT.o.lt h;omega
   have G0:=zHi g0;clear g0;go_wp2_with fail
   go_loopw [45] (fun i wr=>∃(k:Nat) (v:Value),k<=ts.length/\i=.int .i64 k/\zbe wr wc.heap.size pl cl dy en v (.slice none 0 0)/\OwnS wr wc.heap.size 59 3 zaa v (zbc (ts.take k) [])/\Below wc.heap.size wc wr) (fun i _=>ts.length-(intOf i).toNat)
   case atStart=>exact⟨0,.slice none 0 0,Nat.zero_le _,rfl,za3 _ _ _ rfl,OwnS.nil,Bw⟩
   case round=>
    obtain⟨k,v,hk,rfl,pQ,pJ,iS⟩:=hrel;have lT:Below w.heap.size w wr:=hB.trans (iS.mono MbC);have rM:=iS.size;have bD:=zad pQ;have aQ:=good_take hJ.o k;have cm:=zel (ts.take k) [];have Cf:(ts.take k).length<=8:=Mcj;have wO:=zHi aQ;simp only[List.length_nil,Nat.zero_add]at cm;clear aQ;by_cases aa:k<ts.length
    ·obtain⟨b',off,rfl,bE,hc⟩:=(HS.o.keep lT).at aa;have cf:=zgf (out:=[]) zI.o MbF k aa;have fU:=hJ.o ts[k] (List.getElem_mem aa);have aw:=zmz ts aa;generalize ts[k]=p at*;obtain⟨pn,pu,pd⟩:=p;have h0:wr.cell? ⟨b',off+k*3,none⟩=some (.string pn):=hc 0 _ rfl;have h1:wr.cell? ⟨b',off+k*3+1,none⟩=some (.int .i64 pu):=hc 1 _ rfl;have h2:wr.cell? ⟨b',off+k*3+2,none⟩=some (.int .i64 pd):=hc 2 _ rfl;have HN:Hid (setP (zbc (ts.take k) []) pn (RPart.rat ⟨pn,pu,pd⟩)=zbc (ts.take (k+1)) []):=by
      show _=_;have:=zgU wO.o (n:=pn) (q:=RPart.rat ⟨pn,pu,pd⟩) (by have:=fU.1;grind);simp only at cf;rw[cf,Rat.zero_add]at this;rw[this,aw]
     have dw:=zHi (fun W (eP:Below wr.heap.size wr W)=>set_lit wc.heap.size wc.heap.size (zbc (ts.take k) []) v pl cl dy en (.slice none 0 0) ⟨pn,pu,pd⟩ W fU.2.2 ((eP.block _ bD).trans pQ) (Nat.le_refl _) (pJ.keep eP) wO.o.asc MbC);have ao:(k:Int)<(ts.length:Int):=MbC;have bf:(0:Int)<=(k:Int):=MbC;have eV:(k:Int)<=(c:Int):=MbC;clear hc cf fU aw pQ pJ;go_wp2_with (go_at_call 145;refine(dw.o _ Bw).mono ?_;rintro e wq ⟨rfl,v',t1,t2,t3,_⟩)
     go_round
     case rel=>exact⟨k+1,v',by omega,by go_num,t1,by rw[<-HN.o];exact t2,Below.trans Bw t3⟩
     case measure=>simp[intOf];omega
    ·have ao:¬(k:Int)<(ts.length:Int):=MbC;rw[List.take_of_length_le MbC]at pJ;obtain⟨HA,BP,rfl,sZ,gB⟩:=pJ.ro;have hN:TombAt wr base Bk wc.heap.size ⟨pl,cl,en,zbc ts [],[]⟩:=⟨HA,BP,none,0,dy,pQ,mj,sZ,Nat.le_refl _,gB,Ro.nil,by simp⟩
     have HN:=zHi hN;have sr:WldC wr b dd cc pp wl rr mv tv la co:=HC.o.keep lT;unfold WldC at sr;obtain⟨-,-,-,-,-,-,c6⟩:=cF7 sr;have vh:b<wr.heap.size:=zad sr;have gR:ps.length<=1000:=by rw[HT.o.len];exact af
     have bI:=HT.o.own.ge;have tL:=zHi bI;clear pQ pJ gB hN sr bI
     go_wp2_with (at_builtin
                  go_loud(refine zaG (v:=tv) (n:=ps.length) (m:=1) rfl _ _ rfl elTomb zc4 zl3 rfl (HT.o.own.keep (n:=w.heap.size) Bw) rfl rfl rfl (sl_ptr (za3 _ _ _ rfl)) MbO MbC MbH ?_)
                  intro v3 w3 h1 h2 h3;obtain⟨A3,q3,zg,_,_⟩:=h1.sl zc4;rw[List.length_append]at zg;subst zg;go_loud(obtain⟨kN,il⟩:=wld_push ax (HC.o.keep (n:=w.heap.size) Bw) (HP.o.keep (n:=w.heap.size) Bw) (HT.o.keep (n:=w.heap.size) Bw) (HN.o.keep (n:=wr.heap.size) Bw) dq h1 h2 h3)
                  have Ap:=zHi kN;go_loud(have bW:=Below.grown (B:=base) (a:=w) (Below.mono (B:=w.heap.size) Bw MbC) h2 MbH (fun j hj=>(tL.o j hj).1))
                  go_loud(have bQ:=((KeepD.below (w:=w) Bw).trans (KeepD.own (HT.o.own.keep (n:=w.heap.size) Bw) h2 MbD)).trans (KeepD.cells (zay w3 b 6 (.slice A3 (ps.length+[wc.heap.size].length) q3)) il MbD))
                  have jZ:=zHi bQ;unfold WldC at il;have k6:w3.cell? ⟨b,6,none⟩=some tv:=(by simp only[World.cell?,il];rfl)
                  have f6:w3.frozen? ⟨b,6,none⟩=false:=(by simp only[World.frozen?,il];rfl)
                  have bw:=zHi bW
                  clear kN il bW h1 h2 h3 bQ)
     go_ret
     rw[HG.o];exact⟨rfl,Ap.o,zaU bw.o ax _,jZ.o⟩
def zem{α:Type}(w:World)(e:TypeId)(size:Nat)(f:α->List Value)(xs:List α)(en:Ending)(w':World):Prop:=
 ∃v,en=.returned v/\OwnS w' w.heap.size e size f v xs/\Below w.heap.size w w'
theorem zdM(xs:List (ByteArray×Rat))(L:Option Addr)(n lc:Nat)(w:World)(hn:n=xs.length)(hl:xs.length<=100000)(hS:Sl w 3 zaa L xs):
 Calls Tryz.prog 68 #[.slice L n lc] w (zem w 59 3 zaa xs):=by
 have HM:=zHi hn;have q22:∀(w:World) (a:Option Addr) (n c n' c':Nat),(binOp .eql 26 (.slice a n c) (.slice none n' c')).run Tryz.prog w=.ok (.bool a.isNone) w:=fun w a n c n' c'=>Lib.run_eql_slice_nil w _ _ a n c n' c' Tryz.underlying26
 clear hn;go_enter Tryz.func68,Tryz.ntmps68
 cases L with
 |none=>
  exact Ms
 |some ad=>
  go_wp2_with (at_builtin;refine zbN rfl _ _ rfl zgZ za0 zdn rfl (World.ownsRow_made w #[] 0 (Nat.le_refl _) (Nat.zero_le _) MbF) rfl HM.o (hS.keep Bw) ?q1 ?q2 MbF ?_)
  case q1=>simp[maxLen,HM.o];omega
  case q2=>simp[HM.o];omega
  intro v' w' h1 h2 h3;go_wp2_with fail
  go_ret
  refine⟨v',rfl,OwnS.of_own za0 Mcs,Below.grown Bw h2 MbF Mb1⟩
theorem zj0(xs:List ByteArray)(L:Option Addr)(n lc:Nat)(w:World)(hn:n=xs.length)(hl:xs.length<=100000)(hS:Sl w 1 sC L xs):
 Calls Tryz.prog 152 #[.slice L n lc] w (zem w 9 1 sC xs):=by
 have HM:=zHi hn;have q22:∀(w:World) (a:Option Addr) (n c n' c':Nat),(binOp .eql 32 (.slice a n c) (.slice none n' c')).run Tryz.prog w=.ok (.bool a.isNone) w:=fun w a n c n' c'=>Lib.run_eql_slice_nil w _ _ a n c n' c' Tryz.underlying32
 clear hn;go_enter Tryz.func152,Tryz.ntmps152
 cases L with
 |none=>
  exact Ms
 |some ad=>
  go_wp2_with (at_builtin;refine zbN rfl _ _ rfl zeE zbG zeD rfl (World.ownsRow_made w #[] 0 (Nat.le_refl _) (Nat.zero_le _) MbF) rfl HM.o (hS.keep Bw) ?q1 ?q2 MbF ?_)
  case q1=>simp[maxLen,HM.o];omega
  case q2=>simp[HM.o];omega
  intro v' w' h1 h2 h3;go_wp2_with fail
  go_ret
  refine⟨v',rfl,OwnS.of_own zbG Mcs,Below.grown Bw h2 MbF Mb1⟩
def MarkAt(W:World)(C:Nat)(f:Bool):Prop:=W.heap[C]?=some (.cells #[.bool f] 143)
theorem MarkAt.drew{W:World}{C:Nat}{f:Bool}(h:MarkAt W C f):MarkAt W.drew C f:=h
theorem MarkAt.ext{W:World}{C:Nat}{f:Bool}(h:MarkAt W C f)(z:Ez):MarkAt (W.ext z) C f:=zbZ h
theorem MarkAt.alloc{W:World}{C:Nat}{f:Bool}(h:MarkAt W C f)(o:Obj):MarkAt (W.alloc o) C f:=zal h
theorem MarkAt.keep{n:Nat}{W W':World}{C:Nat}{f:Bool}(h:MarkAt W C f)(hB:Below n W W')(hn:C<n):MarkAt W' C f:=(hB.block C hn).trans h
theorem MarkAt.grown{W W':World}{C:Nat}{f:Bool}{k:Nat}(h:MarkAt W C f)(hg:W.grownBy W' (some k))(hn:C≠k):MarkAt W' C f:=(hg.block C (zad h) (fun e=>hn Mcn)).trans h
theorem za4{n b o:Nat}{w W:World}(h:Below n w W)(hb:b<n):W.cell? ⟨b,o,none⟩=w.cell? ⟨b,o,none⟩:=h.cell (p:=⟨b,o,none⟩) hb
theorem zaN{k b o:Nat}{w W:World}(h:w.grownBy W (some k))(hb:b<w.heap.size)(hk:b≠k):W.cell? ⟨b,o,none⟩=w.cell? ⟨b,o,none⟩:=
 World.cell?_of_block (w:=w) (h.block b hb (fun e=>hk Mcn))
def zdN(w:World)(C:Nat)(f:Bool)(r:Rat)(e:Ending)(w':World):Prop:=
 e=.returned (za9 (zaQ r))/\MarkAt w' C (f||bigQ r)/\w.grownBy w' (some C)
theorem zj1(w:World)(z:Ez)(row:Option Nat):w.grownBy (w.ext z) row:=zjd (zcW w row) z
theorem zhm{w w':World}{C:Nat}{f:Bool}{r:Rat}{e:Ending}(hC:MarkAt w C f)(h:zdG w C r e w'):zdN w C f r e w':=by
 unfold MarkAt at hC;rcases h with⟨hd,rfl,z,rfl⟩|⟨hd,rfl,z,rfl⟩
 ·have hb:bigQ r=false:=by unfold bigQ;simp;omega
  refine⟨by rw[zef hb],?_,zj1 _ _ _⟩;rw[hb,Bool.or_false];exact zbZ hC
 ·have hb:bigQ r=true:=by unfold bigQ;simp;omega
  refine⟨by unfold zaQ;rw[hb];rfl,?_,zjd (zay _ _ _ _) z⟩;rw[hb,Bool.or_true];refine zbZ ?_;have:=Joins.block_setCell (i:=0) hC (.bool true);simpa using this
theorem zb7{w:World}{C:Nat}{f:Bool}(hC:MarkAt w C f):w.cell? ⟨C,0,none⟩=some (.bool f)/\C<w.heap.size/\w.frozen? ⟨C,0,none⟩=false:=by
 have h:=zad hC;unfold MarkAt at hC;exact⟨by simp[World.cell?,hC],h,by simp[World.frozen?,hC]⟩
theorem zg2(C:Nat)(f:Bool)(w:World)(hC:MarkAt w C f)(p q:Rat)(hp:zaD p)(hq:zaD q):Calls Tryz.prog 148 #[.pointer (some ⟨C,0,none⟩),za9 p,za9 q] w (zdN w C f (p*q)):=
 (cmul5_any C f w (zb7 hC).1 (zb7 hC).2.1 (zb7 hC).2.2 p q hp hq).mono fun _ _ h=>zhm hC h
theorem zg3(C:Nat)(f:Bool)(w:World)(hC:MarkAt w C f)(p q:Rat)(hp:zaD p)(hq:zaD q):Calls Tryz.prog 73 #[.pointer (some ⟨C,0,none⟩),za9 p,za9 q] w (zdN w C f (p+q)):=
 (cadd5_any C f w (zb7 hC).1 (zb7 hC).2.1 (zb7 hC).2.2 p q hp hq).mono fun _ _ h=>zhm hC h
theorem zlB(C:Nat)(f:Bool)(w:World)(hC:MarkAt w C f)(p q:Rat)(hp:zaD p)(hq:zaD q)(h0:0<q):Calls Tryz.prog 149 #[.pointer (some ⟨C,0,none⟩),za9 p,za9 q] w (zdN w C f (p/q)):=
 (cquo5_any C f w (zb7 hC).1 (zb7 hC).2.1 (zb7 hC).2.2 p q hp hq h0).mono fun _ _ h=>zhm hC h
theorem zhn{base b i T:Nat}{W W':World}{B ps:List Nat}{d c p wl r:Nat}{mv tv:Value}{s:St}{g':Grave}{la co:Int}{cs:Array Value}{fr:Nat×Nat}(hb:base<=b)(hC:WldC W b d c p wl r mv tv la co)(hP:PplAt base W B d c p wl r mv s)(hT:TombsAt base W B tv ps s.graves)
 (hi:ps[i]?=some T)(hx:W.heap[T]?=some (.cells cs 114 fr))(hg:W.grownBy W' (some T))(hN:TombAt W' base B T g'):WldAt base W' b (s.withGrave i g') la co:=by
 have mj:b≠T:=fun e=>by
  subst e;exact Mbd
 have bm:WldC W' b d c p wl r mv tv la co:=(hg.block b (zad hC) (fun e=>mj Mcn)).trans hC;refine⟨B,d,c,p,wl,r,mv,tv,ps,hb,bm,?_,?_⟩
 ·have:=hP.kept hg hx MbD MbD MbD;exact⟨this.nd,this.ge,this.dead,this.rows,this.marr,this.wills,this.ren⟩
 ·refine⟨hT.own.kept hg hx MbD,by simp[St.withGrave,hT.len],hT.nd,fun j T' g e1 e2=>?_⟩;simp only[St.withGrave]at e2;by_cases hj:i=j
  ·subst hj;rw[hi]at e1;have fT:i<s.graves.length:=Mcm;exact MaT
  ·exact M5
theorem zdC{base:Nat}{W:World}{B ps:List Nat}{tv:Value}{s:St}{place:ByteArray}{day:Int}{i:Nat}(hT:TombsAt base W B tv ps s.graves)(h:zaH s place day=some i):
 ∃T g,ps[i]?=some T/\ps.getD i 0=T/\s.graves[i]?=some g/\s.graves.getD i ze6=g/\TombAt W base B T g/\zaE g day=true:=by
 obtain⟨g,h1,h2,h3⟩:=zbv h;have hi:i<ps.length:=by have:=(List.getElem?_eq_some_iff.1 h1).1;have:=hT.len;omega
 refine⟨ps[i],g,List.getElem?_eq_getElem hi,by rw[List.getD_eq_getElem?_getD,List.getElem?_eq_getElem hi];rfl,h1,zey h1,hT.all i _ g (List.getElem?_eq_getElem hi) h1,h3⟩
theorem zho{W:World}{T:Nat}{cs0 cs1 cs2 cs3 cs4 cs5:Value}{fr:Nat×Nat}(h:W.heap[T]?=some (.cells #[cs0,cs1,cs2,cs3,cs4,cs5] 114 fr))(a0 a1 a2 a3 a4 a5:Value):
 ((((((W.setCell ⟨T,0,none⟩ a0).setCell ⟨T,1,none⟩ a1).setCell ⟨T,2,none⟩ a2).setCell ⟨T,3,none⟩ a3).setCell ⟨T,4,none⟩ a4).setCell ⟨T,5,none⟩ a5).heap[T]?=some (.cells #[a0,a1,a2,a3,a4,a5] 114 fr):=by
 have:=Joins.block_setCell (i:=5) (Joins.block_setCell (i:=4) (Joins.block_setCell (i:=3) (Joins.block_setCell (i:=2) (Joins.block_setCell (i:=1) (Joins.block_setCell (i:=0) h a0) a1) a2) a3) a4) a5;simpa using this
theorem zbD(W:World)(T:Nat)(a0 a1 a2 a3 a4 a5:Value):W.grownBy ((((((W.setCell ⟨T,0,none⟩ a0).setCell ⟨T,1,none⟩ a1).setCell ⟨T,2,none⟩ a2).setCell ⟨T,3,none⟩ a3).setCell ⟨T,4,none⟩ a4).setCell ⟨T,5,none⟩ a5) (some T):=
 zbb (zbb (zbb (zbb (zbb (zay _ _ _ _) (zay _ _ _ _)) (zay _ _ _ _)) (zay _ _ _ _)) (zay _ _ _ _)) (zay _ _ _ _)
def zdO(l:List RPart):Rat:=1-sumQ (zat l)
theorem zj2(l:List RPart){k:Nat}(h:k<l.length):zdO (l.take (k+1))=zdO (l.take k)-l[k].rat:=by
 have hs:∀a b:Parts,sumQ (a++b)=sumQ a+sumQ b:=fun a b=>by
  exact MaM
 unfold zdO;rw[List.take_succ_eq_append_getElem h];unfold zat;rw[List.map_append,hs];simp only[List.map_cons,List.map_nil,sumQ];grind
theorem zlC{l:List RPart}(h:∀p∈l,0<p.rat):∀k,0<=sumQ (zat (l.take k))/\sumQ (zat (l.take k))<=sumQ (zat l):=fun k=>by
 have hs:∀a b:Parts,sumQ (a++b)=sumQ a+sumQ b:=fun a b=>by
  exact MaM
 have hp:∀m:List RPart,(∀p∈m,0<p.rat)->0<=sumQ (zat m):=fun m hm=>zcC fun p hp=>by
  obtain⟨q,hq,rfl⟩:=List.mem_map.1 hp;have:=hm q hq;show 0<=q.rat;grind
 refine⟨hp _ fun p hp=>h p (List.mem_of_mem_take hp),?_⟩;have h2:=hp (l.drop k) fun p hp=>h p (List.mem_of_mem_drop hp)
 have e:zat l=zat (l.take k)++zat (l.drop k):=by
  unfold zat;rw[<-List.map_append,List.take_append_drop]
 rw[e,hs];grind
theorem zhp{l:List RPart}(h:∀p∈l,0<p.rat/\IsN 720720 p.rat/\za2 16 p.num p.den=true):∀k,Fits (zdO (l.take k))
 |0=>by
  show Fits (1-0);rw[show(1:Rat)-0=1 by grind];exact fits_one
 |k+1=>by
  by_cases hk:k<l.length
  ·rw[zj2 l hk];exact(zhp h k).sub (zd4 (h _ (List.getElem_mem hk)).2.2)
  ·rw[show l.take (k+1)=l.take k by rw[List.take_of_length_le MbC,List.take_of_length_le MbC]];exact zhp h k
theorem subS_any(s:Rat)(a b:Int)(W:World)(hs:zaD s)(h:za2 16 a b=true):Calls Tryz.prog 147 #[.agg #[.int .i64 s.num,.int .i64 s.den],.agg #[.int .i64 a,.int .i64 b]] W (Ret W (za9 (s-Rat.divInt a b))):=by
 obtain⟨h1,h2,h3,h4⟩:=zbo h;have:=zgq s (Rat.divInt a b) W hs ((zd4 h).small (Rat.le_trans MbD h3) (Rat.le_trans h4 MbD));unfold za9 at this⊢;rw[h1,h2]at this;exact this
theorem mulS_any(C:Nat)(f:Bool)(w:World)(hC:MarkAt w C f)(p:Rat)(a b:Int)(hp:zaD p)(h:za2 16 a b=true):Calls Tryz.prog 148 #[.pointer (some ⟨C,0,none⟩),.agg #[.int .i64 p.num,.int .i64 p.den],.agg #[.int .i64 a,.int .i64 b]] w (zdN w C f (p*Rat.divInt a b)):=by
 obtain⟨h1,h2,h3,h4⟩:=zbo h;have:=zg2 C f w hC p (Rat.divInt a b) hp ((zd4 h).small (Rat.le_trans MbD h3) (Rat.le_trans h4 MbD));unfold za9 at this;rw[h1,h2]at this;exact this
theorem zj3{s:St}{d:Deed}{i:Nat}{g:Grave}(ap:zaH s d.place d.day=some i)(hg:s.graves.getD i ze6=g)(hG:GoodG g)(hp:∀p∈zat d.to,0<=p.2)(h1:sumQ (zat d.to)<=1):
 zbj s d=if g.cls==4 then(s,15)else if zab g.holders d.frm==0 then(s,19)else if zfb s d.to then(s,28)else
  if(zcd g.holders d.frm (zat d.to)).2 then(s,8)else(s.withGrave i {g with holders:=(zcd g.holders d.frm (zat d.to)).1},0):=by
 have hs:=ziC (frm:=d.frm) hG.good hG.small hp h1;unfold zbj;rw[ap];simp only[hg];cases hb:bigQ (zab g.holders d.frm*(1-sumQ (zat d.to)))
 ·rw[hb]at hs;simp only[Bool.false_eq_true,if_false]at hs⊢;rw[hs];cases(zcd g.holders d.frm (zat d.to)).2<;>rfl
 ·rw[hb]at hs;simp only[if_true]at hs⊢;cases ht:(zcd g.holders d.frm (zat d.to)).2
  ·rw[ht]at hs;simp at hs
  ·rfl
