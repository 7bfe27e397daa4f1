import Derived.Test.YtbobmplpdmplkaaGreatDoorJX
import Derived.Deep.RegionHeld3
set_option linter.all false
set_option maxRecDepth 100000
set_option maxHeartbeats 4000000
namespace Go.Proofs.YtbobmplpdmplkaaGreatDoor
open Go.RowKit Go.Shelf
attribute [local go_sem] World.cell?_alloc_mark zaf za4 zam za7 zaw zax zay zaz za0 za1 za2
section
attribute [local go_sem] Oper.semAt_some
abbrev Pair2:=ByteArray×ByteArray
def pr0:Pair2:=(⟨#[]⟩,⟨#[]⟩)
def zdX(ms:List Pair2)(k:Nat):List (Int×Pair2):=(List.range k).map fun j=>(((ms.length-1-j:Nat):Int),ms.getD (ms.length-1-j) pr0)
theorem zm7(ms:List Pair2)(k:Nat):zdX ms (k+1)=zdX ms k++[(((ms.length-1-k:Nat):Int),ms.getD (ms.length-1-k) pr0)]:=by
 unfold zdX;rw[List.range_succ,List.map_append];rfl
theorem zo4(ms:List Pair2)(k:Nat):(zdX ms k).length=k:=by simp[zdX]
theorem zo5(ms:List Pair2):(zdX ms ms.length).map (·.2)=ms.reverse:=by
 unfold zdX;apply List.ext_getElem
 ·simp
 ·intro i h1 h2;simp at h1;rw[List.getElem_reverse];exact MbC
theorem zm8(ms:List Pair2)(k:Nat)(hk:k<=ms.length):(zdX ms k).map Prod.snd=ms.reverse.take k:=by
 unfold zdX;apply List.ext_getElem
 ·simp;omega
 ·intro i h1 h2;simp at h1;rw[List.getElem_take,List.getElem_reverse];exact MbC
def encB(x:Int×Pair2):Array Value:= #[.int .i64 x.1,.agg #[.string x.2.1,.string x.2.2]]
theorem back1_in(n:Nat)(hn:1<=n)(l n₀ Bs:Nat)(ms:List Pair2)(A:Option Addr)(c:Nat)(hl:ms.length<=100000)(J Jx:List (Int×Pair2)->World->Prop)
 (hY:∀pre x W,J pre W->pre.length<ms.length->YieldAt Fence.wide (n-1) Tryz.prog l (encB x) W fun e W'=>
   (e=.returned (.bool true)/\J (pre++[x]) W'/\Below n₀ W W')\/(e=.returned (.bool false)/\Jx (pre++[x]) W'))
 (W:World)(vE:Bs<n₀)(BK:W.cell? ⟨Bs,0,none⟩=some (.slice A ms.length c))(hS:∀W',Below n₀ W W'->Sl W' 2 zaT A ms)(h0:J [] W):
 CallsIn Fence.wide n Tryz.prog 109 #[.func (.yield l) #[] #[],.pointer (some ⟨Bs,0,none⟩)] W fun e W'=>(∃v,e=.returned v)/\
  ((∃ys,ys=zdX ms ms.length/\J ys W')\/(∃pre,(∃k,k<=ms.length/\pre=zdX ms k)/\Jx pre W')):=by
 refine callsIn_of_wp Tryz.func109 rfl trivial ?_ rfl;simp only[Tryz.ntmps109,List.size_toArray,List.length_cons,List.length_nil,Nat.reduceAdd,Nat.reduceSub,Array.replicate_succ,Array.replicate_zero,List.push_toArray,List.append_toArray,List.nil_append,List.cons_append];have ue:IntKind.i64.wrap ((ms.length:Int)-1)=(ms.length:Int)-1:=IntWalk.i64_in _ Mcy;gi_wp2
 gi_loopw [3] (fun i wr=>∃k:Nat,k<=ms.length/\i=.int .i64 ((ms.length:Int)-1-k)/\J (zdX ms k) wr/\Below n₀ W wr) (fun i _=>(intOf i+1).toNat)
 case atStart=>exact⟨0,Nat.zero_le _,by simp,h0,Below.refl _ _⟩
 case round=>
  obtain⟨k,hk,rfl,F4,hB⟩:=hrel;have bh:wr.cell? ⟨Bs,0,none⟩=some (.slice A ms.length c):=(hB.cell (p:=⟨Bs,0,none⟩) vE).trans BK;by_cases ae:k<ms.length
  ·have hi:ms.length-1-k<ms.length:=Mcy;obtain⟨b,off,rfl,hb,hc⟩:=(hS wr hB).at hi;obtain⟨fn,tmps,assign,body,hy,hR⟩:=hY _ (((ms.length-1-k:Nat):Int),ms.getD (ms.length-1-k) pr0) wr F4 (by rw[zo4];exact ae);have bN:ms.getD (ms.length-1-k) pr0=ms[ms.length-1-k]:=by rw[List.getD_eq_getElem?_getD,List.getElem?_eq_getElem hi];rfl
   have HT:=zHi (zm7 ms k);rw[bN]at hy hR;have HG:=zHi bN;clear bN;generalize ms[ms.length-1-k]=m at hc hy hR HG;obtain⟨m1,m2⟩:=m;have c0:wr.cell? ⟨b,off+(ms.length-1-k)*2,none⟩=some (.string m1):=hc 0 _ rfl;have c1:wr.cell? ⟨b,off+(ms.length-1-k)*2+1,none⟩=some (.string m2):=hc 1 _ rfl;obtain⟨j,hj⟩:∃j:Nat,j=ms.length-1-k:=⟨_,rfl⟩
   rw[<-hj]at c0 c1 hy hR HT HG hi;have cB:(ms.length:Int)-1-k=(j:Int):=Mcy;have sk:(0:Int)<=(j:Int):=Mcy;have cQ:(j:Int)<(ms.length:Int):=Mcy;rw[cB];have HJ:=zHi cB;clear cB hj hc;simp only[encB]at hy hR;gi_wp2
   refine hR.mono ?_;rintro e W3 (⟨rfl,Jj,tV⟩|⟨rfl,BW⟩)
   ·have jz:IntKind.i64.wrap ((j:Int)-1)=(j:Int)-1:=IntWalk.i64_in _ Mcy;have JW:W3.cell? ⟨Bs,0,none⟩=some (.slice (some ⟨b,off,none⟩) ms.length c):=(tV.cell (p:=⟨Bs,0,none⟩) vE).trans bh;gi_wp2
    go_roundw
    case rel=>exact⟨k+1,by omega,by have:=HJ.o;exact zb5 Mcy,by rw[HT.o,HG.o];exact Jj,hB.trans tV⟩
    case measure=>(have:=HJ.o;simp[intOf];first|done|omega)
   ·gi_wp2
    refine bodyPost_ret (results_none rfl _ _ _) rfl ?_;exact⟨⟨_,rfl⟩,.inr ⟨_,⟨k+1,by omega,rfl⟩,by rw[HT.o,HG.o];exact BW⟩⟩
  ·obtain rfl:k=ms.length:=by omega
   have oO:(ms.length:Int)-1-(ms.length:Int)= -1:=Mcy;rw[oO];gi_wp2
   go_end0
   exact⟨⟨_,rfl⟩,.inl ⟨_,rfl,F4⟩⟩
theorem back1_seq(n:Nat)(hn:1<=n)(n₀ Bs:Nat)(ms:List Pair2)(A:Option Addr)(c:Nat)(hl:ms.length<=100000)(w:World)(Gi:n₀<=w.heap.size)(vE:Bs<n₀)(BK:w.cell? ⟨Bs,0,none⟩=some (.slice A ms.length c))(hS:∀W',Below n₀ w W'->Sl W' 2 zaT A ms):
 SeqStopsK Fence.wide n Tryz.prog 109 #[.pointer (some ⟨Bs,0,none⟩)] encB (Below n₀) (fun ys=>ys=zdX ms ms.length) (fun pre=>∃k,k<=ms.length/\pre=zdX ms k) ms.length w:=fun l J Jx W hW _ _ hY Ji=>
 back1_in n hn l n₀ Bs ms A c hl J Jx hY W vE ((hW.cell (p:=⟨Bs,0,none⟩) (Nat.lt_of_lt_of_le vE Gi)).trans BK) (fun W' h=>hS W' ((hW.mono Gi).trans h)) Ji
theorem zlm{fn:Func}{p:Tmp}(h:fn.results= #[.cell p 9])(tmps:Array Value)(w:World)(B:Nat)(x:ByteArray)(hp:tmps.getD p undef=.pointer (some ⟨B,0,none⟩))
 (h0:w.cell? ⟨B,0,none⟩=some (.string x)):(results fn tmps).run Tryz.prog w=.ok (.string x) w:=by
 rw[zdC h,hp];go_simp
theorem back_any(A:Option Addr)(n c:Nat)(w:World):Calls Tryz.prog 73 #[.slice A n c] w fun e w'=>e=.returned (.func (.func 109) #[] #[.pointer (some ⟨w.heap.size,0,none⟩)])/\w'=w.alloc (.cells #[.slice A n c] 41):=by
 go_enter Tryz.func73,Tryz.ntmps73
 exact MaC
def hasN(m:Pair2)(n:ByteArray):Bool:=zae m.1 n||zae m.2 n
def zeN(m:Pair2)(n:ByteArray):ByteArray:=if zae m.1 n then m.2 else m.1
theorem ziu{n:ByteArray}:∀ {l:List Pair2},(∀m∈l,hasN m n=false)->zdo n l=⟨#[]⟩
 | [],_=>rfl
 |m::l,h=>by
  have h0:=h m McB;simp only[hasN,Bool.or_eq_false_iff]at h0;rw[zdo,h0.1,h0.2];simpa using ziu fun x hx=>h x (by simp[hx])
theorem ziv{n:ByteArray}{m:Pair2}{b:List Pair2}(hm:hasN m n=true):∀ {a:List Pair2},(∀m∈a,hasN m n=false)->zdo n (a++m::b)=zeN m n
 | [],_=>by
   rw[List.nil_append,zdo,zeN];cases h:zae m.1 n
   ·simp only[hasN,h,Bool.false_or]at hm;simp[hm]
   ·simp
 |x::a,h=>by
  have h0:=h x McB;simp only[hasN,Bool.or_eq_false_iff]at h0;rw[List.cons_append,zdo,h0.1,h0.2];simpa using ziv hm fun x hx=>h x (by simp[hx])
def marks5(Ds:List Nat):List Deferred:=Ds.map fun D=> {target:=.collected D,args:= #[]}
theorem ze8{F:Fence}{n:Nat}{P:Program}{fn:Func}{tmps:Array Value}{R:Ending->World->Prop}{base:Nat}:∀(Ds:List Nat) (w:World),Ds.Nodup->(∀D∈Ds,base<=D/\w.heap[D]?=some (.deferred (some [])))->
 (∀w',Below base w w'->(∀(k:Nat) (cs:Array Value) (t:TypeId) (fr:Nat×Nat),w.heap[k]?=some (.cells cs t fr)->w'.heap[k]?=some (.cells cs t fr))->∃v,(results fn tmps).run P w'=.ok v w'/\R (.returned v) w')->
 LeavesInM F n P fn tmps R (marks5 Ds) .returning w
 | [],w,_,_,h=>h w (Below.refl _ _) fun _ _ _ _ h=>h
 |D::Ds,w,cW,hD,h=>by
  obtain⟨hb,hK⟩:=hD D McB;have xG:=List.nodup_cons.1 cW;refine⟨by simp,.inl ⟨D,_,rfl,run_takeDeferred hK,?_⟩⟩;have hp:∀k,k≠D->(w.putObj D (.deferred none)).heap[k]?=w.heap[k]?:=fun k hk=>by
   simp only[World.putObj,Array.getElem?_setIfInBounds];rw[if_neg (fun e=>hk e.symm)]
  refine ze8 Ds (w.putObj D (.deferred none)) xG.2 (fun D' qY=>⟨(hD D' (by simp[qY])).1,(hp D' (fun e=>xG.1 (e▸qY))).trans (hD D' (by simp[qY])).2⟩) fun w' hB hc=>?_
  refine h w' (Below.trans (⟨rfl,rfl,rfl,by simp[World.putObj],fun k hk=>hp k Mcy⟩:Below base w (w.putObj D (.deferred none))) hB) fun k cs t fr hk=>hc k cs t fr ((hp k (fun e=>?_)).trans hk)
  subst e;rw[hK]at hk;cases hk
theorem znK{A B:World}{row:Option Nat}{k:Nat}{cs:Array Value}{t:TypeId}{fr:Nat×Nat}(h:A.heap[k]?=some (.cells cs t fr))(hg:A.grownBy B row)(hr:∀r,row=some r->∃o:Obj,A.heap[r]?=some o/\o.isCells=false):B.heap[k]?=some (.cells cs t fr):=
 (hg.block k (zab h) (fun e=>by
   obtain⟨o,ho,hc⟩:=hr k e.symm;rw[h]at ho;simp only[Option.some.injEq]at ho;subst ho
   cases hc)).trans h
def SpI(x:ByteArray)(W0:World)(pre:List (Int×Pair2))(W:World):Prop:=(∀m∈pre.map Prod.snd,hasN m x=false)/\Below W0.heap.size W0 W
def SpIx(s:St)(x:ByteArray)(w:World)(c:Code)(pre:List (Int×Pair2))(W:World):Prop:=
 (c=.ret/\∃a m,pre.map Prod.snd=a++[m]/\(∀y∈a,hasN y x=false)/\hasN m x=true/\W.heap[w.heap.size+1+1]?=some (.cells #[.string (if zaJ s (zeN m x)then⟨#[]⟩else zeN m x)] 9 (0,0)))/\Below w.heap.size w W
theorem spouse_in(base b:Nat)(s:St)(x:ByteArray)(w:World)(hW:PeoAt base w b s)(hl:s.marriages.length<=100000):
 CallsIn Fence.wide 9 Tryz.prog 43 #[.pointer (some ⟨b,0,none⟩),.string x] w (Ret w (.string (zaG s x))):=by
 obtain⟨B,d,c,p,wl,r,mv,tv,la,co,h1,h2⟩:=hW;obtain⟨A,cc,rfl,hS,hc⟩:=h2.marr.sl zbj;have hb:=zab h1;unfold WldC at h1;have c3:w.cell? ⟨b,3,none⟩=some (.slice A s.marriages.length cc):=Mev;obtain⟨HS,H1,H2⟩:=yH3 hS h1 h2;clear h1 h2 hS;refine callsIn_of_wp_marks Tryz.func43 rfl trivial ?_ rfl;simp only[Tryz.ntmps43,List.size_toArray,List.length_cons,List.length_nil,Nat.reduceAdd,Nat.reduceSub,Array.replicate_succ,Array.replicate_zero,List.push_toArray,List.append_toArray,List.nil_append,List.cons_append];have aS:b≠w.heap.size:=Mcy;have bs:b≠w.heap.size+1:=Mcy;gi_wp2_with (refine⟨trivial,?_⟩;gi_at_call 73;refine(callsIn_wide.2 (back_any _ _ _ _)).mono ?_;rintro e wq ⟨rfl,rfl⟩)
 generalize am:((((w.alloc (.cells #[.pointer (some ⟨b,0,none⟩)] 135)).alloc (.cells #[.string x] 9)).alloc (.cells #[.string ⟨#[]⟩] 9)).alloc (.cells #[.slice A s.marriages.length cc] 41))=W0;have Ag:W0.heap.size=w.heap.size+4:=by rw[<-am];simp
 have s0:W0.heap[w.heap.size]?=some (.cells #[.pointer (some ⟨b,0,none⟩)] 135 (0,0)):=by rw[<-am];exact zal (zal (zal (zar _ _ _ rfl)))
 have s1:W0.heap[w.heap.size+1]?=some (.cells #[.string x] 9 (0,0)):=by rw[<-am];exact zal (zal (zar _ _ _ McB))
 have s2:W0.heap[w.heap.size+1+1]?=some (.cells #[.string ⟨#[]⟩] 9 (0,0)):=by rw[<-am];exact zal (zar _ _ _ McB)
 have s3:W0.heap[w.heap.size+1+1+1]?=some (.cells #[.slice A s.marriages.length cc] 41 (0,0)):=by rw[<-am];exact zar _ _ _ McB
 have aK:Below w.heap.size w W0:=by rw[<-am];exact Bw
 have aG:W0.cell? ⟨w.heap.size+1+1+1,0,none⟩=some (.slice A s.marriages.length cc):=by simp[World.cell?,s3]
 clear am;obtain⟨S0,S1,S2⟩:=yH3 s0 s1 s2;clear s0 s1 s2 s3;refine wpIn_rangeFunc_ownH rfl Mcy (gf:=109) (lb:= #[.pointer (some ⟨w.heap.size+1+1+1,0,none⟩)]) rfl trivial (enters_of Tryz.func109 Mcz rfl)
  (back1_seq (9-1) Mcy W0.heap.size (w.heap.size+1+1+1) s.marriages A cc hl W0 (Nat.le_refl _) Mcy aG (fun W' h=>(HS.o.keep aK).keep h)) belowK_t (belowK_b (Nat.le_refl _)) (Below.refl _ _) (fun _=>rfl)
  (fun(pre:List (Int×Pair2)) W=>SpI x W0 pre W)
  (fun c (pre:List (Int×Pair2)) W=>SpIx s x w c pre W)
  (fun s A B row hs hg hr=>⟨hs.1,hs.2.grown hg hs.2.size (fun r e=>(hr r e).1)⟩)
  (fun cc s A B row hs hg hr=>⟨by obtain⟨⟨h1,a,m,h2,h3,h4,h5⟩,_⟩:=hs;exact⟨h1,a,m,h2,h3,h4,znK h5 hg (fun r e=>(hr r e).2)⟩,hs.2.grown hg hs.2.size (fun r e=>by have:=(hr r e).1;omega)⟩)
  ⟨by simp,Below.refl _ _⟩
  (fun y a' W=>∃Bx,W0.heap.size<=Bx/\W.heap[Bx]?=some (.cells #[.string y.2.1,.string y.2.2] 107 (0,0))/\a'= {tmps:= #[.pointer (some ⟨b,0,none⟩),.string x,.pointer (some ⟨w.heap.size,0,none⟩),.pointer (some ⟨w.heap.size+1,0,none⟩),.pointer (some ⟨w.heap.size+1+1,0,none⟩),undef,.pointer (some ⟨Bx,0,none⟩),undef,undef,undef,.pointer (some ⟨b,0,none⟩),.pointer (some ⟨b,0,none⟩),.pointer (some ⟨b,3,none⟩),.slice A s.marriages.length cc,.func (.func 109) #[] #[.pointer (some ⟨w.heap.size+1+1+1,0,none⟩)],.int .i64 y.1,.agg #[.string y.2.1,.string y.2.2],undef,undef,undef,undef,undef,undef,undef,undef,undef,undef,undef,undef,undef,undef,undef,undef,undef,undef,undef,undef,undef],defers:=[]})
  (fun y a' s A B row hs hg hr=>by obtain⟨Bx,h1,h2,h3⟩:=hs;exact⟨Bx,h1,znK h2 hg (fun r e=>(hr r e).2),h3⟩) ?assign ?body ?done ?stop
 case assign=>
  rintro l pre ⟨yi,y1,y2⟩ W K hi hK;simp only[encB];gi_wp2
  exact hK _ _ ((KeepsOthers.alloc _ _).from _) (zad (Below.refl _ _) _ hi.2.size) ⟨hi.1,zad hi.2 _⟩ ⟨W.heap.size,hi.2.size,zar _ _ _ rfl,rfl⟩
 case body=>
  rintro l pre ⟨yi,y1,y2⟩ a' W hWl _ ⟨hp,eM⟩ ⟨Bx,eA,gV,rfl⟩ ag;simp only at gV;have t0:=(eM.block w.heap.size Mcy).trans S0.o;have t1:=(eM.block (w.heap.size+1) Mcy).trans S1.o;have t2:=(eM.block (w.heap.size+1+1) Mcy).trans S2.o;have tW:=(eM.block b Mcy).trans ((aK.block b hb).trans H1.o);have tH:=H2.o.keep (aK.trans (eM.mono Mcy));have k0:W.cell? ⟨w.heap.size,0,none⟩=some (.pointer (some ⟨b,0,none⟩)):=by simp[World.cell?,t0]
  have k1:W.cell? ⟨w.heap.size+1,0,none⟩=some (.string x):=by simp[World.cell?,t1]
  have k2:W.cell? ⟨w.heap.size+1+1,0,none⟩=some (.string ⟨#[]⟩):=by simp[World.cell?,t2]
  have k3:W.frozen? ⟨w.heap.size+1+1,0,none⟩=false:=by simp[World.frozen?,t2]
  have k4:W.cell? ⟨b,0,none⟩=some (.map (some d)):=by simp[World.cell?,tW]
  have k5:W.cell? ⟨Bx,0,none⟩=some (.string y1):=by simp[World.cell?,gV]
  have k6:W.cell? ⟨Bx,1,none⟩=some (.string y2):=by simp[World.cell?,gV]
  have l1:=zdc tH y1;have l2:=zdc tH y2;obtain⟨b8,HP,T2⟩:=yH3 eM hp t2;clear t0 t1 t2 tW tH hp;have Kn:∀W:World,Sem.run Tryz.prog (Instr.index 107 (.agg #[.string y1,.string y2]) (.int .i64 0)) W=.ok (.string y1) W:=fun W=>by kernel_rfl
  have Ko:∀W:World,Sem.run Tryz.prog (Instr.index 107 (.agg #[.string y1,.string y2]) (.int .i64 1)) W=.ok (.string y2) W:=fun W=>by kernel_rfl
  gi_wp2
  gi_loopw [18] (fun i wr=>∃k:Nat,k<=2/\i=.int .i64 k/\wr=W/\Hid ((0<k->zae y1 x=false)/\(1<k->zae y2 x=false))) (fun i _=>2-(intOf i).toNat)
  case atStart=>exact⟨0,by omega,rfl,rfl,⟨by omega,by omega⟩⟩
  case round=>
   obtain⟨k,hk,rfl,rfl,hs⟩:=hrel;obtain rfl|rfl|rfl:k=0\/k=1\/k=2:=by omega
   ·rw[show((0:Nat):Int)=0 from rfl];by_cases h1:y1.toList=x.toList
    ·have aS:(y1.toList==x.toList)=true:=Mc4;have hm:hasN (y1,y2) x=true:=by simp[hasN,zeb h1]
     have ho:zeN (y1,y2) x=y2:=by simp[zeN,zeb h1]
     obtain⟨HM,HO⟩:=yH2 hm ho;clear hm ho;cases hd:zaJ s y2
     ·rw[hd]at l2;gi_wp2
      have g2:=Boxed.set (.string y2) T2.o;have HD:=zHi hd;have bJ:∀i,SpIx s x w .ret (pre++[(i,y1,y2)]) (wr.setCell ⟨w.heap.size+1+1,0,none⟩ (.string y2)):=fun i=>⟨⟨rfl,pre.map Prod.snd,(y1,y2),by simp,HP.o,HM.o,by rw[HO.o,HD.o];exact g2⟩,zaP (aK.trans (b8.o.mono Mcy)) McD _⟩
      exact Mad
     ·rw[hd]at l2;exact MP
    ·have jh:(y1.toList==x.toList)=false:=Mc4;have HN:Hid ((0<1->zae y1 x=false)/\(1<1->zae y2 x=false)):=⟨fun _=>ze2 h1,by omega⟩
     gi_wp2
     exact⟨⟨1,by omega,rfl,trivial,HN⟩,by simp[intOf]⟩
   ·rw[show((1:Nat):Int)=1 from rfl];by_cases h2:y2.toList=x.toList
    ·have jh:(y2.toList==x.toList)=true:=Mek;have hm:hasN (y1,y2) x=true:=by simp[hasN,zeb h2]
     have ho:zeN (y1,y2) x=y1:=by simp[zeN,hs.o.1 Mcy]
     obtain⟨HM,HO⟩:=yH2 hm ho;clear hm ho;cases hd:zaJ s y1
     ·rw[hd]at l1;gi_wp2
      have g2:=Boxed.set (.string y1) T2.o;have HD:=zHi hd;have bJ:∀i,SpIx s x w .ret (pre++[(i,y1,y2)]) (wr.setCell ⟨w.heap.size+1+1,0,none⟩ (.string y1)):=fun i=>⟨⟨rfl,pre.map Prod.snd,(y1,y2),by simp,HP.o,HM.o,by rw[HO.o,HD.o];exact g2⟩,zaP (aK.trans (b8.o.mono Mcy)) McD _⟩
      exact Mad
     ·rw[hd]at l1;exact MP
    ·have jh:(y2.toList==x.toList)=false:=Mek;have HN:Hid ((0<2->zae y1 x=false)/\(1<2->zae y2 x=false)):=⟨fun _=>hs.o.1 Mcy,fun _=>ze2 h2⟩
     gi_wp2
     exact⟨⟨2,by omega,rfl,trivial,HN⟩,by simp[intOf]⟩
   ·rw[show((2:Nat):Int)=2 from rfl];have hn:hasN (y1,y2) x=false:=by simp[hasN,hs.o.1 Mcy,hs.o.2 Mcy]
    have HN:=zHi hn;clear hn;gi_wp2
    exact⟨KeepsFrom.refl _ _,Below.refl _ _,fun m hm=>by
     rw[List.map_append]at hm;rcases List.mem_append.1 hm with hm|hm
     ·exact HP.o m hm
     ·simp only[List.map_cons,List.map_nil,List.mem_singleton]at hm
      rw[hm];exact HN.o,b8.o⟩
 case done=>
  rintro D ys W hD rfl ⟨hp,eM⟩ hK;have t2:=(eM.block (w.heap.size+1+1) Mcy).trans S2.o;have c2':W.cell? ⟨w.heap.size+1+1,0,none⟩=some (.string ⟨#[]⟩):=by simp[World.cell?,t2]
  have f2':W.frozen? ⟨w.heap.size+1+1,0,none⟩=false:=by simp[World.frozen?,t2]
  have HY:Hid (zaG s x=⟨#[]⟩):=by
   show _=_;rw[zo5]at hp;unfold zaG;rw[ziu hp];simp
  obtain⟨HK,T2⟩:=yH2 hK t2;clear hK t2 hp;gi_wp2
  have g2:=Boxed.set (.string ⟨#[]⟩) T2.o;have J4:(W.setCell ⟨w.heap.size+1+1,0,none⟩ (.string ⟨#[]⟩)).heap[D]?=some (.deferred (some [])):=(heap_setCell_other W ⟨w.heap.size+1+1,0,none⟩ _ _ McD).trans HK.o
  refine ze8 (base:=w.heap.size) [D] _ McB (fun D' qY=>by
   have:D'=D:=by simpa using qY
   subst this
   exact⟨by omega,J4⟩) fun w' dD aN=>⟨.string ⟨#[]⟩,zlm rfl _ _ (w.heap.size+1+1) _ rfl (by simp[World.cell?,aN _ _ _ _ g2]),?_⟩
  exact Ret.of (by rw[HY.o]) ((zaP (aK.trans (eM.mono Mcy)) McD _).trans dD)
 case stop=>
  rintro D cc pre W hD sG ⟨⟨rfl,a,m,h2,h3,h4,h5⟩,eM⟩ hK;have HY:Hid (zaG s x=if zaJ s (zeN m x)then⟨#[]⟩else zeN m x):=by
   show _=_;obtain⟨k,hk,rfl⟩:=sG;rw[zm8 _ _ hk]at h2;have e:s.marriages.reverse=a++m::s.marriages.reverse.drop k:=by
    have:=(List.take_append_drop k s.marriages.reverse).symm;rw[h2]at this;simpa using this
   unfold zaG;rw[e,ziv h4 h3]
  obtain⟨HK,G2⟩:=yH2 hK h5;clear hK h5 h4 h3 h2;gi_wp2
  refine ze8 (base:=w.heap.size) [D] _ McB (fun D' qY=>by
   have:D'=D:=by simpa using qY
   subst this
   exact⟨by omega,HK.o⟩) fun w' dD aN=>⟨.string (if zaJ s (zeN m x)then⟨#[]⟩else zeN m x),zlm rfl _ _ (w.heap.size+1+1) _ rfl (by simp[World.cell?,aN _ _ _ _ G2.o]),?_⟩
  exact Ret.of (by rw[HY.o]) (eM.trans dD)
theorem zgZ(base b:Nat)(s:St)(x:ByteArray)(w:World)(hW:PeoAt base w b s)(hl:s.marriages.length<=100000):
 Calls Tryz.prog 43 #[.pointer (some ⟨b,0,none⟩),.string x] w (Ret w (.string (zaG s x))):=callsIn_wide.1 (spouse_in base b s x w hW hl)
end
section
attribute [local go_sem] zan zac
theorem ziw{base:Nat}{W:World}{B:List Nat}{d c p wl r:Nat}{mv:Value}{s:St}(h:PplAt base W B d c p wl r mv s)(n:ByteArray):
 ∃A cc,(∀W',Below W.heap.size W W'->(Instr.lookup 85 (.map (some c)) (.string n) false).run Tryz.prog W'=.ok (.slice A (zai s n).length cc) W')/\(zai s n).length<=cc/\Sl W 1 sC A (zai s n):=by
 obtain⟨mc,mp,k1,k2,k3,k4,k5,k6⟩:=h.rows;have hl:=fun W' (hB:Below W.heap.size W W')=>zbk zjl (k1.below hB).at n
 rcases k3 n with⟨h1,h2⟩|⟨v,h1,h2⟩
 ·rw[h1]at hl;refine⟨none,0,fun W' hB=>?_,by rw[h2];exact Nat.le_refl _,by rw[h2];exact Sl.nil⟩;rw[h2];exact hl W' hB
 ·rw[h1]at hl;obtain⟨A,cc,rfl,hS,hc⟩:=h2.sl za9;exact⟨A,cc,hl,hc,hS⟩
def outM(out:List ByteArray):List (ByteArray×Bool):=out.map fun n=>(n,true)
theorem out_put{out:List ByteArray}{n:ByteArray}(h:n∉out):mput eqS n true (outM out)=outM (out++[n]):=by
 induction out with
 |nil=>rfl
 |cons x out ih=>
  have hx:eqS n x=false:=zcn.2 fun e=>h (by simp[e])
  rw[outM,List.map_cons,mput];simp only[hx,Bool.false_eq_true,if_false];have:=ih (fun e=>h (by simp[e]));simp only[outM]at this;rw[this];rfl
theorem zm9(out:List ByteArray)(n:ByteArray):(mget eqS n (outM out)).getD false=out.any (zae n):=zhC n out
theorem zcl{w:World}{b:Nat}{x:ByteArray}{t:TypeId}{fr:Nat×Nat}(h:w.heap[b]?=some (.cells #[.string x] t fr)):Sl w 1 sC (some ⟨b,0,none⟩) [x]:=fun _=>⟨b,0,rfl,zab h,fun k y hy j u hu=>by
 have hk:k=0:=McK;subst hk;simp only[List.getElem?_cons_zero,Option.some.injEq]at hy;subst hy;match j,hu with
 |0,hu=>simp[sC]at hu;simp[World.cell?,h,<-hu]
 |j+1,hu=>simp[sC]at hu⟩
def DescPost(w:World)(s:St)(nm:ByteArray)(e:Ending)(w':World):Prop:=
 ∃out:List ByteArray,e=.returned (.map (some w.heap.size))/\MapS w' w.heap.size ekS evB (outM out)/\Found s nm out []/\Below w.heap.size w w'
theorem znL(base b:Nat)(s:St)(nm:ByteArray)(w:World)(hW:PeoAt base w b s)(hl:s.children.length<=100000):
 Calls Tryz.prog 44 #[.pointer (some ⟨b,0,none⟩),.string nm] w (DescPost w s nm):=by
 obtain⟨B,d,c,p,wl,r,mv,tv,la,co,h1,h2⟩:=hW;have hb:=zab h1;unfold WldC at h1;have c1:w.cell? ⟨b,1,none⟩=some (.map (some c)):=Mev;obtain⟨HP,H1⟩:=yH2 h2 h1;clear h1 h2;have bV:∀x,(zai s x).length<=100000:=fun x=>by
  have:(zai s x).length<=s.children.length:=by unfold zai;rw[List.length_map];exact List.length_filter_le _ _
  omega
 go_enter Tryz.func44,Tryz.ntmps44
 have bO:= @run_makeMap Tryz.prog;go_upto_region 3 with fail
 clear bO;have hcw:=c1;go_loopg [6] (s.children.length+1) (fun gg v wr=>∃out xs:List ByteArray,OwnS wr w.heap.size 9 1 sC v xs/\MapS wr w.heap.size ekS evB (outM out)/\Below w.heap.size w wr/\w.heap.size+1<=wr.heap.size/\Hid (Found s nm out xs)/\(s.children.length-out.length)+xs.length<=gg/\xs.length<=out.length+1)
 case atStart=>
  refine⟨[],[nm],.inr ⟨w.heap.size+1,0,1,#[.string nm],rfl,by omega,zar _ _ _ McB,Nat.le_refl _,by simp[maxLen],by simp,fun j u hj=>?_⟩,?_,Bw,by simp,zmy s nm,by simp,by simp⟩
  ·match j,hj with
   |0,hj=>simpa[sC]using hj
   |j+1,hj=>simp[sC]at hj
  ·exact(MapS.new w).below (n:=w.heap.size+1) (zad (Below.refl _ _) _ McB) McB
 case round=>
  obtain⟨out,xs,aa,hm,hB,hsz,HF,bf,bM⟩:=hrel;cases xs with
  |nil=>
   obtain⟨A,cc,rfl,hS,hc⟩:=aa.sl za9;clear aa hS;go_wp2_with fail
   go_ret
   exact⟨out,rfl,hm,HF.o,hB⟩
  |cons x xs=>
   rcases aa with⟨rfl,h0⟩|⟨g,o,cap,cur,rfl,ji,hg,aW,iF,bh,hx⟩
   ·cases h0
   have aa:OwnS wr w.heap.size 9 1 sC (.slice (some ⟨g,o,none⟩) (x::xs).length cap) (x::xs):=.inr ⟨g,o,cap,cur,rfl,ji,hg,aW,iF,bh,hx⟩;obtain⟨_,IX,cn,pK⟩:=aa.tail za9;have Cy:wr.cell? ⟨g,o,none⟩=some (.string x):=pK 0 _ rfl;have kW:wr.cell? ⟨b,1,none⟩=some (.map (some c)):=(hB.cell (p:=⟨b,1,none⟩) hb).trans c1;obtain⟨KA,kc,dV,fq,fO⟩:=ziw HP.o x;have xo:=dV wr hB;have HK:Hid (∀W',Below w.heap.size w W'->Sl W' 1 sC KA (zai s x)):=fun W' h=>fO.keep h
   have vO:Hid (Look s nm x 0 out xs):=found_pop HF.o;have l7:=bV x;have DG:(0:Int)<((x::xs).length:Int):=by simp only[List.length_cons];omega
   have sR:(1:Int)<=((x::xs).length:Int):=Mcy;have sS:(1:Int)<=(xs.length:Int)+1:=Mcy;have jK:(1:Int)<=(cap:Int):=Mcy;obtain⟨hT,hM⟩:=yH2 cn hm;generalize fC:zai s x=ks at xo HK l7 fq;have fg:=zHi fC;clear fC;have mu:=aW;have rU:=bh;have HG:=zHi hg;clear dV fO hx hg aa pK cn hm HF bh iF aW;have we:Hid (cap=1->OwnS wr w.heap.size 9 1 sC (.slice (some ⟨g,o,none⟩) xs.length 0) xs):=fun e=>by
    have f9:xs=[]:=List.eq_nil_of_length_eq_zero (by simp at mu;omega);exact Mbm
   clear mu rU;go_upto_region 5 with fail
   go_cut [6]from 13 to 42 (fun v wc=>OwnS wr w.heap.size 9 1 sC v xs/\wr=wc)
   case first=>
    by_cases ay:cap=1
    ·exact MbB
    ·go_wp2_with fail
     all_goals go_meet
     all_goals exact⟨hT.o,rfl⟩
   case rest=>
    obtain⟨aa,rfl⟩:=hcut;clear hT we Cy;have bT:=aa;obtain⟨QA,qc,rfl,Jw,Jy⟩:=bT.sl za9;clear Jw bT;have HO:=zHi aa;clear aa;go_upto_region 7 with fail
    go_loopg [6,28] ks.length (fun gi v i wi=>∃(j:Nat) (out2 xs2:List ByteArray),j<=ks.length/\ks.length-j<=gi/\i=.int .i64 j/\OwnS wi w.heap.size 9 1 sC v xs2/\MapS wi w.heap.size ekS evB (outM out2)/\Below w.heap.size w wi/\w.heap.size+1<=wi.heap.size/\Hid (Look s nm x j out2 xs2)/\(s.children.length-out2.length)+xs2.length+1<=gk/\xs2.length<=out2.length)
    case atStart=>exact⟨0,out,xs,Nat.zero_le _,Nat.le_refl _,rfl,HO.o,hM.o,hB,hsz,vO,by simp at bf;omega,by simp at bM;omega⟩
    case round=>
     obtain⟨j,out2,xs2,hj,aO,rfl,mQ,cF,bG,oW,fX,CM,sR⟩:=hrel;have KQ:=zkj fX.o.nd fX.o.desc;by_cases ae:j<ks.length
     ·obtain⟨kb,koff,rfl,mG,xg⟩:=(HK.o wr bG).at ae;obtain⟨ch,wI⟩:∃ch,ch=ks[j]:=⟨_,rfl⟩
      have c9:wr.cell? ⟨kb,koff+j,none⟩=some (.string ch):=by rw[wI];have:=xg 0 _ rfl;simpa using this
      have cV:=zbk zli cF.at ch;rw[zm9]at cV;have xr:(Instr.lookup 84 (.map (some w.heap.size)) (.string ch) false).run Tryz.prog wr=.ok (.bool (out2.any (zae ch))) wr:=cV;clear cV;have cQ:(j:Int)<(ks.length:Int):=Mcy;have sk:(0:Int)<=(j:Int):=Mcy;have CW:j<(zai s x).length:=by rw[fg.o];exact ae
      have wM:(zai s x)[j]=ch:=by rw[wI];simp only[fg.o]
      obtain⟨p9,Hl,dj,pf⟩:=yH4 wM wI mQ cF;clear xg wI wM mQ cF;cases aH:out2.any (zae ch)
      ·have mN:ch∉out2:=fun h=>by rw[zdV.2 h]at aH;cases aH
       obtain⟨bW,qC⟩:=yH2 aH mN;rw[aH]at xr;clear aH mN;obtain⟨es,c00,nL,Aa⟩:=pf.o;have nZ:=zHi nL;clear nL Aa
       go_wp2_with (first
        |(at_mapUpdate;obtain⟨w1,hrun,cd,bB,dN⟩:=zbY zli pf.o ch true;go_loud(refine zc4 rfl _ _ _ rfl _ _ _ rfl rfl rfl w1 hrun ?_))
        |(at_builtin;go_loud(refine zat (v:=u6) (n:=xs2.length) (m:=1) rfl _ _ rfl zbB za9 zbA rfl ((dj.o.keptM bB nZ.o).keep (n:=w1.heap.size) (zad (Below.refl _ _) _)) rfl rfl rfl (zcl (zar _ _ _ dN.symm)) McS Mcy McD ?_);intro v3 w3 h1 h2 h3))
       go_roundg (ks.length-(j+1))
       case measure=>omega
       case rel=>
        refine⟨j+1,out2++[ch],xs2++[ch],by omega,Nat.le_refl _,by go_num,h1,?_,?_,?_,?_,?_,?_⟩
        ·have J2:MapS (w1.alloc (.cells #[.string ch] 9)) w.heap.size ekS evB (outM (out2++[ch])):=by
          have:=cd.below (n:=w1.heap.size) (zad (Below.refl _ _) (.cells #[.string ch] 9));rwa [out_put qC.o]at this
         exact J2.grown h2 (fun e=>by
          have aS:OwnS w1 w.heap.size 9 1 sC _ xs2:=dj.o.keptM bB nZ.o;obtain⟨es1,c01,sA,_⟩:=cd;rcases aS with⟨e1,_⟩|⟨g1,o1,cp1,cur1,e1,_,mB,_⟩
          ·rw[e1]at e;cases e
          ·rw[e1]at e;simp only[za5,Option.some.injEq]at e;subst e;rw[sA]at mB
           simp at mB)
        ·have dS:Below w.heap.size w (w1.alloc (.cells #[.string ch] 9)):=zad (bG.grown bB bG.size (fun k e=>by cases e;exact Nat.le_refl _)) _;exact dS.grown h2 dS.size (fun k e=>(dj.o.ge k e).1)
        ·have:=h2.size;simp at this;omega
        ·have:=znA fX.o CW (by rw[p9.o];exact qC.o);rwa [p9.o]at this
        ·have cW:=znA fX.o CW (by rw[p9.o];exact qC.o);rw[p9.o]at cW;have:=zkj cW.nd cW.desc;simp at this⊢;omega
        ·simp;omega
      ·have mN:ch∈out2:=zdV.1 aH;have qC:=zHi mN;rw[aH]at xr;clear aH mN;go_wp2_with fail
       go_roundg (ks.length-(j+1))
       case measure=>omega
       case rel=>exact⟨j+1,out2,xs2,by omega,Nat.le_refl _,by go_num,dj.o,pf.o,bG,oW,look_old fX.o CW (by rw[p9.o];exact qC.o),CM,sR⟩
     ·have cQ:¬(j:Int)<(ks.length:Int):=Mcy;have cA:j=(zai s x).length:=by rw[fg.o];omega
      have kH:Hid (Found s nm out2 xs2):=look_end (by rw[<-cA];exact fX.o);clear cA;go_wp2_with fail
      go_roundg ((s.children.length-out2.length)+xs2.length)
      case measure=>omega
      case rel=>exact⟨out2,xs2,mQ,cF,bG,oW,kH,Nat.le_refl _,by omega⟩
open Classical in
theorem zho(base b:Nat)(s:St)(nm of:ByteArray)(w:World)(hW:PeoAt base w b s)(hl:s.children.length<=100000):
 Calls Tryz.prog 51 #[.pointer (some ⟨b,0,none⟩),.string nm,.string of] w (Ret w (.bool (decide (Desc s of nm)))):=by
 go_enter Tryz.func51,Tryz.ntmps51
 go_wp2_with (go_at_call 44
              refine(znL base b s of _ hW hl).mono ?_;rintro e wq ⟨out,rfl,hm,hf,hB⟩;have cV:(Instr.lookup 84 (.map (some w.heap.size)) (.string nm) false).run Tryz.prog wq=.ok (.bool (out.any (zae nm))) wq:=by
               have:=zbk zli hm.at nm;rw[zm9]at this
               exact this)
 go_ret
 refine Ret.of (zaO ?_) hB;rw[Bool.eq_iff_iff,zdV,decide_eq_true_eq];exact zla hf nm
end
attribute [local go_sem] zan zac
theorem ix_step{gs:List Grave}{f:Grave->Bool}{k:Nat}(h:k<gs.length):((gs.drop k).findIdx? f).map (· +k)=if f gs[k]then some k else((gs.drop (k+1)).findIdx? f).map (· +(k+1)):=by
 rw[List.drop_eq_getElem_cons h,List.findIdx?_cons];split
 ·simp
 ·rw[Option.map_map];congr 1
  funext x
  show x+1+k=x+(k+1);omega
theorem ix_end{gs:List Grave}{f:Grave->Bool}{k:Nat}(h:gs.length<=k):((gs.drop k).findIdx? f).map (· +k)=none:=by
 rw[List.drop_eq_nil_of_le h];rfl
theorem ix_start(gs:List Grave)(f:Grave->Bool):gs.findIdx? f=((gs.drop 0).findIdx? f).map (· +0):=by
 rw[List.drop_zero];cases gs.findIdx? f<;>rfl
def zln(ps:List Nat)(i:Option Nat):Value:=.pointer (i.map fun i=>⟨ps.getD i 0,0,none⟩)
theorem zjA(base b:Nat)(s:St)(la co:Int)(place:ByteArray)(day:Int)(w:World){B ps:List Nat}{d c p wl r:Nat}{mv tv:Value}(hC:WldC w b d c p wl r mv tv la co)(hT:TombsAt base w B tv ps s.graves)(hl:s.graves.length<=100000):
 Calls Tryz.prog 31 #[.pointer (some ⟨b,0,none⟩),.string place,.int .i64 day] w (Ret w (zln ps (zaR s place day))):=by
 obtain⟨A,cc,rfl,hS,ah⟩:=hT.own.sl zdb;have hb:=zab hC;unfold WldC at hC;have c6:w.cell? ⟨b,6,none⟩=some (.slice A ps.length cc):=by simp[World.cell?,hC]
 have dL:=hT.len;obtain⟨HT,HS⟩:=yH2 hT.all hS;clear hC hT hS;have hR:zaR s place day=((s.graves.drop 0).findIdx? fun g=>zae g.place place&&zaV g day).map (· +0):=ix_start _ _;generalize zaR s place day=R at*;generalize s.graves=gs at*;have HR:=zHi hR;clear hR;go_enter Tryz.func31,Tryz.ntmps31
 go_wp2_with fail
 go_loopw [14] (fun i wr=>∃k:Nat,k<=ps.length/\i=.int .i64 k/\Hid (R=((gs.drop k).findIdx? fun g=>zae g.place place&&zaV g day).map (· +k))/\∃z,wr=w.ext z) (fun i _=>ps.length-(intOf i).toNat)
 case atStart=>exact⟨0,Nat.zero_le _,rfl,HR.o,zaY (Below.refl _ _)⟩
 case round=>
  obtain⟨k,hk,rfl,HX,z,rfl⟩:=hrel;by_cases ae:k<ps.length
  ·obtain⟨b',off,rfl,cJ,hc⟩:=(HS.o.keep (zaq w z)).at ae;have cz:k<gs.length:=Mcy;obtain⟨H,aN,D,dc,fr,t1,t2,t3,t4,t5,t6,t7⟩:=(HT.o k _ _ (List.getElem?_eq_getElem ae) (List.getElem?_eq_getElem cz)).keep (zaq w z);have aq:=HX.o.trans (ix_step cz);have aB:=zHi aq;have iw:ps.getD k 0=ps[k]:=Mdm;have It:=zHi iw;clear aq iw t5 t6 t7;generalize ps[k]=T at*;generalize gs[k]=g at*;have df:=zab t1;unfold zby at t1;have k0:(w.ext z).cell? ⟨T,0,none⟩=some (.string g.place):=Met;have k3:(w.ext z).cell? ⟨T,3,none⟩=some (.int .i64 g.fin):=Met;have k4:(w.ext z).cell? ⟨T,4,none⟩=some (.slice H g.holders.length aN):=Met;have cp:(w.ext z).cell? ⟨b',off+k,none⟩=some (.pointer (some ⟨T,0,none⟩)):=Mdr;obtain⟨K3,K4⟩:=yH2 k3 k4;have ar:(k:Int)<(ps.length:Int):=Mcy;have aQ:(0:Int)<=(k:Int):=Mcy;clear t1 hc k3 k4;go_wp2_with (go_at_call 34;refine(zip g H aN T day _ K3.o K4.o).mono ?_;intro e wq hq;rcases Ret.bools hq with⟨zq,rfl,⟨hb,rfl⟩|⟨hb,rfl⟩⟩<;>clear hq)
   all_goals first
    |(go_ret
      have cT:R=some k:=by rw[aB.o];simp[zeb,ze2, *]
      rw[cT];refine Ret.of ?_ Bw;show _=Value.pointer (some ⟨ps.getD k 0,0,none⟩);rw[It.o]
      rfl)
    |(go_round
      case rel=>exact⟨k+1,by omega,by go_num,(by rw[aB.o];simp[zeb,ze2, *]:_=_),zaY Bw⟩
      case measure=>simp[intOf];omega)
  ·have ar:¬(k:Int)<(ps.length:Int):=Mcy;have he:=HX.o.trans (ix_end (f:=fun g=>zae g.place place&&zaV g day) (by omega:gs.length<=k));have HE:=zHi he;clear he;go_wp2_with fail
   go_ret
   exact Ret.of (by rw[HE.o];rfl) Bw
theorem TombAt.kept{base k T:Nat}{W W':World}{B:List Nat}{g:Grave}{cs:Array Value}{t:TypeId}{fr:Nat×Nat}(h:TombAt W base B T g)(hg:W.grownBy W' (some k))(hx:W.heap[k]?=some (.cells cs t fr))(ai:T≠k)(h1:t≠71)(h2:t≠9):TombAt W' base B T g:=by
 obtain⟨H,hc,D,dc,fr',t1,t2,t3,t4,t5,t6,t7⟩:=h;exact⟨H,hc,D,dc,fr',(hg.block T (zab t1) (fun e=>ai MdJ)).trans t1,t2,t3,t4,t5.kept hg hx h1,t6.kept hg hx h2,t7⟩
theorem TombAt.ne{base k T:Nat}{W:World}{B:List Nat}{g:Grave}{cs:Array Value}{t:TypeId}{fr:Nat×Nat}(h:TombAt W base B T g)(hx:W.heap[k]?=some (.cells cs t fr))(h1:t≠95):T≠k:=by
 obtain⟨H,hc,D,dc,fr',t1,t2,_⟩:=h;rintro rfl;rw[t1]at hx;simp only[Option.some.injEq,Obj.cells.injEq]at hx;exact h1 hx.2.1.symm
theorem TombsAt.mem{base:Nat}{W:World}{B ps:List Nat}{tv:Value}{gs:List Grave}(h:TombsAt base W B tv ps gs){T:Nat}(hT:T∈ps):∃g,TombAt W base B T g:=by
 obtain⟨i,hi,rfl⟩:=List.getElem_of_mem hT;exact⟨_,h.all i _ _ (List.getElem?_eq_getElem hi) (List.getElem?_eq_getElem (by have:=h.len;omega))⟩
theorem TombsAt.lt{base:Nat}{W:World}{B ps:List Nat}{tv:Value}{gs:List Grave}(h:TombsAt base W B tv ps gs){T:Nat}(hT:T∈ps):T<W.heap.size:=by
 obtain⟨g,H,hc,D,dc,fr',t1,_⟩:=h.mem hT;exact zab t1
theorem TombsAt.kept{base k:Nat}{W W':World}{B ps:List Nat}{tv:Value}{gs:List Grave}{cs:Array Value}{t:TypeId}{fr:Nat×Nat}(h:TombsAt base W B tv ps gs)(hg:W.grownBy W' (some k))(hx:W.heap[k]?=some (.cells cs t fr))(h1:t≠71)(h2:t≠9)(h3:t≠95)(h4:t≠80):TombsAt base W' B tv ps gs:=
 ⟨h.own.kept hg hx h4,h.len,h.nd,fun i T g e1 e2=>(h.all i T g e1 e2).kept hg hx ((h.all i T g e1 e2).ne hx h3) h1 h2⟩
theorem wldC_set6{W:World}{b d c p wl r:Nat}{mv tv:Value}{la co:Int}(h:WldC W b d c p wl r mv tv la co)(v':Value):WldC (W.setCell ⟨b,6,none⟩ v') b d c p wl r mv v' la co:=by
 unfold WldC at*;have:=Joins.block_setCell (i:=6) h v';simpa using this
theorem wld_push{base b:Nat}{W w1:World}{B ps:List Nat}{d c p wl r T:Nat}{mv tv v':Value}{s:St}{g:Grave}{la co:Int}(hb:base<=b)(hC:WldC W b d c p wl r mv tv la co)(hP:PplAt base W B d c p wl r mv s)(hT:TombsAt base W B tv ps s.graves)
 (hN:TombAt W base B T g)(hn:T∉ps)(h1:OwnS w1 base 80 1 ptrC v' (ps++[T]))(h2:W.grownBy w1 (za5 tv))(h3:∀k,za5 v'=some k->za5 tv=some k\/W.heap.size<=k):
 WldAt base (w1.setCell ⟨b,6,none⟩ v') b {s with graves:=s.graves++[g]} la co/\WldC w1 b d c p wl r mv tv la co:=by
 have dg:=zab hC;have aa:=hT.own;have bh:∀k,za5 tv=some k->∃cs fr,W.heap[k]?=some (.cells cs 80 fr):=fun k hk=>by
  exact Ma6
 have jk:za5 tv≠some b:=fun e=>by
  obtain⟨cs,fr,hx⟩:=bh b e;exact Mb0
 have cO:WldC w1 b d c p wl r mv tv la co:=(h2.block b dg (fun e=>jk e.symm)).trans hC;have vX:PplAt base w1 B d c p wl r mv s:=by
  cases hk:za5 tv with
  |none=>rw[hk]at h2;exact hP.keep (n:=W.heap.size) ⟨h2.os,h2.tape,h2.output,h2.size,fun i hi=>h2.block i hi McB⟩
  |some k=>
   obtain⟨cs,fr,hx⟩:=bh k hk;rw[hk]at h2;exact hP.kept h2 hx McA McA McA
 have b9:∀ {T':Nat} {g':Grave},TombAt W base B T' g'->TombAt w1 base B T' g':=fun {T' g'} h=>by
  cases hk:za5 tv with
  |none=>rw[hk]at h2;exact h.keep (n:=W.heap.size) ⟨h2.os,h2.tape,h2.output,h2.size,fun i hi=>h2.block i hi McB⟩
  |some k=>
   obtain⟨cs,fr,hx⟩:=bh k hk;rw[hk]at h2;exact h.kept h2 hx (h.ne hx McA) McA McA
 refine⟨?_,cO⟩;have aI:=zav w1 b 6 v';refine⟨B,d,c,p,wl,r,mv,v',ps++[T],hb,wldC_set6 cO v',?_,?_⟩
 ·have:=vX.kept aI cO McA McA McA;exact⟨this.nd,this.ge,this.dead,this.rows,this.marr,this.wills,this.ren⟩
 ·refine⟨h1.kept aI cO McA,by simp[hT.len],?_,fun i T' g' e1 e2=>?_⟩
  ·rw[List.nodup_append];exact⟨hT.nd,by simp,fun a ha b' cJ e=>by rw[List.mem_singleton.1 cJ]at e;exact hn (e▸ha)⟩
  ·have fP:TombAt w1 base B T' g':=by
    by_cases hi:i<ps.length
    ·have Kl:i<s.graves.length:=by have:=hT.len;omega
     rw[List.getElem?_append_left hi]at e1;rw[List.getElem?_append_left Kl]at e2;exact b9 (hT.all i T' g' e1 e2)
    ·have tU:i=ps.length:=by have:=(List.getElem?_eq_some_iff.1 e1).1;simp at this;omega
     subst tU;simp at e1;rw[hT.len]at e2;simp at e2;subst e1 e2;exact b9 hN
   exact fP.kept aI cO (fP.ne cO McA) McA McA
def KeepD(w w':World):Prop:= ∀(k:Nat) (cur:Array Value) (fr:Nat×Nat),w.heap[k]?=some (.cells cur 76 fr)->w'.heap[k]?=w.heap[k]?
section
variable {w w' w2:World}
theorem KeepD.below(h:Below w.heap.size w w'):KeepD w w':=fun k _ _ hk=>h.block k (zab hk)
theorem KeepD.trans(h:KeepD w w')(h2:KeepD w' w2):KeepD w w2:=fun k cur fr hk=>by
 have e:=h k cur fr hk;exact(h2 k cur fr (e.trans hk)).trans e
theorem KeepD.cells{g:Nat}{cs:Array Value}{t:TypeId}{fr:Nat×Nat}(hg:w.grownBy w' (some g))(hx:w.heap[g]?=some (.cells cs t fr))(ai:t≠76):KeepD w w':=fun k cur f hk=>
 hg.block k (zab hk) (fun e=>by
  simp only[Option.some.injEq]at e;subst e;rw[hx]at hk;simp only[Option.some.injEq,Obj.cells.injEq]at hk
  exact ai hk.2.1)
theorem KeepD.map{g:Nat}{es:Array MapEntry}{c:Nat}(hg:w.grownBy w' (some g))(hx:w.heap[g]?=some (.map es c)):KeepD w w':=fun k cur f hk=>
 hg.block k (zab hk) (fun e=>by
  simp only[Option.some.injEq]at e;subst e;rw[hx]at hk
  simp at hk)
theorem KeepD.own{α:Type}{base:Nat}{e:TypeId}{size:Nat}{f:α->List Value}{v:Value}{xs:List α}(h:OwnS w base e size f v xs)(hg:w.grownBy w' (za5 v))(ai:e≠76):KeepD w w':=by
 rcases h with⟨rfl,_⟩|⟨g,o,c,cur,rfl,_,hx,_⟩
 ·exact fun k cur f hk=>hg.block k (zab hk) Mdn
 ·exact KeepD.cells hg hx ai
end
def zbH(base b:Nat)(x:St×Int)(la co:Int)(w:World)(e:Ending)(w':World):Prop:=
 e=.returned (.int .i64 x.2)/\WldAt base w' b x.1 la co/\Below base w w'/\KeepD w w'
def Deed.v(d:Deed)(B:Option Addr)(c:Nat):Value:=.agg #[.int .i64 d.kind,.int .i64 d.day,.string d.place,.string d.frm,.slice B d.to.length c,.int .i64 d.cls,.int .i64 d.years]
theorem zix{p:RPart}(h:za8 16 p.num p.den=true):p.rat.num=p.num/\(p.rat.den:Int)=p.den:=⟨(zbm h).1,(zbm h).2.1⟩
theorem zo6(l:List RPart){k:Nat}(h:k<l.length):zbc (l.take (k+1)) []=za3 (zbc (l.take k) []) l[k].name l[k].rat:=by
 rw[List.take_succ_eq_append_getElem h];unfold zbc;rw[List.foldl_append];rfl
theorem sl_ptr{w:World}{b T:Nat}{t:TypeId}{fr:Nat×Nat}(h:w.heap[b]?=some (.cells #[.pointer (some ⟨T,0,none⟩)] t fr)):Sl w 1 ptrC (some ⟨b,0,none⟩) [T]:=fun _=>⟨b,0,rfl,zab h,fun k y hy j u hu=>by
 have hk:k=0:=McK;subst hk;simp only[List.getElem?_cons_zero,Option.some.injEq]at hy;subst hy;match j,hu with
 |0,hu=>simp[ptrC]at hu;simp[World.cell?,h,<-hu]
 |j+1,hu=>simp[ptrC]at hu⟩
theorem zhp:∀ {l:List RPart} {out:Parts} {seen:List ByteArray},zcY l seen=true->(∀p∈out,p.1∈seen)->∀k (h:k<l.length),zag (zbc (l.take k) out) l[k].name=0
 | [],_,_,_,_,_,h=>absurd h McB
 |p::l,out,seen,hf,ho,0,_=>by
  rw[zcY,Bool.and_eq_true]at hf;have h1:p.name∉seen:=by
   have:=hf.1;simp only[Bool.not_eq_true']at this;intro h;rw[zdV.2 h]at this;cases this
  exact(zdD fun q hq e=>h1 (by have e':q.1=p.name:=e;rw[<-e'];exact ho q hq)).1
 |p::l,out,seen,hf,ho,k+1,h=>by
  rw[zcY,Bool.and_eq_true]at hf
  exact zhp (l:=l) (out:=za3 out p.name p.rat) hf.2 (fun q hq=>by
   rcases zeS hq with e|hq
   ·rw[e];simp
   ·exact List.mem_cons_of_mem _ (ho q hq)) k Mdl
theorem zbN{base b:Nat}{s:St}{x:St×Int}{la co er:Int}{w w':World}(hW:WldAt base w b s la co)(hB:Below w.heap.size w w')(hx:x=(s,er)):zbH base b x la co w (.returned (.int .i64 er)) w':=by
 rw[hx];exact⟨rfl,hW.keep hB,hB.mono (by have:=hW.lt;omega),KeepD.below hB⟩
theorem zmA{shares all:Bool}{frm:ByteArray}{l:List RPart}(h:zcC shares all frm l=true):zcY l []=true/\∀p∈l,zae p.name frm=false:=by
 unfold zcC at h;simp only[Bool.and_eq_true,List.all_eq_true,Bool.not_eq_true']at h;exact⟨h.1.1,h.1.2⟩
theorem set_lit(base T:Nat)(xs:Parts)(v:Value)(pl:ByteArray)(cl fr en:Int)(dv:Value)(p:RPart)(w:World)(hp:za8 16 p.num p.den=true)(hT:zby w T pl cl fr en v dv)(rK:base<=T)(aa:OwnS w base 71 3 zaa v xs)(hA:AscP xs)(hl:xs.length<=90000):
 Calls Tryz.prog 152 #[.pointer (some ⟨T,0,none⟩),.string p.name,.agg #[.int .i64 p.num,.int .i64 p.den]] w (zkn w base T pl cl fr en dv v (setP xs p.name p.rat)):=by
 have h:=zir base T xs v pl cl fr en dv p.name p.rat w hT rK aa hA hl;rw[(zix hp).1,(zix hp).2]at h;exact h
theorem good_take{l:List RPart}(h:∀p∈l,0<p.rat/\IsN 720720 p.rat/\za8 16 p.num p.den=true)(k:Nat):GoodParts (zbc (l.take k) []):=
 (zig (l:=l.take k) zd6 McB fun p hp=>⟨(h p (List.mem_of_mem_take hp)).1,(h p (List.mem_of_mem_take hp)).2.1⟩).1
theorem zcx(n:ByteArray)(q:Rat):∀l:Parts,(za3 l n q).length<=l.length+1
 | []=>by unfold za3;split<;>simp
 |p::l=>by
  have:=zcx n q l;unfold za3;split
  ·simp
  ·split
   ·simpa using this
   ·split<;>simp<;>omega
theorem zff:∀(l:List RPart) (out:Parts),(zbc l out).length<=out.length+l.length
 | [],out=>by simp[zbc]
 |p::l,out=>by
  have h1:=zff l (za3 out p.name p.rat);have h2:=zcx p.name p.rat out;show(zbc l (za3 out p.name p.rat)).length<=_;simp;omega
theorem grant_any(base b:Nat)(s:St)(la co:Int)(d:Deed)(B:Option Addr)(c:Nat)(w:World)(hW:WldAt base w b s la co)(hL:LensIn w)(hd:OkD d)(hk:d.kind=0)(ag:s.graves.length<=1000)(ay:d.to.length<=c)(hS:Sl w 3 RPart.cells B d.to):
 Calls Tryz.prog 121 #[.pointer (some ⟨b,0,none⟩),d.v B c] w (zbH base b (zcO s d) la co w):=by
 have am:=hW;obtain⟨Bk,dd,cc,pp,wl,rr,mv,tv,ps,ba,hC,hP,hT⟩:=hW;have hp:=(hd.parts (.inl hk)).2;have bA:=(zdW hp).1;have zR:=(zmA hp).1;have cf:=hd.day;have dU:=hd.years;have bu:=hd.len;clear hp hd hk;obtain⟨kd,dy,pl,fr,ts,cl,yr⟩:=d;simp only at*;have dg:=zab hC;obtain⟨bW,uo,ak,HW,gK,Hx,HC,HP⟩:=yH8 (fun W (hB:Below w.heap.size w W)=>zjA base b s la co pl dy W (hC.keep hB) (hT.keep hB) Mcy) (fun W (hB:Below w.heap.size w W)=>zis base b s ts B _ c W rfl Mcy (am.peo.keep hB) (hS.keep hB)) (fun W (hB:Below w.heap.size w W)=>zj7 dy yr W (hL.keep hB) cf.1 cf.2 dU.1 dU.2) am bA zR hC hP;obtain⟨HT,HS⟩:=yH2 hT hS;clear am hC hP hT hS bA zR hL;unfold Deed.v;simp only;go_enter Tryz.func121,Tryz.ntmps121
 go_upto_block 0 with fail
 cases aU:zaR s pl dy with
 |some i=>
  rw[aU]at bW;have HG:Hid (zcO s ⟨kd,dy,pl,fr,ts,cl,yr⟩=(s,13)):=by show _=_;simp[zcO,aU]
  clear aU;go_wp2_with (go_at_call 31;refine(bW.o _ Bw).mono ?_;rintro e wq ⟨rfl,z,rfl⟩;simp only[zln,Option.map_some])
  go_ret
  exact zbN HW.o Bw HG.o
 |none=>
  rw[aU]at bW;have kK:=zHi aU;clear aU;go_cut [5]from 9 (fun v wc=>v=.int .i64 (if decide (0<yr)then zcd dy yr else-1)/\Hid (zcO s ⟨kd,dy,pl,fr,ts,cl,yr⟩=({s with graves:=s.graves++[⟨pl,cl,if decide (0<yr)then zcd dy yr else-1,zbc ts [],[]⟩]},0))/\Below w.heap.size w wc/\w.heap.size<wc.heap.size/\wc.heap[w.heap.size]?=some (.cells #[.int .i64 kd,.int .i64 dy,.string pl,.string fr,.slice B ts.length c,.int .i64 cl,.int .i64 yr] 76))
  case first=>
   generalize hR:zcd dy yr=R at*;have HR:=zHi hR;clear hR
   go_wp2_with (first
    |(go_at_call 31;refine(bW.o _ Bw).mono ?_;rintro e wq ⟨rfl,z,rfl⟩;simp only[zln,Option.map_none])
    |(go_at_call 150;refine(uo.o _ Bw).mono ?_;intro e wq hq;rcases Ret.bools hq with⟨zq,rfl,⟨hb,rfl⟩|⟨hb,rfl⟩⟩<;>clear hq)
    |(go_at_call 151;refine(ak.o _ Bw).mono ?_;rintro e wq ⟨rfl,z2,rfl⟩))
   all_goals first
    |(go_ret
      exact zbN HW.o Bw (by simp[zcO,kK.o,HR.o, *]))
    |(go_meet
      refine⟨(by first|(simp[*];done)|(simp[*];omega)),(by first|(simp[zcO,kK.o,HR.o, *];done)|(simp[zcO,kK.o,HR.o, *];omega):_=_),Bw,by simp[zaf];omega,?_⟩
      repeat(first|exact zar _ _ _ rfl|with_reducible refine zbD ?_|with_reducible refine zal ?_))
  case rest=>
   obtain⟨rfl,HG,hB,hsz,g0⟩:=hcut;generalize(if decide (0<yr)=true then zcd dy yr else-1)=en at*;clear bW uo ak;obtain⟨d0,d1,d2,d3,d4,d5,d6⟩:=cF7 g0;have ai:w.heap.size≠wc.heap.size:=Mcy;have rK:base<=wc.heap.size:=Mcy;have ei:wc.heap.size∉ps:=fun h=>by have:=HT.o.lt h;omega
   have G0:=zHi g0;clear g0;go_wp2_with fail
   go_loopw [45] (fun i wr=>∃(k:Nat) (v:Value),k<=ts.length/\i=.int .i64 k/\zby wr wc.heap.size pl cl dy en v (.slice none 0 0)/\OwnS wr wc.heap.size 71 3 zaa v (zbc (ts.take k) [])/\Below wc.heap.size wc wr) (fun i _=>ts.length-(intOf i).toNat)
   case atStart=>exact⟨0,.slice none 0 0,Nat.zero_le _,rfl,zar _ _ _ rfl,OwnS.nil,Bw⟩
   case round=>
    obtain⟨k,v,hk,rfl,wf,vV,nz⟩:=hrel;have fj:Below w.heap.size w wr:=hB.trans (nz.mono Mcy);have uf:=nz.size;have df:=zab wf;have bN:=good_take gK.o k;have cz:=zff (ts.take k) [];have Kd:(ts.take k).length<=8:=Mdg;have yM:=zHi bN;simp only[List.length_nil,Nat.zero_add]at cz;clear bN;by_cases ae:k<ts.length
    ·obtain⟨b',off,rfl,cJ,hc⟩:=(HS.o.keep fj).at ae;have bU:=zhp (out:=[]) Hx.o McB k ae;have gB:=gK.o ts[k] (List.getElem_mem ae);have aI:=zo6 ts ae;generalize ts[k]=p at*;obtain⟨pn,pu,pd⟩:=p;have h0:wr.cell? ⟨b',off+k*3,none⟩=some (.string pn):=hc 0 _ rfl;have h1:wr.cell? ⟨b',off+k*3+1,none⟩=some (.int .i64 pu):=hc 1 _ rfl;have h2:wr.cell? ⟨b',off+k*3+2,none⟩=some (.int .i64 pd):=hc 2 _ rfl;have HN:Hid (setP (zbc (ts.take k) []) pn (RPart.rat ⟨pn,pu,pd⟩)=zbc (ts.take (k+1)) []):=by
      show _=_;have:=zik yM.o (n:=pn) (q:=RPart.rat ⟨pn,pu,pd⟩) (by have:=gB.1;grind);simp only at bU;rw[bU,Rat.zero_add]at this;rw[this,aI]
     have fZ:=zHi (fun W (dD:Below wr.heap.size wr W)=>set_lit wc.heap.size wc.heap.size (zbc (ts.take k) []) v pl cl dy en (.slice none 0 0) ⟨pn,pu,pd⟩ W gB.2.2 ((dD.block _ df).trans wf) (Nat.le_refl _) (vV.keep dD) yM.o.asc Mcy);have ar:(k:Int)<(ts.length:Int):=Mcy;have aQ:(0:Int)<=(k:Int):=Mcy;have fq:(k:Int)<=(c:Int):=Mcy;clear hc bU gB aI wf vV;go_wp2_with (go_at_call 152;refine(fZ.o _ Bw).mono ?_;rintro e wq ⟨rfl,v',t1,t2,t3,_⟩)
     go_round
     case rel=>exact⟨k+1,v',by omega,by go_num,t1,by rw[<-HN.o];exact t2,Below.trans Bw t3⟩
     case measure=>simp[intOf];omega
    ·have ar:¬(k:Int)<(ts.length:Int):=Mcy;rw[List.take_of_length_le Mcy]at vV;obtain⟨HA,pE,rfl,CZ,dX⟩:=vV.ro;have hN:TombAt wr base Bk wc.heap.size ⟨pl,cl,en,zbc ts [],[]⟩:=⟨HA,pE,none,0,dy,wf,rK,CZ,Nat.le_refl _,dX,Ro.nil,by simp⟩
     have HN:=zHi hN;have zk:WldC wr b dd cc pp wl rr mv tv la co:=HC.o.keep fj;unfold WldC at zk;obtain⟨-,-,-,-,-,-,c6⟩:=cF7 zk;have Ct:b<wr.heap.size:=zab zk;have iN:ps.length<=1000:=by rw[HT.o.len];exact ag
     have eT:=HT.o.own.ge;have Hz:=zHi eT;clear wf vV dX hN zk eT
     go_wp2_with (at_builtin
                  go_loud(refine zat (v:=tv) (n:=ps.length) (m:=1) rfl _ _ rfl elTomb zdb znI rfl (HT.o.own.keep (n:=w.heap.size) Bw) rfl rfl rfl (sl_ptr (zar _ _ _ rfl)) McS Mcy McD ?_)
                  intro v3 w3 h1 h2 h3;obtain⟨A3,q3,GC,_,_⟩:=h1.sl zdb;rw[List.length_append]at GC;subst GC;go_loud(obtain⟨pV,mn⟩:=wld_push ba (HC.o.keep (n:=w.heap.size) Bw) (HP.o.keep (n:=w.heap.size) Bw) (HT.o.keep (n:=w.heap.size) Bw) (HN.o.keep (n:=wr.heap.size) Bw) ei h1 h2 h3)
                  have jE:=zHi pV;go_loud(have ax:=Below.grown (B:=base) (a:=w) (Below.mono (B:=w.heap.size) Bw Mcy) h2 McD (fun j hj=>(Hz.o j hj).1))
                  go_loud(have bS:=((KeepD.below (w:=w) Bw).trans (KeepD.own (HT.o.own.keep (n:=w.heap.size) Bw) h2 McA)).trans (KeepD.cells (zav w3 b 6 (.slice A3 (ps.length+[wc.heap.size].length) q3)) mn McA))
                  have jT:=zHi bS;unfold WldC at mn;have k6:w3.cell? ⟨b,6,none⟩=some tv:=(by simp only[World.cell?,mn];rfl)
                  have f6:w3.frozen? ⟨b,6,none⟩=false:=(by simp only[World.frozen?,mn];rfl)
                  have aD:=zHi ax
                  clear pV mn ax h1 h2 h3 bS)
     go_ret
     rw[HG.o];exact⟨rfl,jE.o,zaP aD.o ba _,jT.o⟩
def zlo{α:Type}(w:World)(e:TypeId)(size:Nat)(f:α->List Value)(xs:List α)(en:Ending)(w':World):Prop:=
 ∃v,en=.returned v/\OwnS w' w.heap.size e size f v xs/\Below w.heap.size w w'
theorem ze9(xs:List (ByteArray×Rat))(L:Option Addr)(n lc:Nat)(w:World)(hn:n=xs.length)(hl:xs.length<=100000)(hS:Sl w 3 zaa L xs):
 Calls Tryz.prog 154 #[.slice L n lc] w (zlo w 71 3 zaa xs):=by
 have HM:=zHi hn;have q22:∀(w:World) (a:Option Addr) (n c n' c':Nat),(binOp .eql 48 (.slice a n c) (.slice none n' c')).run Tryz.prog w=.ok (.bool a.isNone) w:=fun w a n c n' c'=>Lib.run_eql_slice_nil w _ _ a n c n' c' Tryz.underlying48
 clear hn;go_enter Tryz.func154,Tryz.ntmps154
 cases L with
 |none=>
  exact MaG
 |some ad=>
  go_wp2_with (at_builtin;refine zeK rfl _ _ rfl zdN zap zcb rfl (World.ownsRow_made w #[] 0 (Nat.le_refl _) (Nat.zero_le _) McB) rfl HM.o (hS.keep Bw) ?q1 ?q2 McB ?_)
  case q1=>simp[maxLen,HM.o];omega
  case q2=>simp[HM.o];omega
  intro v' w' h1 h2 h3;go_wp2_with fail
  go_ret
  refine⟨v',rfl,OwnS.of_own zap (by simpa[HM.o]using h1),Below.grown Bw h2 McB (by intro k hk;simp[Value.ownBlock]at hk;omega)⟩
theorem zhq(xs:List ByteArray)(L:Option Addr)(n lc:Nat)(w:World)(hn:n=xs.length)(hl:xs.length<=100000)(hS:Sl w 1 sC L xs):
 Calls Tryz.prog 117 #[.slice L n lc] w (zlo w 9 1 sC xs):=by
 have HM:=zHi hn;have q22:∀(w:World) (a:Option Addr) (n c n' c':Nat),(binOp .eql 36 (.slice a n c) (.slice none n' c')).run Tryz.prog w=.ok (.bool a.isNone) w:=fun w a n c n' c'=>Lib.run_eql_slice_nil w _ _ a n c n' c' Tryz.underlying36
 clear hn;go_enter Tryz.func117,Tryz.ntmps117
 cases L with
 |none=>
  exact MaG
 |some ad=>
  go_wp2_with (at_builtin;refine zeK rfl _ _ rfl zbB za9 zbA rfl (World.ownsRow_made w #[] 0 (Nat.le_refl _) (Nat.zero_le _) McB) rfl HM.o (hS.keep Bw) ?q1 ?q2 McB ?_)
  case q1=>simp[maxLen,HM.o];omega
  case q2=>simp[HM.o];omega
  intro v' w' h1 h2 h3;go_wp2_with fail
  go_ret
  refine⟨v',rfl,OwnS.of_own za9 (by simpa[HM.o]using h1),Below.grown Bw h2 McB (by intro k hk;simp[Value.ownBlock]at hk;omega)⟩
def MarkAt(W:World)(C:Nat)(f:Bool):Prop:=W.heap[C]?=some (.cells #[.bool f] 200)
theorem MarkAt.drew{W:World}{C:Nat}{f:Bool}(h:MarkAt W C f):MarkAt W.drew C f:=h
theorem MarkAt.ext{W:World}{C:Nat}{f:Bool}(h:MarkAt W C f)(z:Ez):MarkAt (W.ext z) C f:=zbD h
theorem MarkAt.alloc{W:World}{C:Nat}{f:Bool}(h:MarkAt W C f)(o:Obj):MarkAt (W.alloc o) C f:=zal h
theorem MarkAt.keep{n:Nat}{W W':World}{C:Nat}{f:Bool}(h:MarkAt W C f)(hB:Below n W W')(hn:C<n):MarkAt W' C f:=(hB.block C hn).trans h
theorem MarkAt.grown{W W':World}{C:Nat}{f:Bool}{k:Nat}(h:MarkAt W C f)(hg:W.grownBy W' (some k))(hn:C≠k):MarkAt W' C f:=(hg.block C (zab h) (fun e=>hn MdJ)).trans h
theorem zah{n b o:Nat}{w W:World}(h:Below n w W)(hb:b<n):W.cell? ⟨b,o,none⟩=w.cell? ⟨b,o,none⟩:=h.cell (p:=⟨b,o,none⟩) hb
theorem zbb{k b o:Nat}{w W:World}(h:w.grownBy W (some k))(hb:b<w.heap.size)(hk:b≠k):W.cell? ⟨b,o,none⟩=w.cell? ⟨b,o,none⟩:=
 World.cell?_of_block (w:=w) (h.block b hb (fun e=>hk MdJ))
def zeA(w:World)(C:Nat)(f:Bool)(r:Rat)(e:Ending)(w':World):Prop:=
 e=.returned (zaA (zbg r))/\MarkAt w' C (f||bigQ r)/\w.grownBy w' (some C)
theorem zlp(w:World)(z:Ez)(row:Option Nat):w.grownBy (w.ext z) row:=zkP (zdk w row) z
theorem ziy{w w':World}{C:Nat}{f:Bool}{r:Rat}{e:Ending}(hC:MarkAt w C f)(h:ze1 w C r e w'):zeA w C f r e w':=by
 unfold MarkAt at hC;rcases h with⟨hd,rfl,z,rfl⟩|⟨hd,rfl,z,rfl⟩
 ·have hb:bigQ r=false:=by unfold bigQ;simp;omega
  refine⟨by rw[zeX hb],?_,zlp _ _ _⟩;rw[hb,Bool.or_false];exact zbD hC
 ·have hb:bigQ r=true:=by unfold bigQ;simp;omega
  refine⟨by unfold zbg;rw[hb];rfl,?_,zkP (zav _ _ _ _) z⟩;rw[hb,Bool.or_true];refine zbD ?_;have:=Joins.block_setCell (i:=0) hC (.bool true);simpa using this
theorem zbS{w:World}{C:Nat}{f:Bool}(hC:MarkAt w C f):w.cell? ⟨C,0,none⟩=some (.bool f)/\C<w.heap.size/\w.frozen? ⟨C,0,none⟩=false:=by
 have h:=zab hC;unfold MarkAt at hC;exact⟨by simp[World.cell?,hC],h,by simp[World.frozen?,hC]⟩
theorem zhE(C:Nat)(f:Bool)(w:World)(hC:MarkAt w C f)(p q:Rat)(hp:zaI p)(hq:zaI q):Calls Tryz.prog 155 #[.pointer (some ⟨C,0,none⟩),zaA p,zaA q] w (zeA w C f (p*q)):=
 (cmul5_any C f w (zbS hC).1 (zbS hC).2.1 (zbS hC).2.2 p q hp hq).mono fun _ _ h=>ziy hC h
theorem zhF(C:Nat)(f:Bool)(w:World)(hC:MarkAt w C f)(p q:Rat)(hp:zaI p)(hq:zaI q):Calls Tryz.prog 156 #[.pointer (some ⟨C,0,none⟩),zaA p,zaA q] w (zeA w C f (p+q)):=
 (cadd5_any C f w (zbS hC).1 (zbS hC).2.1 (zbS hC).2.2 p q hp hq).mono fun _ _ h=>ziy hC h
theorem znM(C:Nat)(f:Bool)(w:World)(hC:MarkAt w C f)(p q:Rat)(hp:zaI p)(hq:zaI q)(h0:0<q):Calls Tryz.prog 157 #[.pointer (some ⟨C,0,none⟩),zaA p,zaA q] w (zeA w C f (p/q)):=
 (cquo5_any C f w (zbS hC).1 (zbS hC).2.1 (zbS hC).2.2 p q hp hq h0).mono fun _ _ h=>ziy hC h
theorem ziz{base b i T:Nat}{W W':World}{B ps:List Nat}{d c p wl r:Nat}{mv tv:Value}{s:St}{g':Grave}{la co:Int}{cs:Array Value}{fr:Nat×Nat}(hb:base<=b)(hC:WldC W b d c p wl r mv tv la co)(hP:PplAt base W B d c p wl r mv s)(hT:TombsAt base W B tv ps s.graves)
 (hi:ps[i]?=some T)(hx:W.heap[T]?=some (.cells cs 95 fr))(hg:W.grownBy W' (some T))(hN:TombAt W' base B T g'):WldAt base W' b (s.withGrave i g') la co:=by
 have rK:b≠T:=fun e=>by
  subst e;exact Mb0
 have cD:WldC W' b d c p wl r mv tv la co:=(hg.block b (zab hC) (fun e=>rK MdJ)).trans hC;refine⟨B,d,c,p,wl,r,mv,tv,ps,hb,cD,?_,?_⟩
 ·have:=hP.kept hg hx McA McA McA;exact⟨this.nd,this.ge,this.dead,this.rows,this.marr,this.wills,this.ren⟩
 ·refine⟨hT.own.kept hg hx McA,by simp[St.withGrave,hT.len],hT.nd,fun j T' g e1 e2=>?_⟩;simp only[St.withGrave]at e2;by_cases hj:i=j
  ·subst hj;rw[hi]at e1;have eV:i<s.graves.length:=MdU;exact Mbv
  ·exact Mal
theorem zet{base:Nat}{W:World}{B ps:List Nat}{tv:Value}{s:St}{place:ByteArray}{day:Int}{i:Nat}(hT:TombsAt base W B tv ps s.graves)(h:zaR s place day=some i):
 ∃T g,ps[i]?=some T/\ps.getD i 0=T/\s.graves[i]?=some g/\s.graves.getD i zga=g/\TombAt W base B T g/\zaV g day=true:=by
 obtain⟨g,h1,h2,h3⟩:=zce h;have hi:i<ps.length:=by have:=(List.getElem?_eq_some_iff.1 h1).1;have:=hT.len;omega
 refine⟨ps[i],g,List.getElem?_eq_getElem hi,by rw[List.getD_eq_getElem?_getD,List.getElem?_eq_getElem hi];rfl,h1,zfv h1,hT.all i _ g (List.getElem?_eq_getElem hi) h1,h3⟩
theorem zi0{W:World}{T:Nat}{cs0 cs1 cs2 cs3 cs4 cs5:Value}{fr:Nat×Nat}(h:W.heap[T]?=some (.cells #[cs0,cs1,cs2,cs3,cs4,cs5] 95 fr))(a0 a1 a2 a3 a4 a5:Value):
 ((((((W.setCell ⟨T,0,none⟩ a0).setCell ⟨T,1,none⟩ a1).setCell ⟨T,2,none⟩ a2).setCell ⟨T,3,none⟩ a3).setCell ⟨T,4,none⟩ a4).setCell ⟨T,5,none⟩ a5).heap[T]?=some (.cells #[a0,a1,a2,a3,a4,a5] 95 fr):=by
 have:=Joins.block_setCell (i:=5) (Joins.block_setCell (i:=4) (Joins.block_setCell (i:=3) (Joins.block_setCell (i:=2) (Joins.block_setCell (i:=1) (Joins.block_setCell (i:=0) h a0) a1) a2) a3) a4) a5;simpa using this
theorem zca(W:World)(T:Nat)(a0 a1 a2 a3 a4 a5:Value):W.grownBy ((((((W.setCell ⟨T,0,none⟩ a0).setCell ⟨T,1,none⟩ a1).setCell ⟨T,2,none⟩ a2).setCell ⟨T,3,none⟩ a3).setCell ⟨T,4,none⟩ a4).setCell ⟨T,5,none⟩ a5) (some T):=
 zbo (zbo (zbo (zbo (zbo (zav _ _ _ _) (zav _ _ _ _)) (zav _ _ _ _)) (zav _ _ _ _)) (zav _ _ _ _)) (zav _ _ _ _)
def zeB(l:List RPart):Rat:=1-sumQ (zao l)
theorem zlq(l:List RPart){k:Nat}(h:k<l.length):zeB (l.take (k+1))=zeB (l.take k)-l[k].rat:=by
 have hs:∀a b:Parts,sumQ (a++b)=sumQ a+sumQ b:=fun a b=>by
  exact Mbp
 unfold zeB;rw[List.take_succ_eq_append_getElem h];unfold zao;rw[List.map_append,hs];simp only[List.map_cons,List.map_nil,sumQ];grind
theorem znN{l:List RPart}(h:∀p∈l,0<p.rat):∀k,0<=sumQ (zao (l.take k))/\sumQ (zao (l.take k))<=sumQ (zao l):=fun k=>by
 have hs:∀a b:Parts,sumQ (a++b)=sumQ a+sumQ b:=fun a b=>by
  exact Mbp
 have hp:∀m:List RPart,(∀p∈m,0<p.rat)->0<=sumQ (zao m):=fun m hm=>zbr fun p hp=>by
  obtain⟨q,hq,rfl⟩:=List.mem_map.1 hp;have:=hm q hq;show 0<=q.rat;grind
 refine⟨hp _ fun p hp=>h p (List.mem_of_mem_take hp),?_⟩;have h2:=hp (l.drop k) fun p hp=>h p (List.mem_of_mem_drop hp)
 have e:zao l=zao (l.take k)++zao (l.drop k):=by
  unfold zao;rw[<-List.map_append,List.take_append_drop]
 rw[e,hs];grind
theorem zi1{l:List RPart}(h:∀p∈l,0<p.rat/\IsN 720720 p.rat/\za8 16 p.num p.den=true):∀k,Fits (zeB (l.take k))
 |0=>by
  show Fits (1-0);rw[show(1:Rat)-0=1 by grind];exact fits_one
 |k+1=>by
  by_cases hk:k<l.length
  ·rw[zlq l hk];exact(zi1 h k).sub (zej (h _ (List.getElem_mem hk)).2.2)
  ·rw[show l.take (k+1)=l.take k by rw[List.take_of_length_le Mcy,List.take_of_length_le Mcy]];exact zi1 h k
theorem subS_any(s:Rat)(a b:Int)(W:World)(hs:zaI s)(h:za8 16 a b=true):Calls Tryz.prog 153 #[.agg #[.int .i64 s.num,.int .i64 s.den],.agg #[.int .i64 a,.int .i64 b]] W (Ret W (zaA (s-Rat.divInt a b))):=by
 obtain⟨h1,h2,h3,h4⟩:=zbm h;have:=zh5 s (Rat.divInt a b) W hs ((zej h).small (Rat.le_trans McA h3) (Rat.le_trans h4 McA));unfold zaA at this⊢;rw[h1,h2]at this;exact this
theorem mulS_any(C:Nat)(f:Bool)(w:World)(hC:MarkAt w C f)(p:Rat)(a b:Int)(hp:zaI p)(h:za8 16 a b=true):Calls Tryz.prog 155 #[.pointer (some ⟨C,0,none⟩),.agg #[.int .i64 p.num,.int .i64 p.den],.agg #[.int .i64 a,.int .i64 b]] w (zeA w C f (p*Rat.divInt a b)):=by
 obtain⟨h1,h2,h3,h4⟩:=zbm h;have:=zhE C f w hC p (Rat.divInt a b) hp ((zej h).small (Rat.le_trans McA h3) (Rat.le_trans h4 McA));unfold zaA at this;rw[h1,h2]at this;exact this
theorem zlr{s:St}{d:Deed}{i:Nat}{g:Grave}(aU:zaR s d.place d.day=some i)(hg:s.graves.getD i zga=g)(hG:GoodG g)(hp:∀p∈zao d.to,0<=p.2)(h1:sumQ (zao d.to)<=1):
 zbp s d=if g.cls==4 then(s,15)else if zag g.holders d.frm==0 then(s,19)else if zdU s d.to then(s,28)else
  if(zcv g.holders d.frm (zao d.to)).2 then(s,8)else(s.withGrave i {g with holders:=(zcv g.holders d.frm (zao d.to)).1},0):=by
 have hs:=zkl (frm:=d.frm) hG.good hG.small hp h1;unfold zbp;rw[aU];simp only[hg];cases hb:bigQ (zag g.holders d.frm*(1-sumQ (zao d.to)))
 ·rw[hb]at hs;simp only[Bool.false_eq_true,if_false]at hs⊢;rw[hs];cases(zcv g.holders d.frm (zao d.to)).2<;>rfl
 ·rw[hb]at hs;simp only[if_true]at hs⊢;cases ht:(zcv g.holders d.frm (zao d.to)).2
  ·rw[ht]at hs;simp at hs
  ·rfl
