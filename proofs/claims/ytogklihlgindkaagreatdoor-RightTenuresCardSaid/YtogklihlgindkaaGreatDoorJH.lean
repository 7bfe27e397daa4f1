import Derived.Test.YtogklihlgindkaaGreatDoorJX
import Derived.Test.YtogklihlgindkaaGreatDoorJT
set_option linter.all false
set_option maxRecDepth 100000
set_option maxHeartbeats 4000000
namespace Go.Proofs.YtogklihlgindkaaGreatDoor
open Go.RowKit Go.Shelf
attribute [local go_sem] World.cell?_alloc_mark zaf za3 zam za6 zat zau zav zaw zax zay zaz
section
attribute [local go_sem] Oper.semAt_some
abbrev Pair2:=ByteArray×ByteArray
def pr0:Pair2:=(⟨#[]⟩,⟨#[]⟩)
def zec(ms:List Pair2)(k:Nat):List (Int×Pair2):=(List.range k).map λj=>(((ms.length-1-j:Nat):Int),ms.getD (ms.length-1-j) pr0)
def zne(ms:List Pair2)(k:Nat):zec ms (k+1)=zec ms k++[(((ms.length-1-k:Nat):Int),ms.getD (ms.length-1-k) pr0)]:=by
 unfold zec;rw[List.range_succ,List.map_append];rfl
def zpe(ms:List Pair2)(k:Nat):(zec ms k).length=k:=by simp[zec]
def zpf(ms:List Pair2):(zec ms ms.length).map (·.2)=ms.reverse:=by
 unfold zec;apply List.ext_getElem
 ·simp
 ·intro i h1 h2;simp at h1;rw[List.getElem_reverse];exact MbQ
def znf(ms:List Pair2)(k:Nat)(hk:k<=ms.length):(zec ms k).map Prod.snd=ms.reverse.take k:=by
 unfold zec;apply List.ext_getElem
 ·simp;omega
 ·intro i h1 h2;simp at h1;rw[List.getElem_take,List.getElem_reverse];exact MbQ
def encB(x:Int×Pair2):Array Value:= #[.int .i64 x.1,.agg #[.string x.2.1,.string x.2.2]]
def back1_in(n:Nat)(hn:1<=n)(l n₀ Bs:Nat)(ms:List Pair2)(A:Option Addr)(c:Nat)(hl:ms.length<=100000)(J Jx:List (Int×Pair2)->World->Prop)
 (hY:∀pre x W,J pre W->pre.length<ms.length->YieldAt Fence.wide (n-1) Tryz.prog l (encB x) W λe W'=>
   (e=.returned (.bool true)/\J (pre++[x]) W'/\Below n₀ W W')\/(e=.returned (.bool false)/\Jx (pre++[x]) W'))
 (W:World)(wu:Bs<n₀)(Am:W.cell? ⟨Bs,0,none⟩=some (.slice A ms.length c))(hS:∀W',Below n₀ W W'->Sl W' 2 zaW A ms)(h0:J [] W):
 CallsIn Fence.wide n Tryz.prog 182 #[.func (.yield l) #[] #[],.pointer (some ⟨Bs,0,none⟩)] W λe W'=>(∃v,e=.returned v)/\
  ((∃ys,ys=zec ms ms.length/\J ys W')\/(∃pre,(∃k,k<=ms.length/\pre=zec ms k)/\Jx pre W')):=by
 refine callsIn_of_wp Tryz.func182 rfl trivial ?_ rfl;simp only[Tryz.ntmps182,List.size_toArray,List.length_cons,List.length_nil,Nat.reduceAdd,Nat.reduceSub,Array.replicate_succ,Array.replicate_zero,List.push_toArray,List.append_toArray,List.nil_append,List.cons_append];have uN:IntKind.i64.wrap ((ms.length:Int)-1)=(ms.length:Int)-1:=IntWalk.i64_in _ McS;gi_wp2
 gi_loopw [3] (λi wr=>∃k:Nat,k<=ms.length/\i=.int .i64 ((ms.length:Int)-1-k)/\J (zec ms k) wr/\Below n₀ W wr) (λi _=>(intOf i+1).toNat)
 case atStart=>exact⟨0,Nat.zero_le _,by simp,h0,Qb⟩
 case round=>
  obtain⟨k,hk,rfl,Gj,hB⟩:=hrel;have aY:wr.cell? ⟨Bs,0,none⟩=some (.slice A ms.length c):=(hB.cell (p:=⟨Bs,0,none⟩) wu).trans Am;by_cases ae:k<ms.length
  ·have hi:ms.length-1-k<ms.length:=McS;obtain⟨b,off,rfl,hb,hc⟩:=(hS wr hB).at hi;obtain⟨fn,tmps,assign,body,hy,hR⟩:=hY _ (((ms.length-1-k:Nat):Int),ms.getD (ms.length-1-k) pr0) wr Gj (by rw[zpe];exact ae);have bB:ms.getD (ms.length-1-k) pr0=ms[ms.length-1-k]:=by rw[List.getD_eq_getElem?_getD,List.getElem?_eq_getElem hi];rfl
   have HT:=zHi (zne ms k);rw[bB]at hy hR;have HG:=zHi bB;clear bB;generalize ms[ms.length-1-k]=m at hc hy hR HG;obtain⟨m1,m2⟩:=m;have c0:wr.cell? ⟨b,off+(ms.length-1-k)*2,none⟩=some (.string m1):=hc 0 _ rfl;have c1:wr.cell? ⟨b,off+(ms.length-1-k)*2+1,none⟩=some (.string m2):=hc 1 _ rfl;obtain⟨j,hj⟩:∃j:Nat,j=ms.length-1-k:=⟨_,rfl⟩
   rw[<-hj]at c0 c1 hy hR HT HG hi;have cd:(ms.length:Int)-1-k=(j:Int):=McS;have oh:(0:Int)<=(j:Int):=McS;have cO:(j:Int)<(ms.length:Int):=McS;rw[cd];have HJ:=zHi cd;clear cd hj hc;simp only[encB]at hy hR;gi_wp2
   refine hR.mono ?_;rintro e W3 (⟨rfl,Kh,uE⟩|⟨rfl,CR⟩)
   ·have jU:IntKind.i64.wrap ((j:Int)-1)=(j:Int)-1:=IntWalk.i64_in _ McS;have KS:W3.cell? ⟨Bs,0,none⟩=some (.slice (some ⟨b,off,none⟩) ms.length c):=(uE.cell (p:=⟨Bs,0,none⟩) wu).trans aY;gi_wp2
    go_roundw
    case rel=>exact⟨k+1,by omega,by have:=HJ.o;exact zb7 McS,by rw[HT.o,HG.o];exact Kh,hB.trans uE⟩
    case measure=>(have:=HJ.o;simp[intOf];first|done|omega)
   ·gi_wp2
    refine bodyPost_ret (results_none rfl _ _ _) rfl ?_;exact⟨⟨_,rfl⟩,.inr ⟨_,⟨k+1,by omega,rfl⟩,by rw[HT.o,HG.o];exact CR⟩⟩
  ·obtain rfl:k=ms.length:=by omega
   have py:(ms.length:Int)-1-(ms.length:Int)= -1:=McS;rw[py];gi_wp2
   go_end0
   exact⟨⟨_,rfl⟩,.inl ⟨_,rfl,Gj⟩⟩
def back1_seq(n:Nat)(hn:1<=n)(n₀ Bs:Nat)(ms:List Pair2)(A:Option Addr)(c:Nat)(hl:ms.length<=100000)(w:World)(I6:n₀<=w.heap.size)(wu:Bs<n₀)(Am:w.cell? ⟨Bs,0,none⟩=some (.slice A ms.length c))(hS:∀W',Below n₀ w W'->Sl W' 2 zaW A ms):
 SeqStopsK Fence.wide n Tryz.prog 182 #[.pointer (some ⟨Bs,0,none⟩)] encB (Below n₀) (λys=>ys=zec ms ms.length) (λpre=>∃k,k<=ms.length/\pre=zec ms k) ms.length w:=λl J Jx W hW _ _ hY Kg=>
 back1_in n hn l n₀ Bs ms A c hl J Jx hY W wu ((hW.cell (p:=⟨Bs,0,none⟩) (Nat.lt_of_lt_of_le wu I6)).trans Am) (λW' h=>hS W' ((hW.mono I6).trans h)) Kg
def zl6{fn:Func}{p:Tmp}(h:fn.results= #[.cell p 9])(tmps:Array Value)(w:World)(B:Nat)(x:ByteArray)(hp:tmps.getD p undef=.pointer (some ⟨B,0,none⟩))
 (h0:w.cell? ⟨B,0,none⟩=some (.string x)):(results fn tmps).run Tryz.prog w=.ok (.string x) w:=by
 rw[zdF h,hp];go_simp
def back_any(A:Option Addr)(n c:Nat)(w:World):Calls Tryz.prog 153 #[.slice A n c] w λe w'=>e=.returned (.func (.func 182) #[] #[.pointer (some ⟨w.heap.size,0,none⟩)])/\w'=w.alloc (.cells #[.slice A n c] 68):=by
 go_enter Tryz.func153,Tryz.ntmps153
 exact MaS
def hasN(m:Pair2)(n:ByteArray):Bool:=zae m.1 n||zae m.2 n
def zeR(m:Pair2)(n:ByteArray):ByteArray:=if zae m.1 n then m.2 else m.1
def zi8{n:ByteArray}:∀ {l:List Pair2},(∀m∈l,hasN m n=false)->zdr n l=⟨#[]⟩
 | [],_=>rfl
 |m::l,h=>by
  have h0:=h m McV;simp only[hasN,Bool.or_eq_false_iff]at h0;rw[zdr,h0.1,h0.2];simpa using zi8 λx hx=>h x MeC
def zi9{n:ByteArray}{m:Pair2}{b:List Pair2}(hm:hasN m n=true):∀ {a:List Pair2},(∀m∈a,hasN m n=false)->zdr n (a++m::b)=zeR m n
 | [],_=>by
   rw[List.nil_append,zdr,zeR];cases h:zae m.1 n
   ·simp only[hasN,h,Bool.false_or]at hm;simp[hm]
   ·simp
 |x::a,h=>by
  have h0:=h x McV;simp only[hasN,Bool.or_eq_false_iff]at h0;rw[List.cons_append,zdr,h0.1,h0.2];simpa using zi9 hm λx hx=>h x MeC
def marks5(Ds:List Nat):List Deferred:=Ds.map λD=> {target:=.collected D,args:= #[]}
def zeC{F:Fence}{n:Nat}{P:Program}{fn:Func}{tmps:Array Value}{R:Ending->World->Prop}{base:Nat}:∀(Ds:List Nat) (w:World),Ds.Nodup->(∀D∈Ds,base<=D/\w.heap[D]?=some (.deferred (some [])))->
 (∀w',Below base w w'->(∀(k:Nat) (cs:Array Value) (t:TypeId) (fr:Nat×Nat),w.heap[k]?=some (.cells cs t fr)->w'.heap[k]?=some (.cells cs t fr))->∃v,(results fn tmps).run P w'=.ok v w'/\R (.returned v) w')->
 LeavesInM F n P fn tmps R (marks5 Ds) .returning w
 | [],w,_,_,h=>h w Qb λ_ _ _ _ h=>h
 |D::Ds,w,cY,hD,h=>by
  obtain⟨hb,hK⟩:=hD D McV;have yy:=List.nodup_cons.1 cY;refine⟨by simp,.inl ⟨D,_,rfl,run_takeDeferred hK,?_⟩⟩;have hp:∀k,k≠D->(w.putObj D (.deferred none)).heap[k]?=w.heap[k]?:=λk hk=>by
   simp only[World.putObj,Array.getElem?_setIfInBounds];rw[if_neg (λe=>hk e.symm)]
  refine zeC Ds (w.putObj D (.deferred none)) yy.2 (λD' rS=>⟨(hD D' (by simp[rS])).1,(hp D' (λe=>yy.1 (e▸rS))).trans (hD D' (by simp[rS])).2⟩) λw' hB hc=>?_
  refine h w' (Below.trans (⟨rfl,rfl,rfl,by simp[World.putObj],λk hk=>hp k McS⟩:Below base w (w.putObj D (.deferred none))) hB) λk cs t fr hk=>hc k cs t fr ((hp k (λe=>?_)).trans hk)
  subst e;rw[hK]at hk;cases hk
def zor{A B:World}{row:Option Nat}{k:Nat}{cs:Array Value}{t:TypeId}{fr:Nat×Nat}(h:A.heap[k]?=some (.cells cs t fr))(hg:A.grownBy B row)(hr:∀r,row=some r->∃o:Obj,A.heap[r]?=some o/\o.isCells=false):B.heap[k]?=some (.cells cs t fr):=
 (hg.block k (zab h) (λe=>by
   obtain⟨o,ho,hc⟩:=hr k e.symm;rw[h]at ho;simp only[Option.some.injEq]at ho;subst ho
   cases hc)).trans h
def SpI(x:ByteArray)(W0:World)(pre:List (Int×Pair2))(W:World):Prop:=(∀m∈pre.map Prod.snd,hasN m x=false)/\Qa W0 W
def SpIx(s:St)(x:ByteArray)(w:World)(c:Code)(pre:List (Int×Pair2))(W:World):Prop:=
 (c=.ret/\∃a m,pre.map Prod.snd=a++[m]/\(∀y∈a,hasN y x=false)/\hasN m x=true/\W.heap[w.heap.size+1+1]?=some (.cells #[.string (if zaN s (zeR m x)then⟨#[]⟩else zeR m x)] 9 (0,0)))/\Qa w W
def spouse_in(base b:Nat)(s:St)(x:ByteArray)(w:World)(hW:PeoAt base w b s)(hl:s.marriages.length<=100000):
 CallsIn Fence.wide 9 Tryz.prog 118 #[.pointer (some ⟨b,0,none⟩),.string x] w (Ret w (.string (zaK s x))):=by
 obtain⟨B,d,c,p,wl,r,mv,tv,la,co,h1,h2⟩:=hW;obtain⟨A,cc,rfl,hS,hc⟩:=h2.marr.sl zbk;have hb:=zab h1;unfold WldC at h1;have c3:w.cell? ⟨b,3,none⟩=some (.slice A s.marriages.length cc):=MeT;obtain⟨HS,H1,H2⟩:=yH3 hS h1 h2;clear h1 h2 hS;refine callsIn_of_wp_marks Tryz.func118 rfl trivial ?_ rfl;simp only[Tryz.ntmps118,List.size_toArray,List.length_cons,List.length_nil,Nat.reduceAdd,Nat.reduceSub,Array.replicate_succ,Array.replicate_zero,List.push_toArray,List.append_toArray,List.nil_append,List.cons_append];have aW:b≠w.heap.size:=McS;have bM:b≠w.heap.size+1:=McS;gi_wp2_with (refine⟨trivial,?_⟩;gi_at_call 153;refine(callsIn_wide.2 (back_any _ _ _ _)).mono ?_;rintro e wq ⟨rfl,rfl⟩)
 generalize am:((((w.alloc (.cells #[.pointer (some ⟨b,0,none⟩)] 124)).alloc (.cells #[.string x] 9)).alloc (.cells #[.string ⟨#[]⟩] 9)).alloc (.cells #[.slice A s.marriages.length cc] 68))=W0;have lX:W0.heap.size=w.heap.size+4:=by rw[<-am];simp
 have s0:W0.heap[w.heap.size]?=some (.cells #[.pointer (some ⟨b,0,none⟩)] 124 (0,0)):=by rw[<-am];exact zal (zal (zal (zas _ _ _ rfl)))
 have s1:W0.heap[w.heap.size+1]?=some (.cells #[.string x] 9 (0,0)):=by rw[<-am];exact zal (zal (zas _ _ _ McV))
 have s2:W0.heap[w.heap.size+1+1]?=some (.cells #[.string ⟨#[]⟩] 9 (0,0)):=by rw[<-am];exact zal (zas _ _ _ McV)
 have s3:W0.heap[w.heap.size+1+1+1]?=some (.cells #[.slice A s.marriages.length cc] 68 (0,0)):=by rw[<-am];exact zas _ _ _ McV
 have aO:Qa w W0:=by rw[<-am];exact Bw
 have aM:W0.cell? ⟨w.heap.size+1+1+1,0,none⟩=some (.slice A s.marriages.length cc):=by simp[World.cell?,s3]
 clear am;obtain⟨S0,S1,S2⟩:=yH3 s0 s1 s2;clear s0 s1 s2 s3;refine wpIn_rangeFunc_ownH rfl McS (gf:=182) (lb:= #[.pointer (some ⟨w.heap.size+1+1+1,0,none⟩)]) rfl trivial (enters_of Tryz.func182 McT rfl)
  (back1_seq (9-1) McS W0.heap.size (w.heap.size+1+1+1) s.marriages A cc hl W0 Qc McS aM (λW' h=>(HS.o.keep aO).keep h)) belowK_t (belowK_b Qc) Qb (λ_=>rfl)
  (λ(pre:List (Int×Pair2)) W=>SpI x W0 pre W)
  (λc (pre:List (Int×Pair2)) W=>SpIx s x w c pre W)
  (λs A B row hs hg hr=>⟨hs.1,hs.2.grown hg hs.2.size (λr e=>(hr r e).1)⟩)
  (λcc s A B row hs hg hr=>⟨by obtain⟨⟨h1,a,m,h2,h3,h4,h5⟩,_⟩:=hs;exact⟨h1,a,m,h2,h3,h4,zor h5 hg (λr e=>(hr r e).2)⟩,hs.2.grown hg hs.2.size (λr e=>by have:=(hr r e).1;omega)⟩)
  ⟨by simp,Qb⟩
  (λy a' W=>∃Bx,W0.heap.size<=Bx/\W.heap[Bx]?=some (.cells #[.string y.2.1,.string y.2.2] 126 (0,0))/\a'= {tmps:= #[.pointer (some ⟨b,0,none⟩),.string x,.pointer (some ⟨w.heap.size,0,none⟩),.pointer (some ⟨w.heap.size+1,0,none⟩),.pointer (some ⟨w.heap.size+1+1,0,none⟩),undef,.pointer (some ⟨Bx,0,none⟩),undef,undef,undef,.pointer (some ⟨b,0,none⟩),.pointer (some ⟨b,0,none⟩),.pointer (some ⟨b,3,none⟩),.slice A s.marriages.length cc,.func (.func 182) #[] #[.pointer (some ⟨w.heap.size+1+1+1,0,none⟩)],.int .i64 y.1,.agg #[.string y.2.1,.string y.2.2],undef,undef,undef,undef,undef,undef,undef,undef,undef,undef,undef,undef,undef,undef,undef,undef,undef,undef,undef,undef,undef],defers:=[]})
  (λy a' s A B row hs hg hr=>by obtain⟨Bx,h1,h2,h3⟩:=hs;exact⟨Bx,h1,zor h2 hg (λr e=>(hr r e).2),h3⟩) ?assign ?body ?done ?stop
 case assign=>
  rintro l pre ⟨yi,y1,y2⟩ W K hi hK;simp only[encB];gi_wp2
  exact hK _ _ ((KeepsOthers.alloc _ _).from _) (zad Qb _ hi.2.size) ⟨hi.1,zad hi.2 _⟩ ⟨W.heap.size,hi.2.size,zas _ _ _ rfl,rfl⟩
 case body=>
  rintro l pre ⟨yi,y1,y2⟩ a' W hWl _ ⟨hp,fh⟩ ⟨Bx,eO,iq,rfl⟩ ag;simp only at iq;have t0:=(fh.block w.heap.size McS).trans S0.o;have t1:=(fh.block (w.heap.size+1) McS).trans S1.o;have t2:=(fh.block (w.heap.size+1+1) McS).trans S2.o;have tW:=(fh.block b McS).trans ((aO.block b hb).trans H1.o);have uo:=H2.o.keep (aO.trans (fh.mono McS));have k0:W.cell? ⟨w.heap.size,0,none⟩=some (.pointer (some ⟨b,0,none⟩)):=by simp[World.cell?,t0]
  have k1:W.cell? ⟨w.heap.size+1,0,none⟩=some (.string x):=by simp[World.cell?,t1]
  have k2:W.cell? ⟨w.heap.size+1+1,0,none⟩=some (.string ⟨#[]⟩):=by simp[World.cell?,t2]
  have k3:W.frozen? ⟨w.heap.size+1+1,0,none⟩=false:=by simp[World.frozen?,t2]
  have k4:W.cell? ⟨b,0,none⟩=some (.map (some d)):=by simp[World.cell?,tW]
  have k5:W.cell? ⟨Bx,0,none⟩=some (.string y1):=by simp[World.cell?,iq]
  have k6:W.cell? ⟨Bx,1,none⟩=some (.string y2):=by simp[World.cell?,iq]
  have l1:=zd0 uo y1;have l2:=zd0 uo y2;obtain⟨bk,HP,T2⟩:=yH3 fh hp t2;clear t0 t1 t2 tW uo hp;have Lh:∀W:World,Sem.run Tryz.prog (Instr.index 126 (.agg #[.string y1,.string y2]) (.int .i64 0)) W=.ok (.string y1) W:=λW=>by kernel_rfl
  have Li:∀W:World,Sem.run Tryz.prog (Instr.index 126 (.agg #[.string y1,.string y2]) (.int .i64 1)) W=.ok (.string y2) W:=λW=>by kernel_rfl
  gi_wp2
  gi_loopw [18] (λi wr=>∃k:Nat,k<=2/\i=.int .i64 k/\wr=W/\Hid ((0<k->zae y1 x=false)/\(1<k->zae y2 x=false))) (λi _=>2-(intOf i).toNat)
  case atStart=>exact⟨0,by omega,rfl,rfl,⟨by omega,by omega⟩⟩
  case round=>
   obtain⟨k,hk,rfl,rfl,hs⟩:=hrel;obtain rfl|rfl|rfl:k=0\/k=1\/k=2:=by omega
   ·rw[show((0:Nat):Int)=0 from rfl];by_cases h1:y1.toList=x.toList
    ·have aW:(y1.toList==x.toList)=true:=Mdp;have hm:hasN (y1,y2) x=true:=by simp[hasN,zeh h1]
     have ho:zeR (y1,y2) x=y2:=by simp[zeR,zeh h1]
     obtain⟨HM,HO⟩:=yH2 hm ho;clear hm ho;cases hd:zaN s y2
     ·rw[hd]at l2;gi_wp2
      have g2:=Boxed.set (.string y2) T2.o;have HD:=zHi hd;have bP:∀i,SpIx s x w .ret (pre++[(i,y1,y2)]) (wr.setCell ⟨w.heap.size+1+1,0,none⟩ (.string y2)):=λi=>⟨⟨rfl,pre.map Prod.snd,(y1,y2),by simp,HP.o,HM.o,by rw[HO.o,HD.o];exact g2⟩,zaS (aO.trans (bk.o.mono McS)) McX _⟩
      exact Map
     ·rw[hd]at l2;exact MX
    ·have iJ:(y1.toList==x.toList)=false:=Mdp;have HN:Hid ((0<1->zae y1 x=false)/\(1<1->zae y2 x=false)):=⟨λ_=>ze5 h1,by omega⟩
     gi_wp2
     exact⟨⟨1,by omega,rfl,trivial,HN⟩,by simp[intOf]⟩
   ·rw[show((1:Nat):Int)=1 from rfl];by_cases h2:y2.toList=x.toList
    ·have iJ:(y2.toList==x.toList)=true:=MeI;have hm:hasN (y1,y2) x=true:=by simp[hasN,zeh h2]
     have ho:zeR (y1,y2) x=y1:=by simp[zeR,hs.o.1 McS]
     obtain⟨HM,HO⟩:=yH2 hm ho;clear hm ho;cases hd:zaN s y1
     ·rw[hd]at l1;gi_wp2
      have g2:=Boxed.set (.string y1) T2.o;have HD:=zHi hd;have bP:∀i,SpIx s x w .ret (pre++[(i,y1,y2)]) (wr.setCell ⟨w.heap.size+1+1,0,none⟩ (.string y1)):=λi=>⟨⟨rfl,pre.map Prod.snd,(y1,y2),by simp,HP.o,HM.o,by rw[HO.o,HD.o];exact g2⟩,zaS (aO.trans (bk.o.mono McS)) McX _⟩
      exact Map
     ·rw[hd]at l1;exact MX
    ·have iJ:(y2.toList==x.toList)=false:=MeI;have HN:Hid ((0<2->zae y1 x=false)/\(1<2->zae y2 x=false)):=⟨λ_=>hs.o.1 McS,λ_=>ze5 h2⟩
     gi_wp2
     exact⟨⟨2,by omega,rfl,trivial,HN⟩,by simp[intOf]⟩
   ·rw[show((2:Nat):Int)=2 from rfl];have hn:hasN (y1,y2) x=false:=by simp[hasN,hs.o.1 McS,hs.o.2 McS]
    have HN:=zHi hn;clear hn;gi_wp2
    exact⟨KeepsFrom.refl _ _,Qb,λm hm=>by
     rw[List.map_append]at hm;rcases List.mem_append.1 hm with hm|hm
     ·exact HP.o m hm
     ·simp only[List.map_cons,List.map_nil,List.mem_singleton]at hm
      rw[hm];exact HN.o,bk.o⟩
 case done=>
  rintro D ys W hD rfl ⟨hp,fh⟩ hK;have t2:=(fh.block (w.heap.size+1+1) McS).trans S2.o;have c2':W.cell? ⟨w.heap.size+1+1,0,none⟩=some (.string ⟨#[]⟩):=by simp[World.cell?,t2]
  have f2':W.frozen? ⟨w.heap.size+1+1,0,none⟩=false:=by simp[World.frozen?,t2]
  have HY:Hid (zaK s x=⟨#[]⟩):=by
   show _=_;rw[zpf]at hp;unfold zaK;rw[zi8 hp];simp
  obtain⟨HK,T2⟩:=yH2 hK t2;clear hK t2 hp;gi_wp2
  have g2:=Boxed.set (.string ⟨#[]⟩) T2.o;have K0:(W.setCell ⟨w.heap.size+1+1,0,none⟩ (.string ⟨#[]⟩)).heap[D]?=some (.deferred (some [])):=(heap_setCell_other W ⟨w.heap.size+1+1,0,none⟩ _ _ McX).trans HK.o
  refine zeC (base:=w.heap.size) [D] _ McV (λD' rS=>by
   have:D'=D:=by simpa using rS
   subst this
   exact⟨by omega,K0⟩) λw' fJ aE=>⟨.string ⟨#[]⟩,zl6 rfl _ _ (w.heap.size+1+1) _ rfl (by simp[World.cell?,aE _ _ _ _ g2]),?_⟩
  exact Ret.of (by rw[HY.o]) ((zaS (aO.trans (fh.mono McS)) McX _).trans fJ)
 case stop=>
  rintro D cc pre W hD ig ⟨⟨rfl,a,m,h2,h3,h4,h5⟩,fh⟩ hK;have HY:Hid (zaK s x=if zaN s (zeR m x)then⟨#[]⟩else zeR m x):=by
   show _=_;obtain⟨k,hk,rfl⟩:=ig;rw[znf _ _ hk]at h2;have e:s.marriages.reverse=a++m::s.marriages.reverse.drop k:=by
    have:=(List.take_append_drop k s.marriages.reverse).symm;rw[h2]at this;simpa using this
   unfold zaK;rw[e,zi9 h4 h3]
  obtain⟨HK,G2⟩:=yH2 hK h5;clear hK h5 h4 h3 h2;gi_wp2
  refine zeC (base:=w.heap.size) [D] _ McV (λD' rS=>by
   have:D'=D:=by simpa using rS
   subst this
   exact⟨by omega,HK.o⟩) λw' fJ aE=>⟨.string (if zaN s (zeR m x)then⟨#[]⟩else zeR m x),zl6 rfl _ _ (w.heap.size+1+1) _ rfl (by simp[World.cell?,aE _ _ _ _ G2.o]),?_⟩
  exact Ret.of (by rw[HY.o]) (fh.trans fJ)
def zjT(base b:Nat)(s:St)(x:ByteArray)(w:World)(hW:PeoAt base w b s)(hl:s.marriages.length<=100000):
 Calls Tryz.prog 118 #[.pointer (some ⟨b,0,none⟩),.string x] w (Ret w (.string (zaK s x))):=callsIn_wide.1 (spouse_in base b s x w hW hl)
end
section
attribute [local go_sem] zao zac
def ziA{base:Nat}{W:World}{B:List Nat}{d c p wl r:Nat}{mv:Value}{s:St}(h:PplAt base W B d c p wl r mv s)(n:ByteArray):
 ∃A cc,(∀W',Qa W W'->(Instr.lookup 67 (.map (some c)) (.string n) false).run Tryz.prog W'=.ok (.slice A (zaj s n).length cc) W')/\(zaj s n).length<=cc/\Sl W 1 sC A (zaj s n):=by
 obtain⟨mc,mp,k1,k2,k3,k4,k5,k6⟩:=h.rows;have hl:=λW' (hB:Qa W W')=>zb4 zmZ (k1.below hB).at n
 rcases k3 n with⟨h1,h2⟩|⟨v,h1,h2⟩
 ·rw[h1]at hl;refine⟨none,0,λW' hB=>?_,by rw[h2];exact Qc,by rw[h2];exact Sl.nil⟩;rw[h2];exact hl W' hB
 ·rw[h1]at hl;obtain⟨A,cc,rfl,hS,hc⟩:=h2.sl zaB;exact⟨A,cc,hl,hc,hS⟩
def outM(out:List ByteArray):List (ByteArray×Bool):=out.map λn=>(n,true)
def out_put{out:List ByteArray}{n:ByteArray}(h:n∉out):mput eqS n true (outM out)=outM (out++[n]):=by
 induction out with
 |nil=>rfl
 |cons x out ih=>
  have hx:eqS n x=false:=zcd.2 λe=>h (by simp[e])
  rw[outM,List.map_cons,mput];simp only[hx,Bool.false_eq_true,if_false];have:=ih (λe=>h (by simp[e]));simp only[outM]at this;rw[this];rfl
def out_get(out:List ByteArray)(n:ByteArray):(mget eqS n (outM out)).getD false=out.any (zae n):=zhP n out
def zcU{w:World}{b:Nat}{x:ByteArray}{t:TypeId}{fr:Nat×Nat}(h:w.heap[b]?=some (.cells #[.string x] t fr)):Sl w 1 sC (some ⟨b,0,none⟩) [x]:=λ_=>⟨b,0,rfl,zab h,λk y hy j u hu=>by
 have hk:k=0:=Mc2;subst hk;simp only[List.getElem?_cons_zero,Option.some.injEq]at hy;subst hy;match j,hu with
 |0,hu=>simp[sC]at hu;simp[World.cell?,h,<-hu]
 |j+1,hu=>simp[sC]at hu⟩
def DescPost(w:World)(s:St)(nm:ByteArray)(e:Ending)(w':World):Prop:=
 ∃out:List ByteArray,e=.returned (.map (some w.heap.size))/\MapS w' w.heap.size ekS evB (outM out)/\Found s nm out []/\Qa w w'
def desc_any(base b:Nat)(s:St)(nm:ByteArray)(w:World)(hW:PeoAt base w b s)(hl:s.children.length<=100000):
 Calls Tryz.prog 63 #[.pointer (some ⟨b,0,none⟩),.string nm] w (DescPost w s nm):=by
 obtain⟨B,d,c,p,wl,r,mv,tv,la,co,h1,h2⟩:=hW;have hb:=zab h1;unfold WldC at h1;have c1:w.cell? ⟨b,1,none⟩=some (.map (some c)):=MeT;obtain⟨HP,H1⟩:=yH2 h2 h1;clear h1 h2;have cf:∀x,(zaj s x).length<=100000:=λx=>by
  have:(zaj s x).length<=s.children.length:=by unfold zaj;rw[List.length_map];exact List.length_filter_le _ _
  omega
 go_enter Tryz.func63,Tryz.ntmps63
 have dj:= @run_makeMap Tryz.prog;go_upto_region 3 with fail
 clear dj;have hcw:=c1;go_loopg [6] (s.children.length+1) (λgg v wr=>∃out xs:List ByteArray,OwnS wr w.heap.size 9 1 sC v xs/\MapS wr w.heap.size ekS evB (outM out)/\Qa w wr/\w.heap.size+1<=wr.heap.size/\Hid (Found s nm out xs)/\(s.children.length-out.length)+xs.length<=gg/\xs.length<=out.length+1)
 case atStart=>
  refine⟨[],[nm],.inr ⟨w.heap.size+1,0,1,#[.string nm],rfl,by omega,zas _ _ _ McV,Qc,by simp[maxLen],by simp,λj u hj=>?_⟩,?_,Bw,by simp,znd s nm,by simp,by simp⟩
  ·match j,hj with
   |0,hj=>simpa[sC]using hj
   |j+1,hj=>simp[sC]at hj
  ·exact(MapS.new w).below (n:=w.heap.size+1) (zad Qb _ McV) McV
 case round=>
  obtain⟨out,xs,aa,hm,hB,hsz,HF,bh,bx⟩:=hrel;cases xs with
  |nil=>
   obtain⟨A,cc,rfl,hS,hc⟩:=aa.sl zaB;clear aa hS;go_wp2_with fail
   go_ret
   exact⟨out,rfl,hm,HF.o,hB⟩
  |cons x xs=>
   rcases aa with⟨rfl,h0⟩|⟨g,o,cap,cur,rfl,io,hg,bp,ir,aY,hx⟩
   ·cases h0
   have aa:OwnS wr w.heap.size 9 1 sC (.slice (some ⟨g,o,none⟩) (x::xs).length cap) (x::xs):=.inr ⟨g,o,cap,cur,rfl,io,hg,bp,ir,aY,hx⟩;obtain⟨_,h1c,cF,xM⟩:=aa.tail zaB;have KT:wr.cell? ⟨g,o,none⟩=some (.string x):=xM 0 _ rfl;have lH:wr.cell? ⟨b,1,none⟩=some (.map (some c)):=(hB.cell (p:=⟨b,1,none⟩) hb).trans c1;obtain⟨KA,kc,fN,fZ,iH⟩:=ziA HP.o x;have y9:=fN wr hB;have HK:Hid (∀W',Qa w W'->Sl W' 1 sC KA (zaj s x)):=λW' h=>iH.keep h
   have wF:Hid (Look s nm x 0 out xs):=found_pop HF.o;have lM:=cf x;have No:(0:Int)<((x::xs).length:Int):=by simp only[List.length_cons];omega
   have zG:(1:Int)<=((x::xs).length:Int):=McS;have zH:(1:Int)<=(xs.length:Int)+1:=McS;have uu:(1:Int)<=(cap:Int):=McS;obtain⟨hT,hM⟩:=yH2 cF hm;generalize je:zaj s x=ks at y9 HK lM fZ;have iA:=zHi je;clear je;have xr:=bp;have DJ:=aY;have HG:=zHi hg;clear fN iH hx hg aa xM cF hm HF aY ir bp;have De:Hid (cap=1->OwnS wr w.heap.size 9 1 sC (.slice (some ⟨g,o,none⟩) xs.length 0) xs):=λe=>by
    have eH:xs=[]:=List.eq_nil_of_length_eq_zero (by simp at xr;omega);subst eH;exact .inr ⟨g,o,0,cur,rfl,io,HG.o,Qc,Nat.zero_le _,by omega,λj u hj=>by simp at hj⟩
   clear xr DJ;go_upto_region 5 with fail
   go_cut [6]from 13 to 42 (λv wc=>OwnS wr w.heap.size 9 1 sC v xs/\wr=wc)
   case first=>
    by_cases aA:cap=1
    ·go_wp2_with fail
     all_goals go_meet
     all_goals exact⟨De.o aA,rfl⟩
    ·go_wp2_with fail
     all_goals go_meet
     all_goals exact⟨hT.o,rfl⟩
   case rest=>
    obtain⟨aa,rfl⟩:=hcut;clear hT De KT;have fB:=aa;obtain⟨QA,qc,rfl,Ku,hQc⟩:=fB.sl zaB;clear Ku fB;have HO:=zHi aa;clear aa;go_upto_region 7 with fail
    go_loopg [6,28] ks.length (λgi v i wi=>∃(j:Nat) (out2 xs2:List ByteArray),j<=ks.length/\ks.length-j<=gi/\i=.int .i64 j/\OwnS wi w.heap.size 9 1 sC v xs2/\MapS wi w.heap.size ekS evB (outM out2)/\Qa w wi/\w.heap.size+1<=wi.heap.size/\Hid (Look s nm x j out2 xs2)/\(s.children.length-out2.length)+xs2.length+1<=gk/\xs2.length<=out2.length)
    case atStart=>exact⟨0,out,xs,Nat.zero_le _,Qc,rfl,HO.o,hM.o,hB,hsz,wF,by simp at bh;omega,by simp at bx;omega⟩
    case round=>
     obtain⟨j,out2,xs2,hj,aH,rfl,nD,fA,bV,jQ,fS,DY,zG⟩:=hrel;have hof:=out_few fS.o.nd fS.o.desc;by_cases ae:j<ks.length
     ·obtain⟨kb,koff,rfl,nk,xT⟩:=(HK.o wr bV).at ae;obtain⟨ch,AP⟩:=Qd (ks[j])
      have c9:wr.cell? ⟨kb,koff+j,none⟩=some (.string ch):=by rw[AP];have:=xT 0 _ rfl;simpa using this
      have dM:=zb4 zoV fA.at ch;rw[out_get]at dM;have ye:(Instr.lookup 66 (.map (some w.heap.size)) (.string ch) false).run Tryz.prog wr=.ok (.bool (out2.any (zae ch))) wr:=dM;clear dM;have cO:(j:Int)<(ks.length:Int):=McS;have oh:(0:Int)<=(j:Int):=McS;have Ef:j<(zaj s x).length:=by rw[iA.o];exact ae
      have xw:(zaj s x)[j]=ch:=by rw[AP];simp only[iA.o]
      obtain⟨pO,IJ,cT,pU⟩:=yH4 xw AP nD fA;clear xT AP xw nD fA;cases aQ:out2.any (zae ch)
      ·have yB:ch∉out2:=λh=>by rw[zf1.2 h]at aQ;cases aQ
       obtain⟨bI,vJ⟩:=yH2 aQ yB;rw[aQ]at ye;clear aQ yB;obtain⟨es,c00,AZ,I1⟩:=pU.o;have BY:=zHi AZ;clear AZ I1
       go_wp2_with (first
        |(at_mapUpdate;obtain⟨w1,hrun,ct,bX,eo⟩:=zcv zoV pU.o ch true;go_loud(refine zdl rfl _ _ _ rfl _ _ _ rfl rfl rfl w1 hrun ?_))
        |(at_builtin;go_loud(refine zar (v:=u6) (n:=xs2.length) (m:=1) rfl _ _ rfl zbL zaB zbK rfl ((cT.o.keptM bX BY.o).keep (n:=w1.heap.size) (zad Qb _)) rfl rfl rfl (zcU (zas _ _ _ eo.symm)) Mc8 McS McX ?_);intro v3 w3 h1 h2 h3))
       go_roundg (ks.length-(j+1))
       case measure=>omega
       case rel=>
        refine⟨j+1,out2++[ch],xs2++[ch],by omega,Qc,by go_num,h1,?_,?_,?_,?_,?_,?_⟩
        ·have JX:MapS (w1.alloc (.cells #[.string ch] 9)) w.heap.size ekS evB (outM (out2++[ch])):=by
          have:=ct.below (n:=w1.heap.size) (zad Qb (.cells #[.string ch] 9));rwa [out_put vJ.o]at this
         exact JX.grown h2 (λe=>by
          have aW:OwnS w1 w.heap.size 9 1 sC _ xs2:=cT.o.keptM bX BY.o;obtain⟨es1,c01,Eo,_⟩:=ct;rcases aW with⟨e1,_⟩|⟨g1,o1,cp1,cur1,e1,_,mY,_⟩
          ·rw[e1]at e;cases e
          ·rw[e1]at e;simp only[za4,Option.some.injEq]at e;subst e;rw[Eo]at mY
           simp at mY)
        ·have fg:Qa w (w1.alloc (.cells #[.string ch] 9)):=zad (bV.grown bX bV.size (λk e=>by cases e;exact Qc)) _;exact fg.grown h2 fg.size (λk e=>(cT.o.ge k e).1)
        ·have:=h2.size;simp at this;omega
        ·have:=zop fS.o Ef (by rw[pO.o];exact vJ.o);rwa [pO.o]at this
        ·have cY:=zop fS.o Ef (by rw[pO.o];exact vJ.o);rw[pO.o]at cY;have:=out_few cY.nd cY.desc;simp at this⊢;omega
        ·simp;omega
      ·have yB:ch∈out2:=zf1.1 aQ;have vJ:=zHi yB;rw[aQ]at ye;clear aQ yB;go_wp2_with fail
       go_roundg (ks.length-(j+1))
       case measure=>omega
       case rel=>exact⟨j+1,out2,xs2,by omega,Qc,by go_num,cT.o,pU.o,bV,jQ,look_old fS.o Ef (by rw[pO.o];exact vJ.o),DY,zG⟩
     ·have cO:¬(j:Int)<(ks.length:Int):=McS;have ee:j=(zaj s x).length:=by rw[iA.o];omega
      have BG:Hid (Found s nm out2 xs2):=look_end (by rw[<-ee];exact fS.o);clear ee;go_wp2_with fail
      go_roundg ((s.children.length-out2.length)+xs2.length)
      case measure=>omega
      case rel=>exact⟨out2,xs2,nD,fA,bV,jQ,BG,Qc,by omega⟩
open Classical in
def zh2(base b:Nat)(s:St)(nm of:ByteArray)(w:World)(hW:PeoAt base w b s)(hl:s.children.length<=100000):
 Calls Tryz.prog 34 #[.pointer (some ⟨b,0,none⟩),.string nm,.string of] w (Ret w (.bool (decide (Desc s of nm)))):=by
 go_enter Tryz.func34,Tryz.ntmps34
 go_wp2_with (go_at_call 63
              refine(desc_any base b s of _ hW hl).mono ?_;rintro e wq ⟨out,rfl,hm,hf,hB⟩;have dM:(Instr.lookup 66 (.map (some w.heap.size)) (.string nm) false).run Tryz.prog wq=.ok (.bool (out.any (zae nm))) wq:=by
               have:=zb4 zoV hm.at nm;rw[out_get]at this
               exact this)
 go_ret
 refine Ret.of (zaT ?_) hB;rw[Bool.eq_iff_iff,zf1,decide_eq_true_eq];exact found_end hf nm
end
attribute [local go_sem] zao zac
variable{gs:List Grave}{k:Nat}
def ix_step{f:Grave->Bool}(h:k<gs.length):((gs.drop k).findIdx? f).map (· +k)=if f gs[k]then some k else((gs.drop (k+1)).findIdx? f).map (· +(k+1)):=by
 rw[List.drop_eq_getElem_cons h,List.findIdx?_cons];split
 ·simp
 ·rw[Option.map_map];congr 1
  funext x
  show x+1+k=x+(k+1);omega
def ix_end{f:Grave->Bool}(h:gs.length<=k):((gs.drop k).findIdx? f).map (· +k)=none:=by
 rw[List.drop_eq_nil_of_le h];rfl
def ix_start(gs:List Grave)(f:Grave->Bool):gs.findIdx? f=((gs.drop 0).findIdx? f).map (· +0):=by
 rw[List.drop_zero];cases gs.findIdx? f<;>rfl
def zl7(ps:List Nat)(i:Option Nat):Value:=.pointer (i.map λi=>⟨ps.getD i 0,0,none⟩)
variable{B ps:List Nat}{d c p wl r:Nat}{mv tv:Value}
def ziB(base b:Nat)(s:St)(la co:Int)(place:ByteArray)(day:Int)(w:World)(hC:WldC w b d c p wl r mv tv la co)(hT:TombsAt base w B tv ps s.graves)(hl:s.graves.length<=100000):
 Calls Tryz.prog 23 #[.pointer (some ⟨b,0,none⟩),.string place,.int .i64 day] w (Ret w (zl7 ps (zaL s place day))):=by
 obtain⟨A,cc,rfl,hS,ah⟩:=hT.own.sl zcK;have hb:=zab hC;unfold WldC at hC;have c6:w.cell? ⟨b,6,none⟩=some (.slice A ps.length cc):=by simp[World.cell?,hC]
 have cX:=hT.len;obtain⟨HT,HS⟩:=yH2 hT.all hS;clear hC hT hS;have hR:zaL s place day=((s.graves.drop 0).findIdx? λg=>zae g.place place&&zaM g day).map (· +0):=ix_start _ _;generalize zaL s place day=R at*;generalize s.graves=gs at*;have HR:=zHi hR;clear hR;go_enter Tryz.func23,Tryz.ntmps23
 go_wp2_with fail
 go_loopw [14] (λi wr=>∃k:Nat,k<=ps.length/\i=.int .i64 k/\Hid (R=((gs.drop k).findIdx? λg=>zae g.place place&&zaM g day).map (· +k))/\∃z,wr=w.ext z) (λi _=>ps.length-(intOf i).toNat)
 case atStart=>exact⟨0,Nat.zero_le _,rfl,HR.o,zaP Qb⟩
 case round=>
  obtain⟨k,hk,rfl,HX,z,rfl⟩:=hrel;by_cases ae:k<ps.length
  ·obtain⟨b',off,rfl,cA,hc⟩:=(HS.o.keep (zan w z)).at ae;have bQ:k<gs.length:=McS;obtain⟨H,aE,D,dc,fr,t1,t2,t3,t4,t5,t6,t7⟩:=(HT.o k _ _ (List.getElem?_eq_getElem ae) (List.getElem?_eq_getElem bQ)).keep (zan w z);have aq:=HX.o.trans (ix_step bQ);have aK:=zHi aq;have iy:ps.getD k 0=ps[k]:=MdH;have Jp:=zHi iy;clear aq iy t5 t6 t7;generalize ps[k]=T at*;generalize gs[k]=g at*;have cz:=zab t1;unfold zbt at t1;have k0:(w.ext z).cell? ⟨T,0,none⟩=some (.string g.place):=MeR;have k3:(w.ext z).cell? ⟨T,3,none⟩=some (.int .i64 g.fin):=MeR;have k4:(w.ext z).cell? ⟨T,4,none⟩=some (.slice H g.holders.length aE):=MeR;have cp:(w.ext z).cell? ⟨b',off+k,none⟩=some (.pointer (some ⟨T,0,none⟩)):=Md1;obtain⟨K3,K4⟩:=yH2 k3 k4;have au:(k:Int)<(ps.length:Int):=McS;have aR:(0:Int)<=(k:Int):=McS;clear t1 hc k3 k4;go_wp2_with (go_at_call 52;refine(zi2 g H aE T day _ K3.o K4.o).mono ?_;intro e wq hq;rcases Ret.bools hq with⟨zq,rfl,⟨hb,rfl⟩|⟨hb,rfl⟩⟩<;>clear hq)
   all_goals first
    |(go_ret
      have cW:R=some k:=by rw[aK.o];simp[zeh,ze5, *]
      rw[cW];refine Ret.of ?_ Bw;show _=Value.pointer (some ⟨ps.getD k 0,0,none⟩);rw[Jp.o]
      rfl)
    |(go_round
      case rel=>exact⟨k+1,by omega,by go_num,(by rw[aK.o];simp[zeh,ze5, *]:_=_),zaP Bw⟩
      case measure=>simp[intOf];omega)
  ·have au:¬(k:Int)<(ps.length:Int):=McS;have he:=HX.o.trans (ix_end (f:=λg=>zae g.place place&&zaM g day) (by omega:gs.length<=k));have HE:=zHi he;clear he;go_wp2_with fail
   go_ret
   exact Ret.of (by rw[HE.o];rfl) Bw
variable{base T:Nat}{W W':World}{g:Grave}{cs:Array Value}{t:TypeId}{fr:Nat×Nat}
def TombAt.kept(h:TombAt W base B T g)(hg:W.grownBy W' (some k))(hx:W.heap[k]?=some (.cells cs t fr))(ai:T≠k)(h1:t≠55)(h2:t≠9):TombAt W' base B T g:=by
 obtain⟨H,hc,D,dc,fr',t1,t2,t3,t4,t5,t6,t7⟩:=h;exact⟨H,hc,D,dc,fr',(hg.block T (zab t1) (λe=>ai Mee)).trans t1,t2,t3,t4,t5.kept hg hx h1,t6.kept hg hx h2,t7⟩
def TombAt.ne(h:TombAt W base B T g)(hx:W.heap[k]?=some (.cells cs t fr))(h1:t≠78):T≠k:=by
 obtain⟨H,hc,D,dc,fr',t1,t2,_⟩:=h;rintro rfl;rw[t1]at hx;simp only[Option.some.injEq,Obj.cells.injEq]at hx;exact h1 hx.2.1.symm
def TombsAt.mem(h:TombsAt base W B tv ps gs)(hT:T∈ps):∃g,TombAt W base B T g:=by
 obtain⟨i,hi,rfl⟩:=List.getElem_of_mem hT;exact⟨_,h.all i _ _ (List.getElem?_eq_getElem hi) (List.getElem?_eq_getElem (by have:=h.len;omega))⟩
def TombsAt.lt(h:TombsAt base W B tv ps gs)(hT:T∈ps):T<W.heap.size:=by
 obtain⟨g,H,hc,D,dc,fr',t1,_⟩:=h.mem hT;exact zab t1
def TombsAt.kept(h:TombsAt base W B tv ps gs)(hg:W.grownBy W' (some k))(hx:W.heap[k]?=some (.cells cs t fr))(h1:t≠55)(h2:t≠9)(h3:t≠78)(h4:t≠76):TombsAt base W' B tv ps gs:=
 ⟨h.own.kept hg hx h4,h.len,h.nd,λi T g e1 e2=>(h.all i T g e1 e2).kept hg hx ((h.all i T g e1 e2).ne hx h3) h1 h2⟩
variable{b:Nat}{la co:Int}
def wldC_set6(h:WldC W b d c p wl r mv tv la co)(v':Value):WldC (W.setCell ⟨b,6,none⟩ v') b d c p wl r mv v' la co:=by
 unfold WldC at*;have:=Joins.block_setCell (i:=6) h v';simpa using this
variable{s:St}
def wld_push{w1:World}{v':Value}(hb:base<=b)(hC:WldC W b d c p wl r mv tv la co)(hP:PplAt base W B d c p wl r mv s)(hT:TombsAt base W B tv ps s.graves)
 (hN:TombAt W base B T g)(hn:T∉ps)(h1:OwnS w1 base 76 1 ptrC v' (ps++[T]))(h2:W.grownBy w1 (za4 tv))(h3:∀k,za4 v'=some k->za4 tv=some k\/W.heap.size<=k):
 WldAt base (w1.setCell ⟨b,6,none⟩ v') b {s with graves:=s.graves++[g]} la co/\WldC w1 b d c p wl r mv tv la co:=by
 have cI:=zab hC;have aa:=hT.own;have aY:∀k,za4 tv=some k->∃cs fr,W.heap[k]?=some (.cells cs 76 fr):=λk hk=>by
  exact Mbp
 have fW:za4 tv≠some b:=λe=>by
  obtain⟨cs,fr,hx⟩:=aY b e;exact Mcc
 have cS:WldC w1 b d c p wl r mv tv la co:=(h2.block b cI (λe=>fW e.symm)).trans hC;have wO:PplAt base w1 B d c p wl r mv s:=by
  cases hk:za4 tv with
  |none=>rw[hk]at h2;exact hP.keep (n:=W.heap.size) ⟨h2.os,h2.tape,h2.output,h2.size,λi hi=>h2.block i hi McV⟩
  |some k=>
   obtain⟨cs,fr,hx⟩:=aY k hk;rw[hk]at h2;exact hP.kept h2 hx McU McU McU
 have aV:∀ {T':Nat} {g':Grave},TombAt W base B T' g'->TombAt w1 base B T' g':=λ{T' g'} h=>by
  cases hk:za4 tv with
  |none=>rw[hk]at h2;exact h.keep (n:=W.heap.size) ⟨h2.os,h2.tape,h2.output,h2.size,λi hi=>h2.block i hi McV⟩
  |some k=>
   obtain⟨cs,fr,hx⟩:=aY k hk;rw[hk]at h2;exact h.kept h2 hx (h.ne hx McU) McU McU
 refine⟨?_,cS⟩;have aI:=za1 w1 b 6 v';refine⟨B,d,c,p,wl,r,mv,v',ps++[T],hb,wldC_set6 cS v',?_,?_⟩
 ·have:=wO.kept aI cS McU McU McU;exact⟨this.nd,this.ge,this.dead,this.rows,this.marr,this.wills,this.ren⟩
 ·refine⟨h1.kept aI cS McU,by simp[hT.len],?_,λi T' g' e1 e2=>?_⟩
  ·rw[List.nodup_append];exact⟨hT.nd,by simp,λa ha b' cA e=>by rw[List.mem_singleton.1 cA]at e;exact hn (e▸ha)⟩
  ·have gz:TombAt w1 base B T' g':=by
    by_cases hi:i<ps.length
    ·have Lf:i<s.graves.length:=by have:=hT.len;omega
     rw[List.getElem?_append_left hi]at e1;rw[List.getElem?_append_left Lf]at e2;exact aV (hT.all i T' g' e1 e2)
    ·have qm:i=ps.length:=by have:=(List.getElem?_eq_some_iff.1 e1).1;simp at this;omega
     subst qm;simp at e1;rw[hT.len]at e2;simp at e2;subst e1 e2;exact aV hN
   exact gz.kept aI cS (gz.ne cS McU) McU McU
def KeepD(w w':World):Prop:= ∀(k:Nat) (cur:Array Value) (fr:Nat×Nat),w.heap[k]?=some (.cells cur 60 fr)->w'.heap[k]?=w.heap[k]?
section
variable {w w' w2:World}
def KeepD.below(h:Qa w w'):KeepD w w':=λk _ _ hk=>h.block k (zab hk)
def KeepD.trans(h:KeepD w w')(h2:KeepD w' w2):KeepD w w2:=λk cur fr hk=>by
 have e:=h k cur fr hk;exact(h2 k cur fr (e.trans hk)).trans e
def KeepD.cells{g:Nat}{cs:Array Value}{t:TypeId}{fr:Nat×Nat}(hg:w.grownBy w' (some g))(hx:w.heap[g]?=some (.cells cs t fr))(ai:t≠60):KeepD w w':=λk cur f hk=>
 hg.block k (zab hk) (λe=>by
  simp only[Option.some.injEq]at e;subst e;rw[hx]at hk;simp only[Option.some.injEq,Obj.cells.injEq]at hk
  exact ai hk.2.1)
def KeepD.map{g:Nat}{es:Array MapEntry}{c:Nat}(hg:w.grownBy w' (some g))(hx:w.heap[g]?=some (.map es c)):KeepD w w':=λk cur f hk=>
 hg.block k (zab hk) (λe=>by
  simp only[Option.some.injEq]at e;subst e;rw[hx]at hk
  simp at hk)
def KeepD.own{α:Type}{base:Nat}{e:TypeId}{size:Nat}{f:α->List Value}{v:Value}{xs:List α}(h:OwnS w base e size f v xs)(hg:w.grownBy w' (za4 v))(ai:e≠60):KeepD w w':=by
 rcases h with⟨rfl,_⟩|⟨g,o,c,cur,rfl,_,hx,_⟩
 ·exact λk cur f hk=>hg.block k (zab hk) MdI
 ·exact KeepD.cells hg hx ai
end
def zbG(base b:Nat)(x:St×Int)(la co:Int)(w:World)(e:Ending)(w':World):Prop:=
 e=.returned (.int .i64 x.2)/\WldAt base w' b x.1 la co/\Below base w w'/\KeepD w w'
def Deed.v(d:Deed)(B:Option Addr)(c:Nat):Value:=.agg #[.int .i64 d.kind,.int .i64 d.day,.string d.place,.string d.frm,.slice B d.to.length c,.int .i64 d.cls,.int .i64 d.years]
def ziC{p:RPart}(h:za8 16 p.num p.den=true):p.rat.num=p.num/\(p.rat.den:Int)=p.den:=⟨(zbl h).1,(zbl h).2.1⟩
def zpg(l:List RPart)(h:k<l.length):zbe (l.take (k+1)) []=za5 (zbe (l.take k) []) l[k].name l[k].rat:=by
 rw[List.take_succ_eq_append_getElem h];unfold zbe;rw[List.foldl_append];rfl
variable{w:World}
def sl_ptr(h:w.heap[b]?=some (.cells #[.pointer (some ⟨T,0,none⟩)] t fr)):Sl w 1 ptrC (some ⟨b,0,none⟩) [T]:=λ_=>⟨b,0,rfl,zab h,λk y hy j u hu=>by
 have hk:k=0:=Mc2;subst hk;simp only[List.getElem?_cons_zero,Option.some.injEq]at hy;subst hy;match j,hu with
 |0,hu=>simp[ptrC]at hu;simp[World.cell?,h,<-hu]
 |j+1,hu=>simp[ptrC]at hu⟩
def zh3:∀ {l:List RPart} {out:Parts} {seen:List ByteArray},zdb l seen=true->(∀p∈out,p.1∈seen)->∀k (h:k<l.length),zah (zbe (l.take k) out) l[k].name=0
 | [],_,_,_,_,_,h=>absurd h McV
 |p::l,out,seen,hf,ho,0,_=>by
  rw[zdb,Bool.and_eq_true]at hf;have h1:p.name∉seen:=by
   have:=hf.1;simp only[Bool.not_eq_true']at this;intro h;rw[zf1.2 h]at this;cases this
  exact(zdG λq hq e=>h1 (by have e':q.1=p.name:=e;rw[<-e'];exact ho q hq)).1
 |p::l,out,seen,hf,ho,k+1,h=>by
  rw[zdb,Bool.and_eq_true]at hf
  exact zh3 (l:=l) (out:=za5 out p.name p.rat) hf.2 (λq hq=>by
   rcases zfa hq with e|hq
   ·rw[e];simp
   ·exact List.mem_cons_of_mem _ (ho q hq)) k MdG
variable{w':World}
def zbN{x:St×Int}{er:Int}(hW:WldAt base w b s la co)(hB:Qa w w')(hx:x=(s,er)):zbG base b x la co w (.returned (.int .i64 er)) w':=by
 rw[hx];exact⟨rfl,hW.keep hB,hB.mono (by have:=hW.lt;omega),KeepD.below hB⟩
variable{l:List RPart}
def zng{shares all:Bool}{frm:ByteArray}(h:zcF shares all frm l=true):zdb l []=true/\∀p∈l,zae p.name frm=false:=by
 unfold zcF at h;simp only[Bool.and_eq_true,List.all_eq_true,Bool.not_eq_true']at h;exact⟨h.1.1,h.1.2⟩
def set_lit(base T:Nat)(xs:Parts)(v:Value)(pl:ByteArray)(cl fr en:Int)(dv:Value)(p:RPart)(w:World)(hp:za8 16 p.num p.den=true)(hT:zbt w T pl cl fr en v dv)(sy:base<=T)(aa:OwnS w base 55 3 zaa v xs)(hA:AscP xs)(hl:xs.length<=90000):
 Calls Tryz.prog 109 #[.pointer (some ⟨T,0,none⟩),.string p.name,.agg #[.int .i64 p.num,.int .i64 p.den]] w (zk2 w base T pl cl fr en dv v (setP xs p.name p.rat)):=by
 have h:=zi4 base T xs v pl cl fr en dv p.name p.rat w hT sy aa hA hl;rw[(ziC hp).1,(ziC hp).2]at h;exact h
def good_take(h:∀p∈l,0<p.rat/\IsN 720720 p.rat/\za8 16 p.num p.den=true)(k:Nat):GoodParts (zbe (l.take k) []):=
 (ziu (l:=l.take k) zd9 McV λp hp=>⟨(h p (List.mem_of_mem_take hp)).1,(h p (List.mem_of_mem_take hp)).2.1⟩).1
def zcz(n:ByteArray)(q:Rat):∀l:Parts,(za5 l n q).length<=l.length+1
 | []=>by unfold za5;split<;>simp
 |p::l=>by
  have:=zcz n q l;unfold za5;split
  ·simp
  ·split
   ·simpa using this
   ·split<;>simp<;>omega
def zfk:∀(l:List RPart) (out:Parts),(zbe l out).length<=out.length+l.length
 | [],out=>by simp[zbe]
 |p::l,out=>by
  have h1:=zfk l (za5 out p.name p.rat);have h2:=zcz p.name p.rat out;show(zbe l (za5 out p.name p.rat)).length<=_;simp;omega
def grant_any(base b:Nat)(s:St)(la co:Int)(d:Deed)(B:Option Addr)(c:Nat)(w:World)(hW:WldAt base w b s la co)(hL:LensIn w)(hd:OkD d)(hk:d.kind=0)(ag:s.graves.length<=1000)(aA:d.to.length<=c)(hS:Sl w 3 RPart.cells B d.to):
 Calls Tryz.prog 77 #[.pointer (some ⟨b,0,none⟩),d.v B c] w (zbG base b (zcR s d) la co w):=by
 have am:=hW;obtain⟨Bk,dd,cc,pp,wl,rr,mv,tv,ps,ba,hC,hP,hT⟩:=hW;have hp:=(hd.parts (.inl hk)).2;have bS:=(zea hp).1;have AR:=(zng hp).1;have cg:=hd.day;have dY:=hd.years;have bA:=hd.len;clear hp hd hk;obtain⟨kd,dy,pl,fr,ts,cl,yr⟩:=d;simp only at*;have cI:=zab hC;obtain⟨bI,uU,aj,HW,jv,IU,HC,HP⟩:=yH8 (λW (hB:Qa w W)=>ziB base b s la co pl dy W (hC.keep hB) (hT.keep hB) McS) (λW (hB:Qa w W)=>zi5 base b s ts B _ c W rfl McS (am.peo.keep hB) (hS.keep hB)) (λW (hB:Qa w W)=>zjR dy yr W (hL.keep hB) cg.1 cg.2 dY.1 dY.2) am bS AR hC hP;obtain⟨HT,HS⟩:=yH2 hT hS;clear am hC hP hT hS bS AR hL;unfold Deed.v;simp only;go_enter Tryz.func77,Tryz.ntmps77
 go_upto_block 0 with fail
 cases aP:zaL s pl dy with
 |some i=>
  rw[aP]at bI;have HG:Hid (zcR s ⟨kd,dy,pl,fr,ts,cl,yr⟩=(s,13)):=by show _=_;simp[zcR,aP]
  clear aP;go_wp2_with (go_at_call 23;refine(bI.o _ Bw).mono ?_;rintro e wq ⟨rfl,z,rfl⟩;simp only[zl7,Option.map_some])
  go_ret
  exact zbN HW.o Bw HG.o
 |none=>
  rw[aP]at bI;have l8:=zHi aP;clear aP;go_cut [5]from 9 (λv wc=>v=.int .i64 (if decide (0<yr)then zcf dy yr else-1)/\Hid (zcR s ⟨kd,dy,pl,fr,ts,cl,yr⟩=({s with graves:=s.graves++[⟨pl,cl,if decide (0<yr)then zcf dy yr else-1,zbe ts [],[]⟩]},0))/\Qa w wc/\w.heap.size<wc.heap.size/\wc.heap[w.heap.size]?=some (.cells #[.int .i64 kd,.int .i64 dy,.string pl,.string fr,.slice B ts.length c,.int .i64 cl,.int .i64 yr] 60))
  case first=>
   generalize hR:zcf dy yr=R at*;have HR:=zHi hR;clear hR
   go_wp2_with (first
    |(go_at_call 23;refine(bI.o _ Bw).mono ?_;rintro e wq ⟨rfl,z,rfl⟩;simp only[zl7,Option.map_none])
    |(go_at_call 107;refine(uU.o _ Bw).mono ?_;intro e wq hq;rcases Ret.bools hq with⟨zq,rfl,⟨hb,rfl⟩|⟨hb,rfl⟩⟩<;>clear hq)
    |(go_at_call 108;refine(aj.o _ Bw).mono ?_;rintro e wq ⟨rfl,z2,rfl⟩))
   all_goals first
    |(go_ret
      exact zbN HW.o Bw (by simp[zcR,l8.o,HR.o, *]))
    |(go_meet
      refine⟨(by first|(simp[*];done)|(simp[*];omega)),(by first|(simp[zcR,l8.o,HR.o, *];done)|(simp[zcR,l8.o,HR.o, *];omega):_=_),Bw,by simp[zaf];omega,?_⟩
      repeat(first|exact zas _ _ _ rfl|with_reducible refine zbF ?_|with_reducible refine zal ?_))
  case rest=>
   obtain⟨rfl,HG,hB,hsz,g0⟩:=hcut;generalize(if decide (0<yr)=true then zcf dy yr else-1)=en at*;clear bI uU aj;obtain⟨d0,d1,d2,d3,d4,d5,d6⟩:=cF7 g0;have ai:w.heap.size≠wc.heap.size:=McS;have sy:base<=wc.heap.size:=McS;have eG:wc.heap.size∉ps:=λh=>by have:=HT.o.lt h;omega
   have G0:=zHi g0;clear g0;go_wp2_with fail
   go_loopw [45] (λi wr=>∃(k:Nat) (v:Value),k<=ts.length/\i=.int .i64 k/\zbt wr wc.heap.size pl cl dy en v (.slice none 0 0)/\OwnS wr wc.heap.size 55 3 zaa v (zbe (ts.take k) [])/\Qa wc wr) (λi _=>ts.length-(intOf i).toNat)
   case atStart=>exact⟨0,.slice none 0 0,Nat.zero_le _,rfl,zas _ _ _ rfl,OwnS.nil,Bw⟩
   case round=>
    obtain⟨k,v,hk,rfl,wV,wM,nX⟩:=hrel;have fK:Qa w wr:=hB.trans (nX.mono McS);have uO:=nX.size;have cz:=zab wV;have bB:=good_take jv.o k;have bQ:=zfk (ts.take k) [];have L7:(ts.take k).length<=8:=MdC;have zV:=zHi bB;simp only[List.length_nil,Nat.zero_add]at bQ;clear bB;by_cases ae:k<ts.length
    ·obtain⟨b',off,rfl,cA,hc⟩:=(HS.o.keep fK).at ae;have cw:=zh3 (out:=[]) IU.o McV k ae;have ie:=jv.o ts[k] (List.getElem_mem ae);have aI:=zpg ts ae;generalize ts[k]=p at*;obtain⟨pn,pu,pd⟩:=p;have h0:wr.cell? ⟨b',off+k*3,none⟩=some (.string pn):=hc 0 _ rfl;have h1:wr.cell? ⟨b',off+k*3+1,none⟩=some (.int .i64 pu):=hc 1 _ rfl;have h2:wr.cell? ⟨b',off+k*3+2,none⟩=some (.int .i64 pd):=hc 2 _ rfl;have HN:Hid (setP (zbe (ts.take k) []) pn (RPart.rat ⟨pn,pu,pd⟩)=zbe (ts.take (k+1)) []):=by
      show _=_;have:=ziy zV.o (n:=pn) (q:=RPart.rat ⟨pn,pu,pd⟩) (by have:=ie.1;grind);simp only at cw;rw[cw,Rat.zero_add]at this;rw[this,aI]
     have gN:=zHi (λW (fJ:Qa wr W)=>set_lit wc.heap.size wc.heap.size (zbe (ts.take k) []) v pl cl dy en (.slice none 0 0) ⟨pn,pu,pd⟩ W ie.2.2 ((fJ.block _ cz).trans wV) Qc (wM.keep fJ) zV.o.asc McS);have au:(k:Int)<(ts.length:Int):=McS;have aR:(0:Int)<=(k:Int):=McS;have fZ:(k:Int)<=(c:Int):=McS;clear hc cw ie aI wV wM;go_wp2_with (go_at_call 109;refine(gN.o _ Bw).mono ?_;rintro e wq ⟨rfl,v',t1,t2,t3,_⟩)
     go_round
     case rel=>exact⟨k+1,v',by omega,by go_num,t1,by rw[<-HN.o];exact t2,Below.trans Bw t3⟩
     case measure=>simp[intOf];omega
    ·have au:¬(k:Int)<(ts.length:Int):=McS;rw[List.take_of_length_le McS]at wM;obtain⟨HA,lF,rfl,xY,ej⟩:=wM.ro;have hN:TombAt wr base Bk wc.heap.size ⟨pl,cl,en,zbe ts [],[]⟩:=⟨HA,lF,none,0,dy,wV,sy,xY,Qc,ej,Ro.nil,by simp⟩
     have HN:=zHi hN;have Ap:WldC wr b dd cc pp wl rr mv tv la co:=HC.o.keep fK;unfold WldC at Ap;obtain⟨-,-,-,-,-,-,c6⟩:=cF7 Ap;have DE:b<wr.heap.size:=zab Ap;have kn:ps.length<=1000:=by rw[HT.o.len];exact ag
     have fL:=HT.o.own.ge;have IW:=zHi fL;clear wV wM ej hN Ap fL
     go_wp2_with (at_builtin
                  go_loud(refine zar (v:=tv) (n:=ps.length) (m:=1) rfl _ _ rfl elTomb zcK zon rfl (HT.o.own.keep (n:=w.heap.size) Bw) rfl rfl rfl (sl_ptr (zas _ _ _ rfl)) Mc8 McS McX ?_)
                  intro v3 w3 h1 h2 h3;obtain⟨A3,q3,Il,_,_⟩:=h1.sl zcK;rw[List.length_append]at Il;subst Il;go_loud(obtain⟨qx,mT⟩:=wld_push ba (HC.o.keep (n:=w.heap.size) Bw) (HP.o.keep (n:=w.heap.size) Bw) (HT.o.keep (n:=w.heap.size) Bw) (HN.o.keep (n:=wr.heap.size) Bw) eG h1 h2 h3)
                  have ka:=zHi qx;go_loud(have ax:=Below.grown (B:=base) (a:=w) (Below.mono (B:=w.heap.size) Bw McS) h2 McX (λj hj=>(IW.o j hj).1))
                  go_loud(have ck:=((KeepD.below (w:=w) Bw).trans (KeepD.own (HT.o.own.keep (n:=w.heap.size) Bw) h2 McU)).trans (KeepD.cells (za1 w3 b 6 (.slice A3 (ps.length+[wc.heap.size].length) q3)) mT McU))
                  have ky:=zHi ck;unfold WldC at mT;have k6:w3.cell? ⟨b,6,none⟩=some tv:=(by simp only[World.cell?,mT];rfl)
                  have f6:w3.frozen? ⟨b,6,none⟩=false:=(by simp only[World.frozen?,mT];rfl)
                  have aG:=zHi ax
                  clear qx mT ax h1 h2 h3 ck)
     go_ret
     rw[HG.o];exact⟨rfl,ka.o,zaS aG.o ba _,ky.o⟩
def zl8{α:Type}(w:World)(e:TypeId)(size:Nat)(f:α->List Value)(xs:List α)(en:Ending)(w':World):Prop:=
 ∃v,en=.returned v/\OwnS w' w.heap.size e size f v xs/\Qa w w'
def zeD(xs:List (ByteArray×Rat))(L:Option Addr)(n lc:Nat)(w:World)(hn:n=xs.length)(hl:xs.length<=100000)(hS:Sl w 3 zaa L xs):
 Calls Tryz.prog 112 #[.slice L n lc] w (zl8 w 55 3 zaa xs):=by
 have HM:=zHi hn;have q22:∀(w:World) (a:Option Addr) (n c n' c':Nat),(binOp .eql 36 (.slice a n c) (.slice none n' c')).run Tryz.prog w=.ok (.bool a.isNone) w:=λw a n c n' c'=>Lib.run_eql_slice_nil w _ _ a n c n' c' Tryz.underlying36
 clear hn;go_enter Tryz.func112,Tryz.ntmps112
 cases L with
 |none=>
  exact MaY
 |some ad=>
  go_wp2_with (at_builtin;refine zeP rfl _ _ rfl zdR zak zcc rfl (World.ownsRow_made w #[] 0 Qc (Nat.zero_le _) McV) rfl HM.o (hS.keep Bw) ?q1 ?q2 McV ?_)
  case q1=>simp[maxLen,HM.o];omega
  case q2=>simp[HM.o];omega
  intro v' w' h1 h2 h3;go_wp2_with fail
  go_ret
  refine⟨v',rfl,OwnS.of_own zak (by simpa[HM.o]using h1),Below.grown Bw h2 McV (by intro k hk;simp[Value.ownBlock]at hk;omega)⟩
def zl9(xs:List ByteArray)(L:Option Addr)(n lc:Nat)(w:World)(hn:n=xs.length)(hl:xs.length<=100000)(hS:Sl w 1 sC L xs):
 Calls Tryz.prog 104 #[.slice L n lc] w (zl8 w 9 1 sC xs):=by
 have HM:=zHi hn;have q22:∀(w:World) (a:Option Addr) (n c n' c':Nat),(binOp .eql 34 (.slice a n c) (.slice none n' c')).run Tryz.prog w=.ok (.bool a.isNone) w:=λw a n c n' c'=>Lib.run_eql_slice_nil w _ _ a n c n' c' Tryz.underlying34
 clear hn;go_enter Tryz.func104,Tryz.ntmps104
 cases L with
 |none=>
  exact MaY
 |some ad=>
  go_wp2_with (at_builtin;refine zeP rfl _ _ rfl zbL zaB zbK rfl (World.ownsRow_made w #[] 0 Qc (Nat.zero_le _) McV) rfl HM.o (hS.keep Bw) ?q1 ?q2 McV ?_)
  case q1=>simp[maxLen,HM.o];omega
  case q2=>simp[HM.o];omega
  intro v' w' h1 h2 h3;go_wp2_with fail
  go_ret
  refine⟨v',rfl,OwnS.of_own zaB (by simpa[HM.o]using h1),Below.grown Bw h2 McV (by intro k hk;simp[Value.ownBlock]at hk;omega)⟩
def MarkAt(W:World)(C:Nat)(f:Bool):Prop:=W.heap[C]?=some (.cells #[.bool f] 167)
variable{C:Nat}{f:Bool}
def MarkAt.drew(h:MarkAt W C f):MarkAt W.drew C f:=h
def MarkAt.ext(h:MarkAt W C f)(z:Ez):MarkAt (W.ext z) C f:=zbF h
def MarkAt.alloc(h:MarkAt W C f)(o:Obj):MarkAt (W.alloc o) C f:=zal h
variable{n:Nat}
def MarkAt.keep(h:MarkAt W C f)(hB:Below n W W')(hn:C<n):MarkAt W' C f:=(hB.block C hn).trans h
def MarkAt.grown(h:MarkAt W C f)(hg:W.grownBy W' (some k))(hn:C≠k):MarkAt W' C f:=(hg.block C (zab h) (λe=>hn Mee)).trans h
variable{o:Nat}
def zai(h:Below n w W)(hb:b<n):W.cell? ⟨b,o,none⟩=w.cell? ⟨b,o,none⟩:=h.cell (p:=⟨b,o,none⟩) hb
def zbd(h:w.grownBy W (some k))(hb:b<w.heap.size)(hk:b≠k):W.cell? ⟨b,o,none⟩=w.cell? ⟨b,o,none⟩:=
 World.cell?_of_block (w:=w) (h.block b hb (λe=>hk Mee))
def zeE(w:World)(C:Nat)(f:Bool)(r:Rat)(e:Ending)(w':World):Prop:=
 e=.returned (zaA (zbi r))/\MarkAt w' C (f||bigQ r)/\w.grownBy w' (some C)
def zlA(w:World)(z:Ez)(row:Option Nat):w.grownBy (w.ext z) row:=zlm (zc6 w row) z
def ziD{r:Rat}{e:Ending}(hC:MarkAt w C f)(h:ze4 w C r e w'):zeE w C f r e w':=by
 unfold MarkAt at hC;rcases h with⟨hd,rfl,z,rfl⟩|⟨hd,rfl,z,rfl⟩
 ·have hb:bigQ r=false:=by unfold bigQ;simp;omega
  refine⟨by rw[zfd hb],?_,zlA _ _ _⟩;rw[hb,Bool.or_false];exact zbF hC
 ·have hb:bigQ r=true:=by unfold bigQ;simp;omega
  refine⟨by unfold zbi;rw[hb];rfl,?_,zlm (za1 _ _ _ _) z⟩;rw[hb,Bool.or_true];refine zbF ?_;have:=Joins.block_setCell (i:=0) hC (.bool true);simpa using this
def zbT(hC:MarkAt w C f):w.cell? ⟨C,0,none⟩=some (.bool f)/\C<w.heap.size/\w.frozen? ⟨C,0,none⟩=false:=by
 have h:=zab hC;unfold MarkAt at hC;exact⟨by simp[World.cell?,hC],h,by simp[World.frozen?,hC]⟩
def zhR(C:Nat)(f:Bool)(w:World)(hC:MarkAt w C f)(p q:Rat)(hp:zaJ p)(hq:zaJ q):Calls Tryz.prog 113 #[.pointer (some ⟨C,0,none⟩),zaA p,zaA q] w (zeE w C f (p*q)):=
 (cmul5_any C f w (zbT hC).1 (zbT hC).2.1 (zbT hC).2.2 p q hp hq).mono λ_ _ h=>ziD hC h
def zhS(C:Nat)(f:Bool)(w:World)(hC:MarkAt w C f)(p q:Rat)(hp:zaJ p)(hq:zaJ q):Calls Tryz.prog 114 #[.pointer (some ⟨C,0,none⟩),zaA p,zaA q] w (zeE w C f (p+q)):=
 (cadd5_any C f w (zbT hC).1 (zbT hC).2.1 (zbT hC).2.2 p q hp hq).mono λ_ _ h=>ziD hC h
def zos(C:Nat)(f:Bool)(w:World)(hC:MarkAt w C f)(p q:Rat)(hp:zaJ p)(hq:zaJ q)(h0:0<q):Calls Tryz.prog 115 #[.pointer (some ⟨C,0,none⟩),zaA p,zaA q] w (zeE w C f (p/q)):=
 (cquo5_any C f w (zbT hC).1 (zbT hC).2.1 (zbT hC).2.2 p q hp hq h0).mono λ_ _ h=>ziD hC h
variable{i:Nat}
def ziE{g':Grave}(hb:base<=b)(hC:WldC W b d c p wl r mv tv la co)(hP:PplAt base W B d c p wl r mv s)(hT:TombsAt base W B tv ps s.graves)
 (hi:ps[i]?=some T)(hx:W.heap[T]?=some (.cells cs 78 fr))(hg:W.grownBy W' (some T))(hN:TombAt W' base B T g'):WldAt base W' b (s.withGrave i g') la co:=by
 have sy:b≠T:=λe=>by
  subst e;exact Mcc
 have cH:WldC W' b d c p wl r mv tv la co:=(hg.block b (zab hC) (λe=>sy Mee)).trans hC;refine⟨B,d,c,p,wl,r,mv,tv,ps,hb,cH,?_,?_⟩
 ·have:=hP.kept hg hx McU McU McU;exact⟨this.nd,this.ge,this.dead,this.rows,this.marr,this.wills,this.ren⟩
 ·refine⟨hT.own.kept hg hx McU,by simp[St.withGrave,hT.len],hT.nd,λj T' g e1 e2=>?_⟩;simp only[St.withGrave]at e2;by_cases hj:i=j
  ·subst hj;rw[hi]at e1;have eR:i<s.graves.length:=Med;exact MbM
  ·exact Max
def zdI{place:ByteArray}{day:Int}(hT:TombsAt base W B tv ps s.graves)(h:zaL s place day=some i):
 ∃T g,ps[i]?=some T/\ps.getD i 0=T/\s.graves[i]?=some g/\s.graves.getD i zfO=g/\TombAt W base B T g/\zaM g day=true:=by
 obtain⟨g,h1,h2,h3⟩:=zcg h;have hi:i<ps.length:=by have:=(List.getElem?_eq_some_iff.1 h1).1;have:=hT.len;omega
 refine⟨ps[i],g,List.getElem?_eq_getElem hi,by rw[List.getD_eq_getElem?_getD,List.getElem?_eq_getElem hi];rfl,h1,zf5 h1,hT.all i _ g (List.getElem?_eq_getElem hi) h1,h3⟩
def ziF{cs0 cs1 cs2 cs3 cs4 cs5:Value}(h:W.heap[T]?=some (.cells #[cs0,cs1,cs2,cs3,cs4,cs5] 78 fr))(a0 a1 a2 a3 a4 a5:Value):
 ((((((W.setCell ⟨T,0,none⟩ a0).setCell ⟨T,1,none⟩ a1).setCell ⟨T,2,none⟩ a2).setCell ⟨T,3,none⟩ a3).setCell ⟨T,4,none⟩ a4).setCell ⟨T,5,none⟩ a5).heap[T]?=some (.cells #[a0,a1,a2,a3,a4,a5] 78 fr):=by
 have:=Joins.block_setCell (i:=5) (Joins.block_setCell (i:=4) (Joins.block_setCell (i:=3) (Joins.block_setCell (i:=2) (Joins.block_setCell (i:=1) (Joins.block_setCell (i:=0) h a0) a1) a2) a3) a4) a5;simpa using this
def zcb(W:World)(T:Nat)(a0 a1 a2 a3 a4 a5:Value):W.grownBy ((((((W.setCell ⟨T,0,none⟩ a0).setCell ⟨T,1,none⟩ a1).setCell ⟨T,2,none⟩ a2).setCell ⟨T,3,none⟩ a3).setCell ⟨T,4,none⟩ a4).setCell ⟨T,5,none⟩ a5) (some T):=
 zbm (zbm (zbm (zbm (zbm (za1 _ _ _ _) (za1 _ _ _ _)) (za1 _ _ _ _)) (za1 _ _ _ _)) (za1 _ _ _ _)) (za1 _ _ _ _)
def zeF(l:List RPart):Rat:=1-sumQ (zaq l)
def zlB(l:List RPart)(h:k<l.length):zeF (l.take (k+1))=zeF (l.take k)-l[k].rat:=by
 have hs:∀a b:Parts,sumQ (a++b)=sumQ a+sumQ b:=λa b=>by
  exact MbF
 unfold zeF;rw[List.take_succ_eq_append_getElem h];unfold zaq;rw[List.map_append,hs];simp only[List.map_cons,List.map_nil,sumQ];grind
def zot(h:∀p∈l,0<p.rat):∀k,0<=sumQ (zaq (l.take k))/\sumQ (zaq (l.take k))<=sumQ (zaq l):=λk=>by
 have hs:∀a b:Parts,sumQ (a++b)=sumQ a+sumQ b:=λa b=>by
  exact MbF
 have hp:∀m:List RPart,(∀p∈m,0<p.rat)->0<=sumQ (zaq m):=λm hm=>zbq λp hp=>by
  obtain⟨q,hq,rfl⟩:=List.mem_map.1 hp;have:=hm q hq;show 0<=q.rat;grind
 refine⟨hp _ λp hp=>h p (List.mem_of_mem_take hp),?_⟩;have h2:=hp (l.drop k) λp hp=>h p (List.mem_of_mem_drop hp)
 have e:zaq l=zaq (l.take k)++zaq (l.drop k):=by
  unfold zaq;rw[<-List.map_append,List.take_append_drop]
 rw[e,hs];grind
def ziG{l:List RPart}(h:∀p∈l,0<p.rat/\IsN 720720 p.rat/\za8 16 p.num p.den=true):∀k,Fits (zeF (l.take k))
 |0=>by
  show Fits (1-0);rw[show(1:Rat)-0=1 by grind];exact fits_one
 |k+1=>by
  by_cases hk:k<l.length
  ·rw[zlB l hk];exact(ziG h k).sub (zeq (h _ (List.getElem_mem hk)).2.2)
  ·rw[show l.take (k+1)=l.take k by rw[List.take_of_length_le McS,List.take_of_length_le McS]];exact ziG h k
def subS_any(s:Rat)(a b:Int)(W:World)(hs:zaJ s)(h:za8 16 a b=true):Calls Tryz.prog 111 #[.agg #[.int .i64 s.num,.int .i64 s.den],.agg #[.int .i64 a,.int .i64 b]] W (Ret W (zaA (s-Rat.divInt a b))):=by
 obtain⟨h1,h2,h3,h4⟩:=zbl h;have:=zhI s (Rat.divInt a b) W hs ((zeq h).small (Rat.le_trans McU h3) (Rat.le_trans h4 McU));unfold zaA at this⊢;rw[h1,h2]at this;exact this
def mulS_any(C:Nat)(f:Bool)(w:World)(hC:MarkAt w C f)(p:Rat)(a b:Int)(hp:zaJ p)(h:za8 16 a b=true):Calls Tryz.prog 113 #[.pointer (some ⟨C,0,none⟩),.agg #[.int .i64 p.num,.int .i64 p.den],.agg #[.int .i64 a,.int .i64 b]] w (zeE w C f (p*Rat.divInt a b)):=by
 obtain⟨h1,h2,h3,h4⟩:=zbl h;have:=zhR C f w hC p (Rat.divInt a b) hp ((zeq h).small (Rat.le_trans McU h3) (Rat.le_trans h4 McU));unfold zaA at this;rw[h1,h2]at this;exact this
def zlC{d:Deed}(aP:zaL s d.place d.day=some i)(hg:s.graves.getD i zfO=g)(hG:GoodG g)(hp:∀p∈zaq d.to,0<=p.2)(h1:sumQ (zaq d.to)<=1):
 zbo s d=if g.cls==4 then(s,15)else if zah g.holders d.frm==0 then(s,19)else if zdZ s d.to then(s,28)else
  if(zcx g.holders d.frm (zaq d.to)).2 then(s,8)else(s.withGrave i {g with holders:=(zcx g.holders d.frm (zaq d.to)).1},0):=by
 have hs:=zk1 (frm:=d.frm) hG.good hG.small hp h1;unfold zbo;rw[aP];simp only[hg];cases hb:bigQ (zah g.holders d.frm*(1-sumQ (zaq d.to)))
 ·rw[hb]at hs;simp only[Bool.false_eq_true,if_false]at hs⊢;rw[hs];cases(zcx g.holders d.frm (zaq d.to)).2<;>rfl
 ·rw[hb]at hs;simp only[if_true]at hs⊢;cases ht:(zcx g.holders d.frm (zaq d.to)).2
  ·rw[ht]at hs;simp at hs
  ·rfl
