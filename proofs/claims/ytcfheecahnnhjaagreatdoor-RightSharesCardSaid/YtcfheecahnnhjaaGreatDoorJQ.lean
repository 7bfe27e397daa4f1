import Derived.Test.YtcfheecahnnhjaaGreatDoorJO
import Derived.Test.YtcfheecahnnhjaaGreatDoorNI
set_option linter.all false
set_option maxRecDepth 100000
set_option maxHeartbeats 4000000
namespace Go.Proofs.YtcfheecahnnhjaaGreatDoor
open Go.RowKit Go.Shelf
attribute [local go_sem] World.cell?_alloc_mark zag za4 zar zaB zaw zax zay zaz za0 za1 za2
attribute [local go_sem] zas zad
def HeirAt(W:World)(h b:Nat)(law:Law)(who:ByteArray)(C m:Nat):Prop:=
 W.heap[h]?=some (.cells #[.pointer (some ⟨b,0,none⟩),.int .i64 law.frm,.bool law.stems,.int .i64 law.num,.int .i64 law.den,.string who,.pointer (some ⟨C,0,none⟩),.map (some m)] 215)
def ziF(s:St)(n frm:ByteArray):Bool:=!zae n frm&&!zaN s n&&!s.renounce.any (fun r=>zae r.1 n&&zae r.2 frm)
theorem able_q(s:St)(n frm:ByteArray):zed s n frm=(!noB n&&ziF s n frm):=by
 unfold zed ziF;simp only[Bool.and_assoc]
theorem zk2(base b h C m:Nat)(s:St)(law:Law)(who n:ByteArray)(w:World)(hW:PeoAt base w b s)(hH:HeirAt w h b law who C m):
 Calls Tryz.prog 174 #[.pointer (some ⟨h,0,none⟩),.string n] w (Ret w (.bool (ziF s n who))):=by
 obtain⟨B,d,c,p,wl,r,mv,tv,la,co,h1,h2⟩:=hW;have hb:=zab h1;have hh:=zab hH;unfold WldC at h1;unfold HeirAt at hH;obtain⟨c0,-,-,-,-,c5⟩:=cF6 h1;obtain⟨e0,-,-,-,-,e5⟩:=cF6 hH;have dR:∀q',(Instr.lookup 77 (.map (some d)) (.string n) false).run Tryz.prog (w.drewN q')=.ok (.bool (zaN s n)) (w.drewN q'):=fun q'=>zd0 (h2.drewN q') _
 have cL:∀q',(Instr.lookup 80 (.map (some r)) (.agg #[.string n,.string who]) false).run Tryz.prog (w.drewN q')=.ok (.bool (s.renounce.any fun x=>zae x.1 n&&zae x.2 who)) (w.drewN q'):=fun q'=>znL (h2.drewN q') _ _
 have hU:ziF s n who=(!zae n who&&!zaN s n&&!(s.renounce.any fun x=>zae x.1 n&&zae x.2 who)):=rfl;have HU:=zHi hU;clear hU;generalize ziF s n who=R at*;generalize zaN s n=dd at*;generalize(s.renounce.any fun x=>zae x.1 n&&zae x.2 who)=rr at*;have cT:zae n who=(n.toList==who.toList):=rfl;rw[cT]at HU;clear h1 h2 hH cT;go_enter Tryz.func174,Tryz.ntmps174
 cases hn:(n.toList==who.toList)
 ·have dY:(n.toList != who.toList)=true:=by rw[bne,hn];rfl
  rw[hn]at HU;cases dd
  ·exact Mat
  ·exact Mat
 ·have dY:(n.toList != who.toList)=false:=by rw[bne,hn];rfl
  rw[hn]at HU;exact Mat
def HasAt(W:World)(m:Nat)(out:Parts):Prop:=
 ∃mm:List (ByteArray×Value),MapS W m ekS (fun v:Value=>v) mm/\(mm.map (·.1)).Nodup/\∀n,(mget eqS n mm=none/\zaf out n=0)\/mget eqS n mm=some (zaA (zaf out n))
theorem HasAt.keep{n m:Nat}{W W':World}{out:Parts}(h:HasAt W m out)(hB:Below n W W')(hn:W.heap.size<=n:=by first|exact Nat.le_refl _|omega):HasAt W' m out:=by
 obtain⟨mm,h1,h2,h3⟩:=h;exact⟨mm,h1.below hB hn,h2,h3⟩
theorem HasAt.block{m:Nat}{W W':World}{out:Parts}(h:HasAt W m out)(hb:W'.heap[m]?=W.heap[m]?):HasAt W' m out:=by
 obtain⟨mm,h1,h2,h3⟩:=h;exact⟨mm,h1.keep hb,h2,h3⟩
theorem HasAt.lt{m:Nat}{W:World}{out:Parts}(h:HasAt W m out):m<W.heap.size:=by
 obtain⟨mm,h1,h2,h3⟩:=h;exact h1.at.lt
structure Two2 (w w':World) (C m:Nat):Prop where
 below:∀n,n<=C->n<=m->n<=w.heap.size->Below n w w'
 others:∀k,k<w.heap.size->k≠C->k≠m->w'.heap[k]?=w.heap[k]?
 size:w.heap.size<=w'.heap.size
theorem Two2.of_below{w w':World}{C m:Nat}(h:Below w.heap.size w w'):Two2 w w' C m:=⟨fun n _ _ hn=>h.mono hn,fun k hk _ _=>h.block k hk,h.size⟩
theorem Two2.trans{a b c:World}{C m:Nat}(h:Two2 a b C m)(k:Two2 b c C m):Two2 a c C m:=
 ⟨fun n h1 h2 h3=>(h.below n h1 h2 h3).trans (k.below n h1 h2 (Nat.le_trans h3 h.size)),fun i hi h1 h2=>(k.others i (Nat.lt_of_lt_of_le hi h.size) h1 h2).trans (h.others i hi h1 h2),Nat.le_trans h.size k.size⟩
theorem Two2.grownC{w w':World}{C m:Nat}(h:w.grownBy w' (some C)):Two2 w w' C m:=
 ⟨fun n h1 _ hn=>zaU (Below.refl _ _) h h1 hn,fun k hk h1 _=>h.block k hk (fun e=>h1 MdO),h.size⟩
theorem Two2.grownM{w w':World}{C m:Nat}(h:w.grownBy w' (some m)):Two2 w w' C m:=
 ⟨fun n _ h1 hn=>zaU (Below.refl _ _) h h1 hn,fun k hk _ h1=>h.block k hk (fun e=>h1 MdO),h.size⟩
def zl8(w:World)(C m:Nat)(x:Parts×Bool)(e:Ending)(w':World):Prop:=e=.returned (.tuple #[])/\HasAt w' m x.1/\MarkAt w' C x.2/\Two2 w w' C m
theorem zdh{P:Program}{ops:Array Oper}{o:Oper}{a:Act}{w:World}{K:Act->World->Prop}{Q:Exit->Act->World->Prop}{E:Prop}{T:TypeId}(bG:o.guard=none)(x i u:Operand)(ho:o.op=.mapUpdate T x i u)(vx vi vu:Value)(hx:a.eval x=vx)(hi:a.eval i=vi)(hu:a.eval u=vu)(w':World)
 (hrun:(Instr.mapUpdate T vx vi vu).run P w=.ok () w')(h:K (a.put o.dst undef) w'):if Region.wanted o (yielded ops a.tmps)=true then Oper.wp P o a w K Q else E:=by
 exact M9
theorem zg1(b h C m:Nat)(law:Law)(who n:ByteArray)(f:Rat)(out:Parts)(fl:Bool)(w:World)(hH:HeirAt w h b law who C m)(hM:MarkAt w C fl)(hS:HasAt w m out)(nL:h≠C)(pR:h≠m)(tV:C≠m)(hg:GoodParts out)(hs:zaJ (zaf out n))(hf:zaJ f):
 Calls Tryz.prog 175 #[.pointer (some ⟨h,0,none⟩),.string n,.agg #[.int .i64 f.num,.int .i64 f.den]] w (zl8 w C m (zcW n f (out,fl))):=by
 have hh:=zab hH;have wh:=zab hM;have fJ:=hS.lt;obtain⟨mm,ct,cZ,iw⟩:=hS;unfold HeirAt at hH;obtain⟨-,-,-,-,-,-,e6,e7⟩:=cF8 hH;obtain⟨HG,vm,kN,HM,tK⟩:=yH5 hg iw cZ hM ct;have pS:h≠w.heap.size:=Mcu;have KE:h≠w.heap.size+1:=Mcu;generalize kC:zaf out n=sv at*;have gz:=zHi kC;have cX:∀o,(Instr.lookup 213 (.map (some m)) (.string n) true).run Tryz.prog (w.alloc o)=.ok (.tuple #[(mget eqS n mm).getD (.agg #[.int .i64 0,.int .i64 0]),.bool (mget eqS n mm).isSome]) (w.alloc o):=fun o=>zki mapSF (ct.below (n:=w.heap.size) (zac (Below.refl _ _) o)).at n
 have eU:=iw n;rw[kC]at eU;have h0:(sv=0/\mget eqS n mm=none)\/mget eqS n mm=some (zaA sv):=by
  rcases eU with⟨a,b⟩|a
  ·exact .inl ⟨b,a⟩
  ·exact .inr a
 clear hH hM ct cZ iw hg kC eU;go_enter Tryz.func175,Tryz.ntmps175
 rcases h0 with⟨rfl,h0⟩|h0
 ·rw[h0]at cX;simp only[Option.getD_none,Option.isSome_none]at cX;clear h0;go_upto_region 4 with fail
  refine wp_region_held_drew (S:=(fun w'=>w'.cell? ⟨h,6,none⟩=some (.pointer (some ⟨C,0,none⟩))/\w'.cell? ⟨h,7,none⟩=some (.map (some m))/\w'.cell? ⟨w.heap.size,0,none⟩=some (.int .i64 f.num)/\w'.cell? ⟨w.heap.size,1,none⟩=some (.int .i64 f.den)/\w'.cell? ⟨w.heap.size+1,0,none⟩=some (.int .i64 (0))/\w'.cell? ⟨w.heap.size+1,1,none⟩=some (.int .i64 (1)))) Mcv ?hS ?hrest
  case hS=>((try dsimp only);refine⟨?_,?_,?_,?_,?_,?_⟩<;>(simp[go_sem,e6,e7,hh];done))
  case hrest=>
   intro hHeld;refine TkH 0 ?_;refine TkH 1 ?_;refine TkH 2 ?_;refine TkH 3 ?_;refine TkH 4 ?_;refine TkH 5 ?_;refine TkH 6 ?_;refine TkH 7 ?_;refine TkH 8 ?_;refine TkH 9 ?_;refine TkH 10 ?_;refine OnH 11 fun K hK=>?_
   go_simp
   refine(zhM C fl _ ?q1 (0) f hs hf).mono ?_
   case q1=>(repeat(first|exact HM.o|refine MarkAt.drew ?_|refine MarkAt.alloc ?_ _))
   rintro e w5 ⟨rfl,n1,n2⟩;have dY:=n2.size;have p6:w5.cell? ⟨h,6,none⟩=some (.pointer (some ⟨C,0,none⟩)):=(zbd n2 Mcz nL).trans Mew;have p7:w5.cell? ⟨h,7,none⟩=some (.map (some m)):=(zbd n2 Mcz nL).trans (by simp[go_sem,e7,hh]);have p0:w5.cell? ⟨w.heap.size,0,none⟩=some (.int .i64 f.num):=(zbd n2 Mcz Mcu).trans Mc0;have p1:w5.cell? ⟨w.heap.size,1,none⟩=some (.int .i64 f.den):=(zbd n2 Mcz Mcu).trans Mc0;have p2:w5.cell? ⟨w.heap.size+1,0,none⟩=some (.int .i64 (0)):=(zbd n2 Mcx Mcu).trans Mc0;have p3:w5.cell? ⟨w.heap.size+1,1,none⟩=some (.int .i64 (1)):=(zbd n2 Mcx Mcu).trans Mc0;have y9:MapS w5 m ekS (fun v:Value=>v) mm:=(tK.o.below (n:=w.heap.size) Bw).grown n2 (by simpa using fun e=>tV e.symm);obtain⟨nY,N1,N2⟩:=yH3 y9 n1 n2;clear n1 n2 y9;simp only[zaA];refine hK.out _ _ ?_ (fun hHeld=>?_);focus((try dsimp only);refine⟨?_,?_,?_,?_,?_,?_⟩<;>assumption)
   clear hK K;try simp only[Act.put,List.setIfInBounds_toArray,List.set_cons_zero,List.set_cons_succ]
   refine OnH 12 fun K hK=>?_
   obtain⟨w6,hrun,iN,bF,iD⟩:=zcc mapSF nY.o n (zaA (zbj (0+f)));refine zdh rfl _ _ _ rfl _ _ _ rfl rfl rfl w6 hrun ?_;have sH:w.heap.size+1<w5.heap.size:=MdV;have q6:w6.cell? ⟨h,6,none⟩=some (.pointer (some ⟨C,0,none⟩)):=(zbd bF Mcu pR).trans p6;have q7:w6.cell? ⟨h,7,none⟩=some (.map (some m)):=(zbd bF Mcu pR).trans p7;have q0:w6.cell? ⟨w.heap.size,0,none⟩=some (.int .i64 f.num):=(zbd bF Mcu Mcu).trans p0;have q1:w6.cell? ⟨w.heap.size,1,none⟩=some (.int .i64 f.den):=(zbd bF Mcu Mcu).trans p1;have q2:w6.cell? ⟨w.heap.size+1,0,none⟩=some (.int .i64 (0)):=(zbd bF Mcu Mcu).trans p2;have q3:w6.cell? ⟨w.heap.size+1,1,none⟩=some (.int .i64 (1)):=(zbd bF Mcu Mcu).trans p3;exact MD
 ·rw[h0]at cX;simp only[Option.getD_some,Option.isSome_some,zaA]at cX;clear h0;go_upto_region 4 with fail
  refine wp_region_held_drew (S:=(fun w'=>w'.cell? ⟨h,6,none⟩=some (.pointer (some ⟨C,0,none⟩))/\w'.cell? ⟨h,7,none⟩=some (.map (some m))/\w'.cell? ⟨w.heap.size,0,none⟩=some (.int .i64 f.num)/\w'.cell? ⟨w.heap.size,1,none⟩=some (.int .i64 f.den)/\w'.cell? ⟨w.heap.size+1,0,none⟩=some (.int .i64 (sv.num))/\w'.cell? ⟨w.heap.size+1,1,none⟩=some (.int .i64 (sv.den)))) Mcv ?hS ?hrest
  case hS=>((try dsimp only);refine⟨?_,?_,?_,?_,?_,?_⟩<;>(simp[go_sem,e6,e7,hh];done))
  case hrest=>
   intro hHeld;refine TkH 0 ?_;refine TkH 1 ?_;refine TkH 2 ?_;refine TkH 3 ?_;refine TkH 4 ?_;refine TkH 5 ?_;refine TkH 6 ?_;refine TkH 7 ?_;refine TkH 8 ?_;refine TkH 9 ?_;refine TkH 10 ?_;refine OnH 11 fun K hK=>?_
   go_simp
   refine(zhM C fl _ ?q1 (sv) f hs hf).mono ?_
   case q1=>(repeat(first|exact HM.o|refine MarkAt.drew ?_|refine MarkAt.alloc ?_ _))
   rintro e w5 ⟨rfl,n1,n2⟩;have dY:=n2.size;have p6:w5.cell? ⟨h,6,none⟩=some (.pointer (some ⟨C,0,none⟩)):=(zbd n2 Mcz nL).trans Mew;have p7:w5.cell? ⟨h,7,none⟩=some (.map (some m)):=(zbd n2 Mcz nL).trans (by simp[go_sem,e7,hh]);have p0:w5.cell? ⟨w.heap.size,0,none⟩=some (.int .i64 f.num):=(zbd n2 Mcz Mcu).trans Mc0;have p1:w5.cell? ⟨w.heap.size,1,none⟩=some (.int .i64 f.den):=(zbd n2 Mcz Mcu).trans Mc0;have p2:w5.cell? ⟨w.heap.size+1,0,none⟩=some (.int .i64 (sv.num)):=(zbd n2 Mcx Mcu).trans Mc0;have p3:w5.cell? ⟨w.heap.size+1,1,none⟩=some (.int .i64 (sv.den)):=(zbd n2 Mcx Mcu).trans Mc0;have y9:MapS w5 m ekS (fun v:Value=>v) mm:=(tK.o.below (n:=w.heap.size) Bw).grown n2 (by simpa using fun e=>tV e.symm);obtain⟨nY,N1,N2⟩:=yH3 y9 n1 n2;clear n1 n2 y9;simp only[zaA];refine hK.out _ _ ?_ (fun hHeld=>?_);focus((try dsimp only);refine⟨?_,?_,?_,?_,?_,?_⟩<;>assumption)
   clear hK K;try simp only[Act.put,List.setIfInBounds_toArray,List.set_cons_zero,List.set_cons_succ]
   refine OnH 12 fun K hK=>?_
   obtain⟨w6,hrun,iN,bF,iD⟩:=zcc mapSF nY.o n (zaA (zbj (sv+f)));refine zdh rfl _ _ _ rfl _ _ _ rfl rfl rfl w6 hrun ?_;have sH:w.heap.size+1<w5.heap.size:=MdV;have q6:w6.cell? ⟨h,6,none⟩=some (.pointer (some ⟨C,0,none⟩)):=(zbd bF Mcu pR).trans p6;have q7:w6.cell? ⟨h,7,none⟩=some (.map (some m)):=(zbd bF Mcu pR).trans p7;have q0:w6.cell? ⟨w.heap.size,0,none⟩=some (.int .i64 f.num):=(zbd bF Mcu Mcu).trans p0;have q1:w6.cell? ⟨w.heap.size,1,none⟩=some (.int .i64 f.den):=(zbd bF Mcu Mcu).trans p1;have q2:w6.cell? ⟨w.heap.size+1,0,none⟩=some (.int .i64 (sv.num)):=(zbd bF Mcu Mcu).trans p2;have q3:w6.cell? ⟨w.heap.size+1,1,none⟩=some (.int .i64 (sv.den)):=(zbd bF Mcu Mcu).trans p3;exact MD
abbrev Ln:=ByteArray×Option Addr×Nat×Nat
def lnC(e:Ln):List Value:=[.string e.1,.slice e.2.1 e.2.2.1 e.2.2.2]
theorem zjJ(e:Ln):(lnC e).length=2:=rfl
theorem ln_one(e:Ln):∀u∈lnC e,u.oneCell'=true:=by simp[lnC,Value.oneCell']
theorem elLine:ElTy Tryz.prog 216 229 2 40:=zdA (z:=.agg #[.string ⟨#[]⟩,.slice none 0 0]) Mcv Mcv rfl Mcw
def ItemsN(W:World)(Q:Nat->Prop):Nat->List Ln->List Tree->Prop
 |0,es,l=>es=[]/\l=[]
 |f+1,es,l=>es.length=l.length/\∀(k:Nat) (e:Ln) (t:Tree),es[k]?=some e->l[k]?=some t->(∃n,t=.leaf n/\e=(n,none,0,0))\/
   ∃l' A c es',t=.node l'/\e=(⟨#[]⟩,some A,l'.length,c)/\l'.length<=c/\l'≠[]/\Q A.block/\Ro W 229 lnC (some A) es'/\ItemsN W Q f es' l'
theorem ItemsN.len{W:World}{Q:Nat->Prop}{f:Nat}{es:List Ln}{l:List Tree}(h:ItemsN W Q f es l):es.length=l.length:=by
 cases f with
 |zero=>rw[h.1,h.2];rfl
 |succ f=>exact h.1
theorem ItemsN.turn{W W':World}{Q Q':Nat->Prop}(hb:∀k,k<W.heap.size->Q k->W'.heap[k]?=W.heap[k]?)(hq:∀k,k<W.heap.size->Q k->Q' k):∀ {f:Nat} {es:List Ln} {l:List Tree},ItemsN W Q f es l->ItemsN W' Q' f es l
 |0,_,_,h=>h
 |f+1,es,l,h=>⟨h.1,fun k e t h1 h2=>by
  rcases h.2 k e t h1 h2 with h3|⟨l',A,c,es',h3,h4,h5,h6,hQ,h7,h8⟩
  ·exact .inl h3
  ·have d8:0<es'.length:=by
    rw[h8.len];exact List.length_pos_iff.2 h6
   obtain⟨b,off,cur,fr,hA,sb,hx⟩:=h7 d8;have we:A=⟨b,off,none⟩:=by simpa using hA
   subst we;have ae:b<W.heap.size:=(Array.getElem?_eq_some_iff.1 sb).1
   exact .inr ⟨l',_,c,es',h3,h4,h5,h6,hq b ae hQ,fun _=>⟨b,off,cur,fr,rfl,(hb b ae hQ).trans sb,hx⟩,ItemsN.turn hb hq h8⟩⟩
theorem ItemsN.keep{n:Nat}{W W':World}{Q:Nat->Prop}{f:Nat}{es:List Ln}{l:List Tree}(h:ItemsN W Q f es l)(hB:Below n W W')(hn:W.heap.size<=n:=by first|exact Nat.le_refl _|omega):ItemsN W' Q f es l:=
 h.turn (fun k hk _=>hB.block k (Nat.lt_of_lt_of_le hk hn)) (fun _ _ h=>h)
theorem ItemsN.snoc{W:World}{Q:Nat->Prop}{f:Nat}{es:List Ln}{l:List Tree}{e:Ln}{t:Tree}(h:ItemsN W Q (f+1) es l)(ht:(∃n,t=.leaf n/\e=(n,none,0,0))\/
 ∃l' A c es',t=.node l'/\e=(⟨#[]⟩,some A,l'.length,c)/\l'.length<=c/\l'≠[]/\Q A.block/\Ro W 229 lnC (some A) es'/\ItemsN W Q f es' l'):ItemsN W Q (f+1) (es++[e]) (l++[t]):=by
 refine⟨by simp[h.1],fun k x y h1 h2=>?_⟩;by_cases hk:k<es.length
 ·rw[List.getElem?_append_left hk]at h1;rw[List.getElem?_append_left (by rw[<-h.1];exact hk)]at h2;exact h.2 k x y h1 h2
 ·have fX:k=es.length:=by have:=(List.getElem?_eq_some_iff.1 h1).1;simp at this;omega
  subst fX;rw[List.getElem?_append_right (Nat.le_refl _)]at h1;rw[h.1,List.getElem?_append_right (Nat.le_refl _)]at h2;simp at h1 h2;subst h1 h2;exact ht
def Deep(s:St):Nat->ByteArray->Prop
 |0,_=>False
 |f+1,n=>∀c∈zai s n,Deep s f c
def zcY(s:St)(stems:Bool)(frm:ByteArray)(f:Nat)(c:ByteArray):Option Tree:=
 if zed s c frm then some (.leaf c)else if stems&&!(zb7 s stems frm f c).isEmpty then some (.node (zb7 s stems frm f c))else none
theorem zf6(s:St)(stems:Bool)(frm:ByteArray)(f:Nat)(n:ByteArray):zb7 s stems frm (f+1) n=(zai s n).filterMap (zcY s stems frm f):=rfl
theorem zjv{α β:Type}(g:α->Option β)(l:List α){k:Nat}(h:k<l.length):(l.take (k+1)).filterMap g=(l.take k).filterMap g++(g l[k]).toList:=by
 rw[List.take_succ_eq_append_getElem h,List.filterMap_append];cases hg:g l[k]<;>simp[List.filterMap,hg]
def LinesPost(w:World)(f:Nat)(l:List Tree)(e:Ending)(w':World):Prop:=
 ∃v es,e=.returned v/\OwnS w' w.heap.size 229 2 lnC v es/\ItemsN w' (fun k=>w.heap.size<=k) f es l/\Below w.heap.size w w'/\es.length<=1000
theorem sl_ln{w:World}{b:Nat}{e:Ln}{t:TypeId}{fr:Nat×Nat}(h:w.heap[b]?=some (.cells #[.string e.1,.slice e.2.1 e.2.2.1 e.2.2.2] t fr)):Sl w 2 lnC (some ⟨b,0,none⟩) [e]:=fun _=>⟨b,0,rfl,zab h,fun k y hy j u hu=>by
 have hk:k=0:=McH;subst hk;simp only[List.getElem?_cons_zero,Option.some.injEq]at hy;subst hy;match j,hu with
 |0,hu=>simp[lnC]at hu;simp[World.cell?,h,<-hu]
 |1,hu=>simp[lnC]at hu;simp[World.cell?,h,<-hu]
 |j+2,hu=>simp[lnC]at hu⟩
theorem HeirAt.keep{n h b C m:Nat}{W W':World}{law:Law}{who:ByteArray}(hh:HeirAt W h b law who C m)(hB:Below n W W')(hn:W.heap.size<=n:=by first|exact Nat.le_refl _|omega):HeirAt W' h b law who C m:=
 (hB.block h (Nat.lt_of_lt_of_le (zab hh) hn)).trans hh
theorem zl9(base b h C m:Nat)(s:St)(law:Law)(who:ByteArray)(jq:∀c∈s.children,noB c.2=false)(hl:s.children.length<=1000):∀(f:Nat) (n:ByteArray) (w:World),PeoAt base w b s->HeirAt w h b law who C m->Deep s f n->
 Calls Tryz.prog 176 #[.pointer (some ⟨h,0,none⟩),.string n] w (LinesPost w f (zb7 s law.stems who f n))
 |0,n,w,_,_,hd=>hd.elim
 |f+1,n,w,hW,hH,hd=>by
  obtain⟨IH,HW,HH⟩:=yH3 (fun(c:ByteArray) (W:World) (hc:c∈zai s n) (h1:PeoAt base W b s) (h2:HeirAt W h b law who C m)=>zl9 base b h C m s law who jq hl f c W h1 h2 (hd c hc)) hW hH;obtain⟨B,d,c,p,wl,r,mv,tv,la,co,h1,h2⟩:=hW;have hb:=zab h1;have hh:=zab hH;unfold WldC at h1;unfold HeirAt at hH;obtain⟨-,c1⟩:=cF2 h1;obtain⟨e0,-,e2⟩:=cF3 hH;obtain⟨KA,kc,cX,fu,fR⟩:=zi2 h2 n;have xS:=cX w (Below.refl _ _);rw[zf6];have bX:(zai s n).length<=1000:=by
   exact Mbf
  obtain⟨IG,fg⟩:=yH2 (fun c (hc:c∈zai s n)=>jq (n,c) (zdx.1 hc)) fR;generalize fE:zai s n=ks at*;clear h1 h2 hH cX fR hd fE;go_enter Tryz.func176,Tryz.ntmps176
  go_wp2_with fail
  go_loopw [5,19] (fun v i wr=>∃(k:Nat) (es:List Ln),k<=ks.length/\i=.int .i64 k/\OwnS wr w.heap.size 229 2 lnC v es/\Hid (ItemsN wr (fun j=>w.heap.size<=j/\za5 v≠some j) (f+1) es ((ks.take k).filterMap (zcY s law.stems who f)))/\Below w.heap.size w wr/\es.length<=k) (fun _ i _=>ks.length-(intOf i).toNat)
  case atStart=>exact⟨0,[],Nat.zero_le _,rfl,OwnS.nil,⟨rfl,fun k e t h1=>by simp at h1⟩,Below.refl _ _,Nat.le_refl _⟩
  case round=>
   obtain⟨k,es,hk,rfl,aa,HI,hB,hel⟩:=hrel;obtain⟨VA,vc,rfl,fU,jx⟩:=aa.sl zjJ;clear fU;have HO:=zHi aa;by_cases ae:k<ks.length
   ·obtain⟨b',off,rfl,cK,hc⟩:=(fg.o.keep hB).at ae;have oG:=zjv (zcY s law.stems who f) ks ae;have bH:ks[k]∈ks:=List.getElem_mem ae;have fZ:=IG.o ks[k] bH;have bJ:=fun W=>IH.o ks[k] W bH
    generalize ks[k]=ch at*;have i0:wr.cell? ⟨b',off+k,none⟩=some (.string ch):=Mdo;obtain⟨HF,HC⟩:=yH2 oG bJ;have cJ:zcY s law.stems who f ch=if ziF s ch who then some (.leaf ch)else if law.stems&&!(zb7 s law.stems who f ch).isEmpty then some (.node (zb7 s law.stems who f ch))else none:=by
     unfold zcY;rw[able_q,fZ];simp
    have fx:=zHi cJ;have ar:(k:Int)<(ks.length:Int):=Mcu;have aT:(0:Int)<=(k:Int):=Mcu;have KQ:(k:Int)<=(kc:Int):=Mcu;have E2:wr.cell? ⟨h,2,none⟩=some (.bool law.stems):=(zah hB hh).trans e2;have KF:h<wr.heap.size:=Nat.lt_of_lt_of_le hh hB.size;obtain⟨EM,Es,kG⟩:=yH3 (HW.o.keep (n:=w.heap.size) hB) (HH.o.keep (n:=w.heap.size) hB) hB;clear hc oG bH fZ bJ cJ aa;have uJ:=zHi (fun W (pJ:Below wr.heap.size wr W)=>zk2 base b h C m s law who ch W (EM.o.keep pJ) (Es.o.keep pJ));generalize ziF s ch who=ab at*;have aI:=hB.size;have eL:=zHi hel;clear hB hel;cases ab
    ·go_upto_region 8 with(first
      |(go_at_call 174;refine(uJ.o _ Bw).mono ?_;rintro e wq ⟨rfl,z,rfl⟩)
      |(go_at_call 176
        refine(HC.o _ (EM.o.keep (n:=wr.heap.size) Bw) (Es.o.keep (n:=wr.heap.size) Bw)).mono ?_;rintro e wq ⟨v2,es2,rfl,o1,o2,o3,o4⟩
        obtain⟨A2,c2,rfl,_,cD⟩:=o1.sl zjJ))
     have E2q:wq.cell? ⟨h,2,none⟩=some (.bool law.stems):=(zah o3 McD).trans ((za4 _ _ _ _ KF).trans E2);have jz:=o3.size;simp only[zag]at jz;have hhq:h<wq.heap.size:=Mcu;obtain⟨O2L,O1,O2,O3⟩:=yH4 o2.len o1 o2 o3;have kW:Hid (Below wr.heap.size wr wq):=(zao wr z).trans (o3.mono Mdk);clear o1 o2 o3;have ly:=fx.o;simp only[Bool.false_eq_true,if_false]at ly;generalize ao:law.stems=st at*;by_cases hcond:st=true/\es2.length≠0
     ·obtain⟨rfl,ai⟩:=hcond;have oS:(zb7 s true who f ch).isEmpty=false:=by
       cases ht:zb7 s true who f ch with
       |nil=>have:=O2L.o;rw[ht]at this;simp at this;rw[this]at ai;simp at ai
       |cons x l=>rfl
      have mK:zcY s true who f ch=some (.node (zb7 s true who f ch)):=by rw[ly,oS];rfl
      have m9:∃ad,A2=some ad/\w.heap.size<=ad.block/\wr.heap.size<=ad.block/\ad.block<wq.heap.size:=by
       rcases O1.o with⟨e,h0⟩|⟨g,o,cap,cur,e,hg,iL,_⟩
       ·rw[h0]at ai;simp at ai
       ·simp only[Value.slice.injEq]at e;refine⟨⟨g,o,none⟩,e.1,?_,?_,zab iL⟩
        ·simp[zag]at hg;show _<=g;omega
        ·simp[zag]at hg;show _<=g;omega
      obtain⟨ad,rfl,CN,CO,CP⟩:=m9;have eE:(0:Int)<(es2.length:Int):=Mcu;obtain⟨Bm,Bz⟩:=yH2 mK oS;clear oS mK ly
      go_wp2_with (at_builtin
                   go_loud(refine zat (v:=.slice VA es.length vc) (n:=es.length) (m:=1) rfl _ _ rfl elLine zjJ ln_one rfl (HO.o.keep (n:=wr.heap.size) (zac kW.o _)) rfl rfl rfl (sl_ln (e:=(⟨#[]⟩,some ad,es2.length,c2)) (zaq _ _ _ rfl)) (by have:=eL.o;simp[maxLen];omega) (by have:=eL.o;omega) Mcz ?_)
                   intro v3 w3 h1 h2 h3)
      have wv:ItemsN w3 (fun j=>w.heap.size<=j/\za5 v3≠some j) (f+1) es ((ks.take k).filterMap (zcY s true who f)):=by
       refine ItemsN.turn ?_ ?_ ((HI.o.keep (n:=wr.heap.size) kW.o).keep (n:=wq.heap.size) (zac (Below.refl _ _) (.cells #[.string ⟨#[]⟩,.slice (some ad) es2.length c2] 229)))
       ·exact fun j hj hQ=>h2.block j hj (fun e=>hQ.2 e.symm)
       ·exact Mbg
      have nQ:∀j,wr.heap.size<=j->za5 (.slice VA es.length vc)≠some j:=fun j hj e=>by have:=(HO.o.ge j e).2;omega
      have dH:∀j,wr.heap.size<=j->j<wq.heap.size->za5 v3≠some j:=fun j hj Gi e=>by
       rcases h3 j e with h|h
       ·exact nQ j hj h
       ·simp at h;omega
      have oX:Ro w3 229 lnC (some ad) es2:=by
       intro pW;obtain⟨b2,off2,cur2,fr2,rm,cj,eJ⟩:=O1.o.ro' pW;have bs:ad.block=b2:=by simp only[Option.some.injEq]at rm;rw[rm]
       have CR:=(Array.getElem?_eq_some_iff.1 cj).1;refine⟨b2,off2,cur2,fr2,rm,?_,eJ⟩;rw[h2.block b2 Mcz (fun e=>nQ b2 Mcu e.symm)];exact(Below.heap_alloc wq _ b2 CR).trans cj
      have Fp:ItemsN w3 (fun j=>w.heap.size<=j/\za5 v3≠some j) f es2 (zb7 s true who f ch):=by
       refine ItemsN.turn ?_ ?_ (O2.o.keep (n:=wq.heap.size) (zac (Below.refl _ _) (.cells #[.string ⟨#[]⟩,.slice (some ad) es2.length c2] 229)))
       ·exact fun j hj hQ=>h2.block j hj (fun e=>nQ j (by simp[zag]at hQ;omega) e.symm)
       ·exact fun j hj hQ=>⟨by simp[zag]at hQ;omega,fun e=>(h3 j e).elim (nQ j (by simp[zag]at hQ;omega)) (fun h=>by simp at h hj;omega)⟩
      have ww:=wv.snoc (e:=(⟨#[]⟩,some ad,es2.length,c2)) (t:=.node (zb7 s true who f ch)) (.inr ⟨_,ad,c2,es2,rfl,by rw[O2L.o],by rw[<-O2L.o];exact cD,(by intro e;have:=Bz.o;rw[e]at this;cases this),⟨CN,dH _ CO CP⟩,oX,Fp⟩);have cV:Below w.heap.size w w3:=Below.grown (a:=w) (B:=w.heap.size) (zac (kG.o.trans (kW.o.mono Mcu)) (.cells #[.string ⟨#[]⟩,.slice (some ad) es2.length c2] 229)) h2 Mcz (fun j hj=>(HO.o.ge j hj).1);have mf:=HF.o;rw[Bm.o]at mf;obtain⟨nr,kJ,aH,H1⟩:=yH4 mf ww cV h1;clear wv ww Fp cV oX nQ dH mf h1 h2 h3;go_wp2_with fail
      go_round
      case rel=>exact⟨k+1,es++[(⟨#[]⟩,some ad,es2.length,c2)],by omega,by go_num,H1.o,by rw[ao,nr.o];exact kJ.o,aH.o,by have:=eL.o;simp;omega⟩
      case measure=>simp[intOf];omega
     ·have mK:zcY s st who f ch=none:=by
       rw[ly];cases aY:st
       ·rfl
       ·have sm:es2.length=0:=Classical.byContradiction fun h=>hcond ⟨aY,h⟩
        have uz:zb7 s true who f ch=[]:=List.eq_nil_of_length_eq_zero (by have:=O2L.o;rw[aY]at this;omega);rw[uz];rfl
      have mf:=HF.o;rw[mK]at mf;obtain⟨nr,jA⟩:=yH2 mf hcond;have cV:Below w.heap.size w wq:=kG.o.trans (kW.o.mono Mcu);obtain⟨aH,nw,Il⟩:=yH3 cV (HO.o.keep (n:=wr.heap.size) kW.o) (HI.o.keep (n:=wr.heap.size) kW.o);clear mK mf cV ly;by_cases eE:(0:Int)<(es2.length:Int)
      ·have oY:st=false:=by
        cases aY:st
        ·rfl
        ·exact absurd ⟨aY,by omega⟩ jA.o
       clear hcond;subst oY;exact MU
      ·clear hcond;cases st
       ·exact MU
       ·exact MU
    ·go_wp2_with (first
      |(go_at_call 174;refine(uJ.o _ Bw).mono ?_;rintro e wq ⟨rfl,z,rfl⟩)
      |(at_builtin;go_loud(refine zat (v:=.slice VA es.length vc) (n:=es.length) (m:=1) rfl _ _ rfl elLine zjJ ln_one rfl (HO.o.keep (n:=wr.heap.size) Bw) rfl rfl rfl (sl_ln (e:=(ch,none,0,0)) (zaq _ _ _ Mdk)) (by have:=eL.o;simp[maxLen];omega) (by have:=eL.o;omega) McD ?_);intro v3 w3 h1 h2 h3))
     have wv:ItemsN w3 (fun j=>w.heap.size<=j/\za5 v3≠some j) (f+1) es ((ks.take k).filterMap (zcY s law.stems who f)):=by
      refine ItemsN.turn ?_ ?_ ((HI.o.keep (n:=wr.heap.size) (zao wr z)).keep (n:=(wr.ext z).heap.size) (zac (Below.refl _ _) (.cells #[.string ch,.slice none 0 0] 229)))
      ·exact fun j hj hQ=>h2.block j hj (fun e=>hQ.2 e.symm)
      ·exact Mbg
     have ww:=wv.snoc (e:=(ch,none,0,0)) (t:=.leaf ch) (.inl ⟨ch,rfl,rfl⟩);have cV:Below w.heap.size w w3:=Below.grown (a:=w) (B:=w.heap.size) (zac (zbg kG.o z) (.cells #[.string ch,.slice none 0 0] 229)) h2 McD (fun j hj=>(HO.o.ge j hj).1);have tU:zcY s law.stems who f ch=some (.leaf ch):=by rw[fx.o];rfl
     have mf:=HF.o;rw[tU]at mf;obtain⟨nr,kJ,aH,H1⟩:=yH4 mf ww cV h1;clear wv ww cV tU mf h1 h2 h3;go_wp2_with fail
     go_round
     case rel=>exact⟨k+1,es++[(ch,none,0,0)],by omega,by go_num,H1.o,by rw[nr.o];exact kJ.o,aH.o,by have:=eL.o;simp;omega⟩
     case measure=>simp[intOf];omega
   ·rw[List.take_of_length_le Mcu]at HI;have ar:¬(k:Int)<(ks.length:Int):=Mcu;go_wp2_with fail
    go_ret
    exact⟨_,es,rfl,HO.o,HI.o.turn (fun _ _ _=>rfl) (fun _ _ h=>h.1),hB,by omega⟩
