import Derived.Test.YtogklihlgindkaaGreatDoorJO
import Derived.Test.YtogklihlgindkaaGreatDoorE4
set_option linter.all false
set_option maxRecDepth 100000
set_option maxHeartbeats 4000000
namespace Go.Proofs.YtogklihlgindkaaGreatDoor
open Go.RowKit Go.Shelf
attribute [local go_sem] World.cell?_alloc_mark zaf za3 zam za6 zat zau zav zaw zax zay zaz
attribute [local go_sem] zao zac
def HeirAt(W:World)(h b:Nat)(law:Law)(who:ByteArray)(C m:Nat):Prop:=
 W.heap[h]?=some (.cells #[.pointer (some ⟨b,0,none⟩),.int .i64 law.frm,.bool law.stems,.int .i64 law.num,.int .i64 law.den,.string who,.pointer (some ⟨C,0,none⟩),.map (some m)] 199)
def ziL(s:St)(n frm:ByteArray):Bool:=!zae n frm&&!zaN s n&&!s.renounce.any (λr=>zae r.1 n&&zae r.2 frm)
def able_q(s:St)(n frm:ByteArray):zdY s n frm=(!noB n&&ziL s n frm):=by
 unfold zdY ziL;simp only[Bool.and_assoc]
def zkB(base b h C m:Nat)(s:St)(law:Law)(who n:ByteArray)(w:World)(hW:PeoAt base w b s)(hH:HeirAt w h b law who C m):
 Calls Tryz.prog 146 #[.pointer (some ⟨h,0,none⟩),.string n] w (Ret w (.bool (ziL s n who))):=by
 obtain⟨B,d,c,p,wl,r,mv,tv,la,co,h1,h2⟩:=hW;have hb:=zab h1;have hh:=zab hH;unfold WldC at h1;unfold HeirAt at hH;obtain⟨c0,-,-,-,-,c5⟩:=cF6 h1;obtain⟨e0,-,-,-,-,e5⟩:=cF6 hH;have dO:∀q',(Instr.lookup 66 (.map (some d)) (.string n) false).run Tryz.prog (w.drewN q')=.ok (.bool (zaN s n)) (w.drewN q'):=λq'=>zd0 (h2.drewN q') _
 have dE:∀q',(Instr.lookup 70 (.map (some r)) (.agg #[.string n,.string who]) false).run Tryz.prog (w.drewN q')=.ok (.bool (s.renounce.any λx=>zae x.1 n&&zae x.2 who)) (w.drewN q'):=λq'=>zoo (h2.drewN q') _ _
 have hU:ziL s n who=(!zae n who&&!zaN s n&&!(s.renounce.any λx=>zae x.1 n&&zae x.2 who)):=rfl;have HU:=zHi hU;clear hU;generalize ziL s n who=R at*;generalize zaN s n=dd at*;generalize(s.renounce.any λx=>zae x.1 n&&zae x.2 who)=rr at*;have dJ:zae n who=(n.toList==who.toList):=rfl;rw[dJ]at HU;clear h1 h2 hH dJ;go_enter Tryz.func146,Tryz.ntmps146
 cases hn:(n.toList==who.toList)
 ·have eh:(n.toList != who.toList)=true:=by rw[bne,hn];rfl
  rw[hn]at HU;cases dd
  ·exact MaE
  ·exact MaE
 ·have eh:(n.toList != who.toList)=false:=by rw[bne,hn];rfl
  rw[hn]at HU;exact MaE
def HasAt(W:World)(m:Nat)(out:Parts):Prop:=
 ∃mm:List (ByteArray×Value),MapS W m ekS (λv:Value=>v) mm/\(mm.map (·.1)).Nodup/\∀n,(mget eqS n mm=none/\zah out n=0)\/mget eqS n mm=some (zaA (zah out n))
variable{n m:Nat}{W W':World}{out:Parts}
def HasAt.keep(h:HasAt W m out)(hB:Below n W W')(hn:W.heap.size<=n:=by first|exact Qc|omega):HasAt W' m out:=by
 obtain⟨mm,h1,h2,h3⟩:=h;exact⟨mm,h1.below hB hn,h2,h3⟩
def HasAt.block(h:HasAt W m out)(hb:W'.heap[m]?=W.heap[m]?):HasAt W' m out:=by
 obtain⟨mm,h1,h2,h3⟩:=h;exact⟨mm,h1.keep hb,h2,h3⟩
def HasAt.lt(h:HasAt W m out):m<W.heap.size:=by
 obtain⟨mm,h1,h2,h3⟩:=h;exact h1.at.lt
structure Two2 (w w':World) (C m:Nat):Prop where
 below:∀n,n<=C->n<=m->n<=w.heap.size->Below n w w'
 others:∀k,k<w.heap.size->k≠C->k≠m->w'.heap[k]?=w.heap[k]?
 size:w.heap.size<=w'.heap.size
variable{w w':World}{C:Nat}
def Two2.of_below(h:Qa w w'):Two2 w w' C m:=⟨λn _ _ hn=>h.mono hn,λk hk _ _=>h.block k hk,h.size⟩
def Two2.trans{a b c:World}(h:Two2 a b C m)(k:Two2 b c C m):Two2 a c C m:=
 ⟨λn h1 h2 h3=>(h.below n h1 h2 h3).trans (k.below n h1 h2 (Nat.le_trans h3 h.size)),λi hi h1 h2=>(k.others i (Nat.lt_of_lt_of_le hi h.size) h1 h2).trans (h.others i hi h1 h2),Nat.le_trans h.size k.size⟩
def Two2.grownC(h:w.grownBy w' (some C)):Two2 w w' C m:=
 ⟨λn h1 _ hn=>zaV Qb h h1 hn,λk hk h1 _=>h.block k hk (λe=>h1 Mee),h.size⟩
def Two2.grownM(h:w.grownBy w' (some m)):Two2 w w' C m:=
 ⟨λn _ h1 hn=>zaV Qb h h1 hn,λk hk _ h1=>h.block k hk (λe=>h1 Mee),h.size⟩
def zlH(w:World)(C m:Nat)(x:Parts×Bool)(e:Ending)(w':World):Prop:=e=.returned (.tuple #[])/\HasAt w' m x.1/\MarkAt w' C x.2/\Two2 w w' C m
def zde{P:Program}{ops:Array Oper}{o:Oper}{a:Act}{K:Act->World->Prop}{Q:Exit->Act->World->Prop}{E:Prop}{T:TypeId}(bB:o.guard=none)(x i u:Operand)(ho:o.op=.mapUpdate T x i u)(vx vi vu:Value)(hx:a.eval x=vx)(hi:a.eval i=vi)(hu:a.eval u=vu)(w':World)
 (hrun:(Instr.mapUpdate T vx vi vu).run P w=.ok () w')(h:K (a.put o.dst undef) w'):if Region.wanted o (yielded ops a.tmps)=true then Oper.wp P o a w K Q else E:=by
 exact Mai
def zg1(b h C m:Nat)(law:Law)(who n:ByteArray)(f:Rat)(out:Parts)(fl:Bool)(w:World)(hH:HeirAt w h b law who C m)(hM:MarkAt w C fl)(hS:HasAt w m out)(oe:h≠C)(ql:h≠m)(uh:C≠m)(hg:GoodParts out)(hs:zaJ (zah out n))(hf:zaJ f):
 Calls Tryz.prog 147 #[.pointer (some ⟨h,0,none⟩),.string n,.agg #[.int .i64 f.num,.int .i64 f.den]] w (zlH w C m (zcT n f (out,fl))):=by
 have hh:=zab hH;have wv:=zab hM;have gn:=hS.lt;obtain⟨mm,dj,cY,iP⟩:=hS;unfold HeirAt at hH;obtain⟨-,-,-,-,-,-,e6,e7⟩:=cF8 hH;obtain⟨HG,vv,li,HM,zY⟩:=yH5 hg iP cY hM dj;have AU:h≠w.heap.size:=McS;have Lc:h≠w.heap.size+1:=McS;generalize ou:zah out n=sv at*;have gT:=zHi ou;have fN:∀o,(Instr.lookup 197 (.map (some m)) (.string n) true).run Tryz.prog (w.alloc o)=.ok (.tuple #[(mget eqS n mm).getD (.agg #[.int .i64 0,.int .i64 0]),.bool (mget eqS n mm).isSome]) (w.alloc o):=λo=>zkp mapSF (dj.below (n:=w.heap.size) (zad Qb o)).at n
 have fq:=iP n;rw[ou]at fq;have h0:(sv=0/\mget eqS n mm=none)\/mget eqS n mm=some (zaA sv):=by
  rcases fq with⟨a,b⟩|a
  ·exact .inl ⟨b,a⟩
  ·exact .inr a
 clear hH hM dj cY iP hg ou fq;go_enter Tryz.func147,Tryz.ntmps147
 rcases h0 with⟨rfl,h0⟩|h0
 ·rw[h0]at fN;simp only[Option.getD_none,Option.isSome_none]at fN;clear h0;go_upto_region 4 with fail
  refine wp_region_held_drew (S:=(λw'=>w'.cell? ⟨h,6,none⟩=some (.pointer (some ⟨C,0,none⟩))/\w'.cell? ⟨h,7,none⟩=some (.map (some m))/\w'.cell? ⟨w.heap.size,0,none⟩=some (.int .i64 f.num)/\w'.cell? ⟨w.heap.size,1,none⟩=some (.int .i64 f.den)/\w'.cell? ⟨w.heap.size+1,0,none⟩=some (.int .i64 (0))/\w'.cell? ⟨w.heap.size+1,1,none⟩=some (.int .i64 (1)))) McT ?hS ?hrest
  case hS=>((try dsimp only);refine⟨?_,?_,?_,?_,?_,?_⟩<;>(simp[go_sem,e6,e7,hh];done))
  case hrest=>
   intro hHeld;refine TkH 0 ?_;refine TkH 1 ?_;refine TkH 2 ?_;refine TkH 3 ?_;refine TkH 4 ?_;refine TkH 5 ?_;refine TkH 6 ?_;refine TkH 7 ?_;refine TkH 8 ?_;refine TkH 9 ?_;refine TkH 10 ?_;refine OnH 11 λK hK=>?_
   go_simp
   refine(zhS C fl _ ?q1 (0) f hs hf).mono ?_
   case q1=>(repeat(first|exact HM.o|refine MarkAt.drew ?_|refine MarkAt.alloc ?_ _))
   rintro e w5 ⟨rfl,n1,n2⟩;have eh:=n2.size;have p6:w5.cell? ⟨h,6,none⟩=some (.pointer (some ⟨C,0,none⟩)):=(zbd n2 McX oe).trans MeX;have p7:w5.cell? ⟨h,7,none⟩=some (.map (some m)):=(zbd n2 McX oe).trans (by simp[go_sem,e7,hh]);have p0:w5.cell? ⟨w.heap.size,0,none⟩=some (.int .i64 f.num):=(zbd n2 McX McS).trans Mdo;have p1:w5.cell? ⟨w.heap.size,1,none⟩=some (.int .i64 f.den):=(zbd n2 McX McS).trans Mdo;have p2:w5.cell? ⟨w.heap.size+1,0,none⟩=some (.int .i64 (0)):=(zbd n2 McV McS).trans Mdo;have p3:w5.cell? ⟨w.heap.size+1,1,none⟩=some (.int .i64 (1)):=(zbd n2 McV McS).trans Mdo;have yk:MapS w5 m ekS (λv:Value=>v) mm:=(zY.o.below (n:=w.heap.size) Bw).grown n2 (by simpa using λe=>uh e.symm);obtain⟨oH,N1,N2⟩:=yH3 yk n1 n2;clear n1 n2 yk;simp only[zaA];refine hK.out _ _ ?_ (λhHeld=>?_);focus((try dsimp only);refine⟨?_,?_,?_,?_,?_,?_⟩<;>assumption)
   clear hK K;try simp only[Act.put,List.setIfInBounds_toArray,List.set_cons_zero,List.set_cons_succ]
   refine OnH 12 λK hK=>?_
   obtain⟨w6,hrun,jh,bF,ii⟩:=zcv mapSF oH.o n (zaA (zbi (0+f)));refine zde rfl _ _ _ rfl _ _ _ rfl rfl rfl w6 hrun ?_;have sX:w.heap.size+1<w5.heap.size:=Mel;have q6:w6.cell? ⟨h,6,none⟩=some (.pointer (some ⟨C,0,none⟩)):=(zbd bF McS ql).trans p6;have q7:w6.cell? ⟨h,7,none⟩=some (.map (some m)):=(zbd bF McS ql).trans p7;have q0:w6.cell? ⟨w.heap.size,0,none⟩=some (.int .i64 f.num):=(zbd bF McS McS).trans p0;have q1:w6.cell? ⟨w.heap.size,1,none⟩=some (.int .i64 f.den):=(zbd bF McS McS).trans p1;have q2:w6.cell? ⟨w.heap.size+1,0,none⟩=some (.int .i64 (0)):=(zbd bF McS McS).trans p2;have q3:w6.cell? ⟨w.heap.size+1,1,none⟩=some (.int .i64 (1)):=(zbd bF McS McS).trans p3;exact ME
 ·rw[h0]at fN;simp only[Option.getD_some,Option.isSome_some,zaA]at fN;clear h0;go_upto_region 4 with fail
  refine wp_region_held_drew (S:=(λw'=>w'.cell? ⟨h,6,none⟩=some (.pointer (some ⟨C,0,none⟩))/\w'.cell? ⟨h,7,none⟩=some (.map (some m))/\w'.cell? ⟨w.heap.size,0,none⟩=some (.int .i64 f.num)/\w'.cell? ⟨w.heap.size,1,none⟩=some (.int .i64 f.den)/\w'.cell? ⟨w.heap.size+1,0,none⟩=some (.int .i64 (sv.num))/\w'.cell? ⟨w.heap.size+1,1,none⟩=some (.int .i64 (sv.den)))) McT ?hS ?hrest
  case hS=>((try dsimp only);refine⟨?_,?_,?_,?_,?_,?_⟩<;>(simp[go_sem,e6,e7,hh];done))
  case hrest=>
   intro hHeld;refine TkH 0 ?_;refine TkH 1 ?_;refine TkH 2 ?_;refine TkH 3 ?_;refine TkH 4 ?_;refine TkH 5 ?_;refine TkH 6 ?_;refine TkH 7 ?_;refine TkH 8 ?_;refine TkH 9 ?_;refine TkH 10 ?_;refine OnH 11 λK hK=>?_
   go_simp
   refine(zhS C fl _ ?q1 (sv) f hs hf).mono ?_
   case q1=>(repeat(first|exact HM.o|refine MarkAt.drew ?_|refine MarkAt.alloc ?_ _))
   rintro e w5 ⟨rfl,n1,n2⟩;have eh:=n2.size;have p6:w5.cell? ⟨h,6,none⟩=some (.pointer (some ⟨C,0,none⟩)):=(zbd n2 McX oe).trans MeX;have p7:w5.cell? ⟨h,7,none⟩=some (.map (some m)):=(zbd n2 McX oe).trans (by simp[go_sem,e7,hh]);have p0:w5.cell? ⟨w.heap.size,0,none⟩=some (.int .i64 f.num):=(zbd n2 McX McS).trans Mdo;have p1:w5.cell? ⟨w.heap.size,1,none⟩=some (.int .i64 f.den):=(zbd n2 McX McS).trans Mdo;have p2:w5.cell? ⟨w.heap.size+1,0,none⟩=some (.int .i64 (sv.num)):=(zbd n2 McV McS).trans Mdo;have p3:w5.cell? ⟨w.heap.size+1,1,none⟩=some (.int .i64 (sv.den)):=(zbd n2 McV McS).trans Mdo;have yk:MapS w5 m ekS (λv:Value=>v) mm:=(zY.o.below (n:=w.heap.size) Bw).grown n2 (by simpa using λe=>uh e.symm);obtain⟨oH,N1,N2⟩:=yH3 yk n1 n2;clear n1 n2 yk;simp only[zaA];refine hK.out _ _ ?_ (λhHeld=>?_);focus((try dsimp only);refine⟨?_,?_,?_,?_,?_,?_⟩<;>assumption)
   clear hK K;try simp only[Act.put,List.setIfInBounds_toArray,List.set_cons_zero,List.set_cons_succ]
   refine OnH 12 λK hK=>?_
   obtain⟨w6,hrun,jh,bF,ii⟩:=zcv mapSF oH.o n (zaA (zbi (sv+f)));refine zde rfl _ _ _ rfl _ _ _ rfl rfl rfl w6 hrun ?_;have sX:w.heap.size+1<w5.heap.size:=Mel;have q6:w6.cell? ⟨h,6,none⟩=some (.pointer (some ⟨C,0,none⟩)):=(zbd bF McS ql).trans p6;have q7:w6.cell? ⟨h,7,none⟩=some (.map (some m)):=(zbd bF McS ql).trans p7;have q0:w6.cell? ⟨w.heap.size,0,none⟩=some (.int .i64 f.num):=(zbd bF McS McS).trans p0;have q1:w6.cell? ⟨w.heap.size,1,none⟩=some (.int .i64 f.den):=(zbd bF McS McS).trans p1;have q2:w6.cell? ⟨w.heap.size+1,0,none⟩=some (.int .i64 (sv.num)):=(zbd bF McS McS).trans p2;have q3:w6.cell? ⟨w.heap.size+1,1,none⟩=some (.int .i64 (sv.den)):=(zbd bF McS McS).trans p3;exact ME
abbrev Ln:=ByteArray×Option Addr×Nat×Nat
def lnC(e:Ln):List Value:=[.string e.1,.slice e.2.1 e.2.2.1 e.2.2.2]
def zjV(e:Ln):(lnC e).length=2:=rfl
def ln_one(e:Ln):∀u∈lnC e,u.oneCell'=true:=by simp[lnC,Value.oneCell']
def elLine:ElTy Tryz.prog 200 225 2 40:=zdm (z:=.agg #[.string ⟨#[]⟩,.slice none 0 0]) McT McT rfl McU
def ItemsN(W:World)(Q:Nat->Prop):Nat->List Ln->List Tree->Prop
 |0,es,l=>es=[]/\l=[]
 |f+1,es,l=>es.length=l.length/\∀(k:Nat) (e:Ln) (t:Tree),es[k]?=some e->l[k]?=some t->(∃n,t=.leaf n/\e=(n,none,0,0))\/
   ∃l' A c es',t=.node l'/\e=(⟨#[]⟩,some A,l'.length,c)/\l'.length<=c/\l'≠[]/\Q A.block/\Ro W 225 lnC (some A) es'/\ItemsN W Q f es' l'
variable{f:Nat}{es:List Ln}{l:List Tree}
def ItemsN.len{Q:Nat->Prop}(h:ItemsN W Q f es l):es.length=l.length:=by
 cases f with
 |zero=>rw[h.1,h.2];rfl
 |succ f=>exact h.1
def ItemsN.turn{W W':World}{Q Q':Nat->Prop}(hb:∀k,k<W.heap.size->Q k->W'.heap[k]?=W.heap[k]?)(hq:∀k,k<W.heap.size->Q k->Q' k):∀ {f:Nat} {es:List Ln} {l:List Tree},ItemsN W Q f es l->ItemsN W' Q' f es l
 |0,_,_,h=>h
 |f+1,es,l,h=>⟨h.1,λk e t h1 h2=>by
  rcases h.2 k e t h1 h2 with h3|⟨l',A,c,es',h3,h4,h5,h6,hQ,h7,h8⟩
  ·exact .inl h3
  ·have d9:0<es'.length:=by
    rw[h8.len];exact List.length_pos_iff.2 h6
   obtain⟨b,off,cur,fr,hA,jb,hx⟩:=h7 d9;have rP:A=⟨b,off,none⟩:=by simpa using hA
   subst rP;have ae:b<W.heap.size:=(Array.getElem?_eq_some_iff.1 jb).1
   exact .inr ⟨l',_,c,es',h3,h4,h5,h6,hq b ae hQ,λ_=>⟨b,off,cur,fr,rfl,(hb b ae hQ).trans jb,hx⟩,ItemsN.turn hb hq h8⟩⟩
def ItemsN.keep{Q:Nat->Prop}(h:ItemsN W Q f es l)(hB:Below n W W')(hn:W.heap.size<=n:=by first|exact Qc|omega):ItemsN W' Q f es l:=
 h.turn (λk hk _=>hB.block k (Nat.lt_of_lt_of_le hk hn)) (λ_ _ h=>h)
def ItemsN.snoc{W:World}{Q:Nat->Prop}{f:Nat}{es:List Ln}{l:List Tree}{e:Ln}{t:Tree}(h:ItemsN W Q (f+1) es l)(ht:(∃n,t=.leaf n/\e=(n,none,0,0))\/
 ∃l' A c es',t=.node l'/\e=(⟨#[]⟩,some A,l'.length,c)/\l'.length<=c/\l'≠[]/\Q A.block/\Ro W 225 lnC (some A) es'/\ItemsN W Q f es' l'):ItemsN W Q (f+1) (es++[e]) (l++[t]):=by
 refine⟨by simp[h.1],λk x y h1 h2=>?_⟩;by_cases hk:k<es.length
 ·rw[List.getElem?_append_left hk]at h1;rw[List.getElem?_append_left (by rw[<-h.1];exact hk)]at h2;exact h.2 k x y h1 h2
 ·have fY:k=es.length:=by have:=(List.getElem?_eq_some_iff.1 h1).1;simp at this;omega
  subst fY;rw[List.getElem?_append_right Qc]at h1;rw[h.1,List.getElem?_append_right Qc]at h2;simp at h1 h2;subst h1 h2;exact ht
def Deep(s:St):Nat->ByteArray->Prop
 |0,_=>False
 |f+1,n=>∀c∈zaj s n,Deep s f c
def zcV(s:St)(stems:Bool)(frm:ByteArray)(f:Nat)(c:ByteArray):Option Tree:=
 if zdY s c frm then some (.leaf c)else if stems&&!(zb6 s stems frm f c).isEmpty then some (.node (zb6 s stems frm f c))else none
def zf9(s:St)(stems:Bool)(frm:ByteArray)(f:Nat)(n:ByteArray):zb6 s stems frm (f+1) n=(zaj s n).filterMap (zcV s stems frm f):=rfl
def zj2{α β:Type}(g:α->Option β)(l:List α){k:Nat}(h:k<l.length):(l.take (k+1)).filterMap g=(l.take k).filterMap g++(g l[k]).toList:=by
 rw[List.take_succ_eq_append_getElem h,List.filterMap_append];cases hg:g l[k]<;>simp[List.filterMap,hg]
def LinesPost(w:World)(f:Nat)(l:List Tree)(e:Ending)(w':World):Prop:=
 ∃v es,e=.returned v/\OwnS w' w.heap.size 225 2 lnC v es/\ItemsN w' (λk=>w.heap.size<=k) f es l/\Qa w w'/\es.length<=1000
variable{b:Nat}
def sl_ln{e:Ln}{t:TypeId}{fr:Nat×Nat}(h:w.heap[b]?=some (.cells #[.string e.1,.slice e.2.1 e.2.2.1 e.2.2.2] t fr)):Sl w 2 lnC (some ⟨b,0,none⟩) [e]:=λ_=>⟨b,0,rfl,zab h,λk y hy j u hu=>by
 have hk:k=0:=Mc2;subst hk;simp only[List.getElem?_cons_zero,Option.some.injEq]at hy;subst hy;match j,hu with
 |0,hu=>simp[lnC]at hu;simp[World.cell?,h,<-hu]
 |1,hu=>simp[lnC]at hu;simp[World.cell?,h,<-hu]
 |j+2,hu=>simp[lnC]at hu⟩
def HeirAt.keep{h:Nat}{law:Law}{who:ByteArray}(hh:HeirAt W h b law who C m)(hB:Below n W W')(hn:W.heap.size<=n:=by first|exact Qc|omega):HeirAt W' h b law who C m:=
 (hB.block h (Nat.lt_of_lt_of_le (zab hh) hn)).trans hh
def zlI(base b h C m:Nat)(s:St)(law:Law)(who:ByteArray)(jL:∀c∈s.children,noB c.2=false)(hl:s.children.length<=1000):∀(f:Nat) (n:ByteArray) (w:World),PeoAt base w b s->HeirAt w h b law who C m->Deep s f n->
 Calls Tryz.prog 148 #[.pointer (some ⟨h,0,none⟩),.string n] w (LinesPost w f (zb6 s law.stems who f n))
 |0,n,w,_,_,hd=>hd.elim
 |f+1,n,w,hW,hH,hd=>by
  obtain⟨IH,HW,HH⟩:=yH3 (λ(c:ByteArray) (W:World) (hc:c∈zaj s n) (h1:PeoAt base W b s) (h2:HeirAt W h b law who C m)=>zlI base b h C m s law who jL hl f c W h1 h2 (hd c hc)) hW hH;obtain⟨B,d,c,p,wl,r,mv,tv,la,co,h1,h2⟩:=hW;have hb:=zab h1;have hh:=zab hH;unfold WldC at h1;unfold HeirAt at hH;obtain⟨-,c1⟩:=cF2 h1;obtain⟨e0,-,e2⟩:=cF3 hH;obtain⟨KA,kc,fN,fZ,iH⟩:=ziA h2 n;have y9:=fN w Qb;rw[zf9];have cf:(zaj s n).length<=1000:=by
   exact Mby
  obtain⟨Jj,iA⟩:=yH2 (λc (hc:c∈zaj s n)=>jL (n,c) (zdw.1 hc)) iH;generalize je:zaj s n=ks at*;clear h1 h2 hH fN iH hd je;go_enter Tryz.func148,Tryz.ntmps148
  go_wp2_with fail
  go_loopw [5,19] (λv i wr=>∃(k:Nat) (es:List Ln),k<=ks.length/\i=.int .i64 k/\OwnS wr w.heap.size 225 2 lnC v es/\Hid (ItemsN wr (λj=>w.heap.size<=j/\za4 v≠some j) (f+1) es ((ks.take k).filterMap (zcV s law.stems who f)))/\Qa w wr/\es.length<=k) (λ_ i _=>ks.length-(intOf i).toNat)
  case atStart=>exact⟨0,[],Nat.zero_le _,rfl,OwnS.nil,⟨rfl,λk e t h1=>by simp at h1⟩,Qb,Qc⟩
  case round=>
   obtain⟨k,es,hk,rfl,aa,HI,hB,hel⟩:=hrel;obtain⟨VA,vc,rfl,fk,gu⟩:=aa.sl zjV;clear fk;have HO:=zHi aa;by_cases ae:k<ks.length
   ·obtain⟨b',off,rfl,cA,hc⟩:=(iA.o.keep hB).at ae;have p8:=zj2 (zcV s law.stems who f) ks ae;have bm:ks[k]∈ks:=List.getElem_mem ae;have dl:=Jj.o ks[k] bm;have bN:=λW=>IH.o ks[k] W bm
    generalize ks[k]=ch at*;have i0:wr.cell? ⟨b',off+k,none⟩=some (.string ch):=Md1;obtain⟨HF,HC⟩:=yH2 p8 bN;have bL:zcV s law.stems who f ch=if ziL s ch who then some (.leaf ch)else if law.stems&&!(zb6 s law.stems who f ch).isEmpty then some (.node (zb6 s law.stems who f ch))else none:=by
     unfold zcV;rw[able_q,dl];simp
    have fP:=zHi bL;have au:(k:Int)<(ks.length:Int):=McS;have aR:(0:Int)<=(k:Int):=McS;have Lr:(k:Int)<=(kc:Int):=McS;have E2:wr.cell? ⟨h,2,none⟩=some (.bool law.stems):=(zai hB hh).trans e2;have Ld:h<wr.heap.size:=Nat.lt_of_lt_of_le hh hB.size;obtain⟨Fs,Ff,kY⟩:=yH3 (HW.o.keep (n:=w.heap.size) hB) (HH.o.keep (n:=w.heap.size) hB) hB;clear hc p8 bm dl bN bL aa;have uT:=zHi (λW (qb:Qa wr W)=>zkB base b h C m s law who ch W (Fs.o.keep qb) (Ff.o.keep qb));generalize ziL s ch who=ab at*;have aM:=hB.size;have eX:=zHi hel;clear hB hel;cases ab
    ·go_upto_region 8 with(first
      |(go_at_call 146;refine(uT.o _ Bw).mono ?_;rintro e wq ⟨rfl,z,rfl⟩)
      |(go_at_call 148
        refine(HC.o _ (Fs.o.keep (n:=wr.heap.size) Bw) (Ff.o.keep (n:=wr.heap.size) Bw)).mono ?_;rintro e wq ⟨v2,es2,rfl,o1,o2,o3,o4⟩
        obtain⟨A2,c2,rfl,_,cD⟩:=o1.sl zjV))
     have E2q:wq.cell? ⟨h,2,none⟩=some (.bool law.stems):=(zai o3 Mc1).trans ((za3 _ _ _ _ Ld).trans E2);have jV:=o3.size;simp only[zaf]at jV;have hhq:h<wq.heap.size:=McS;obtain⟨O2L,O1,O2,O3⟩:=yH4 o2.len o1 o2 o3;have ug:Hid (Qa wr wq):=(zan wr z).trans (o3.mono Mdu);clear o1 o2 o3;have lY:=fP.o;simp only[Bool.false_eq_true,if_false]at lY;generalize aq:law.stems=st at*;by_cases hcond:st=true/\es2.length≠0
     ·obtain⟨rfl,ai⟩:=hcond;have pA:(zb6 s true who f ch).isEmpty=false:=by
       cases ht:zb6 s true who f ch with
       |nil=>have:=O2L.o;rw[ht]at this;simp at this;rw[this]at ai;simp at ai
       |cons x l=>rfl
      have ic:zcV s true who f ch=some (.node (zb6 s true who f ch)):=by rw[lY,pA];rfl
      have mJ:∃ad,A2=some ad/\w.heap.size<=ad.block/\wr.heap.size<=ad.block/\ad.block<wq.heap.size:=by
       rcases O1.o with⟨e,h0⟩|⟨g,o,cap,cur,e,hg,jd,_⟩
       ·rw[h0]at ai;simp at ai
       ·simp only[Value.slice.injEq]at e;refine⟨⟨g,o,none⟩,e.1,?_,?_,zab jd⟩
        ·simp[zaf]at hg;show _<=g;omega
        ·simp[zaf]at hg;show _<=g;omega
      obtain⟨ad,rfl,Dq,Dr,Dt⟩:=mJ;have eQ:(0:Int)<(es2.length:Int):=McS;obtain⟨rj,C4⟩:=yH2 ic pA;clear pA ic lY
      go_wp2_with (at_builtin
                   go_loud(refine zar (v:=.slice VA es.length vc) (n:=es.length) (m:=1) rfl _ _ rfl elLine zjV ln_one rfl (HO.o.keep (n:=wr.heap.size) (zad ug.o _)) rfl rfl rfl (sl_ln (e:=(⟨#[]⟩,some ad,es2.length,c2)) (zas _ _ _ rfl)) (by have:=eX.o;simp[maxLen];omega) (by have:=eX.o;omega) McX ?_)
                   intro v3 w3 h1 h2 h3)
      have wD:ItemsN w3 (λj=>w.heap.size<=j/\za4 v3≠some j) (f+1) es ((ks.take k).filterMap (zcV s true who f)):=by
       refine ItemsN.turn ?_ ?_ ((HI.o.keep (n:=wr.heap.size) ug.o).keep (n:=wq.heap.size) (zad Qb (.cells #[.string ⟨#[]⟩,.slice (some ad) es2.length c2] 225)))
       ·exact λj hj hQ=>h2.block j hj (λe=>hQ.2 e.symm)
       ·exact Mbz
      have ov:∀j,wr.heap.size<=j->za4 (.slice VA es.length vc)≠some j:=λj hj e=>by have:=(HO.o.ge j e).2;omega
      have dg:∀j,wr.heap.size<=j->j<wq.heap.size->za4 v3≠some j:=λj hj Ho e=>by
       rcases h3 j e with h|h
       ·exact ov j hj h
       ·simp at h;omega
      have pF:Ro w3 225 lnC (some ad) es2:=by
       intro lO;obtain⟨b2,off2,cur2,fr2,rQ,cj,cP⟩:=O1.o.ro' lO;have bM:ad.block=b2:=by simp only[Option.some.injEq]at rQ;rw[rQ]
       have Dv:=(Array.getElem?_eq_some_iff.1 cj).1;refine⟨b2,off2,cur2,fr2,rQ,?_,cP⟩;rw[h2.block b2 McX (λe=>ov b2 McS e.symm)];exact(Below.heap_alloc wq _ b2 Dv).trans cj
      have Gh:ItemsN w3 (λj=>w.heap.size<=j/\za4 v3≠some j) f es2 (zb6 s true who f ch):=by
       refine ItemsN.turn ?_ ?_ (O2.o.keep (n:=wq.heap.size) (zad Qb (.cells #[.string ⟨#[]⟩,.slice (some ad) es2.length c2] 225)))
       ·exact λj hj hQ=>h2.block j hj (λe=>ov j (by simp[zaf]at hQ;omega) e.symm)
       ·exact λj hj hQ=>⟨by simp[zaf]at hQ;omega,λe=>(h3 j e).elim (ov j (by simp[zaf]at hQ;omega)) (λh=>by simp at h hj;omega)⟩
      have wE:=wD.snoc (e:=(⟨#[]⟩,some ad,es2.length,c2)) (t:=.node (zb6 s true who f ch)) (.inr ⟨_,ad,c2,es2,rfl,by rw[O2L.o],by rw[<-O2L.o];exact cD,(by intro e;have:=C4.o;rw[e]at this;cases this),⟨Dq,dg _ Dr Dt⟩,pF,Gh⟩);have fg:Qa w w3:=Below.grown (a:=w) (B:=w.heap.size) (zad (kY.o.trans (ug.o.mono McS)) (.cells #[.string ⟨#[]⟩,.slice (some ad) es2.length c2] 225)) h2 McX (λj hj=>(HO.o.ge j hj).1);have mL:=HF.o;rw[rj.o]at mL;obtain⟨nN,l7,aG,H1⟩:=yH4 mL wE fg h1;clear wD wE Gh fg pF ov dg mL h1 h2 h3;go_wp2_with fail
      go_round
      case rel=>exact⟨k+1,es++[(⟨#[]⟩,some ad,es2.length,c2)],by omega,by go_num,H1.o,by rw[aq,nN.o];exact l7.o,aG.o,by have:=eX.o;simp;omega⟩
      case measure=>simp[intOf];omega
     ·have ic:zcV s st who f ch=none:=by
       rw[lY];cases bi:st
       ·rfl
       ·have sJ:es2.length=0:=Classical.byContradiction λh=>hcond ⟨bi,h⟩
        have uM:zb6 s true who f ch=[]:=List.eq_nil_of_length_eq_zero (by have:=O2L.o;rw[bi]at this;omega);rw[uM];rfl
      have mL:=HF.o;rw[ic]at mL;obtain⟨nN,jW⟩:=yH2 mL hcond;have fg:Qa w wq:=kY.o.trans (ug.o.mono McS);obtain⟨aG,nQ,IZ⟩:=yH3 fg (HO.o.keep (n:=wr.heap.size) ug.o) (HI.o.keep (n:=wr.heap.size) ug.o);clear ic mL fg lY;by_cases eQ:(0:Int)<(es2.length:Int)
      ·have pG:st=false:=by
        cases bi:st
        ·rfl
        ·exact absurd ⟨bi,by omega⟩ jW.o
       clear hcond;subst pG;exact M4
      ·clear hcond;cases st
       ·exact M4
       ·exact M4
    ·go_wp2_with (first
      |(go_at_call 146;refine(uT.o _ Bw).mono ?_;rintro e wq ⟨rfl,z,rfl⟩)
      |(at_builtin;go_loud(refine zar (v:=.slice VA es.length vc) (n:=es.length) (m:=1) rfl _ _ rfl elLine zjV ln_one rfl (HO.o.keep (n:=wr.heap.size) Bw) rfl rfl rfl (sl_ln (e:=(ch,none,0,0)) (zas _ _ _ Mdu)) (by have:=eX.o;simp[maxLen];omega) (by have:=eX.o;omega) Mc1 ?_);intro v3 w3 h1 h2 h3))
     have wD:ItemsN w3 (λj=>w.heap.size<=j/\za4 v3≠some j) (f+1) es ((ks.take k).filterMap (zcV s law.stems who f)):=by
      refine ItemsN.turn ?_ ?_ ((HI.o.keep (n:=wr.heap.size) (zan wr z)).keep (n:=(wr.ext z).heap.size) (zad Qb (.cells #[.string ch,.slice none 0 0] 225)))
      ·exact λj hj hQ=>h2.block j hj (λe=>hQ.2 e.symm)
      ·exact Mbz
     have wE:=wD.snoc (e:=(ch,none,0,0)) (t:=.leaf ch) (.inl ⟨ch,rfl,rfl⟩);have fg:Qa w w3:=Below.grown (a:=w) (B:=w.heap.size) (zad (zb2 kY.o z) (.cells #[.string ch,.slice none 0 0] 225)) h2 Mc1 (λj hj=>(HO.o.ge j hj).1);have uf:zcV s law.stems who f ch=some (.leaf ch):=by rw[fP.o];rfl
     have mL:=HF.o;rw[uf]at mL;obtain⟨nN,l7,aG,H1⟩:=yH4 mL wE fg h1;clear wD wE fg uf mL h1 h2 h3;go_wp2_with fail
     go_round
     case rel=>exact⟨k+1,es++[(ch,none,0,0)],by omega,by go_num,H1.o,by rw[nN.o];exact l7.o,aG.o,by have:=eX.o;simp;omega⟩
     case measure=>simp[intOf];omega
   ·rw[List.take_of_length_le McS]at HI;have au:¬(k:Int)<(ks.length:Int):=McS;go_wp2_with fail
    go_ret
    exact⟨_,es,rfl,HO.o,HI.o.turn (λ_ _ _=>rfl) (λ_ _ h=>h.1),hB,by omega⟩
