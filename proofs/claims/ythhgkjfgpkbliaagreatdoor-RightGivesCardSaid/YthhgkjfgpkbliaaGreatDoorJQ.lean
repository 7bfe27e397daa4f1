import Derived.Test.YthhgkjfgpkbliaaGreatDoorJO
set_option linter.all false
set_option maxRecDepth 100000
set_option maxHeartbeats 4000000
namespace Go.Proofs.YthhgkjfgpkbliaaGreatDoor
open Go.RowKit Go.Shelf
attribute [local go_sem] World.cell?_alloc_mark zae zav zai zaw zam zan zao zap zaq zar zas
attribute [local go_sem] zah zac
def HeirAt(W:World)(h b:Nat)(law:Law)(who:ByteArray)(C m:Nat):Prop:=
 W.heap[h]?=some (.cells #[.pointer (some ⟨b,0,none⟩),.int .i64 law.frm,.bool law.stems,.int .i64 law.num,.int .i64 law.den,.string who,.pointer (some ⟨C,0,none⟩),.map (some m)] 233)
def zhu(s:St)(n frm:ByteArray):Bool:=!zag n frm&&!zaK s n&&!s.renounce.any (fun r=>zag r.1 n&&zag r.2 frm)
theorem able_q(s:St)(n frm:ByteArray):zgl s n frm=(!noB n&&zhu s n frm):=by
 unfold zgl zhu;simp only[Bool.and_assoc]
theorem ziJ(base b h C m:Nat)(s:St)(law:Law)(who n:ByteArray)(w:World)(hW:PeoAt base w b s)(hH:HeirAt w h b law who C m):
 Calls Tryz.prog 203 #[.pointer (some ⟨h,0,none⟩),.string n] w (Ret w (.bool (zhu s n who))):=by
 obtain⟨B,d,c,p,wl,r,mv,tv,la,co,h1,h2⟩:=hW;have hb:=zad h1;have hh:=zad hH;unfold WldC at h1;unfold HeirAt at hH;obtain⟨c0,-,-,-,-,c5⟩:=cF6 h1;obtain⟨e0,-,-,-,-,e5⟩:=cF6 hH;have bS:∀q',(Instr.lookup 103 (.map (some d)) (.string n) false).run Tryz.prog (w.drewN q')=.ok (.bool (zaK s n)) (w.drewN q'):=fun q'=>zcK (h2.drewN q') _
 have bK:∀q',(Instr.lookup 106 (.map (some r)) (.agg #[.string n,.string who]) false).run Tryz.prog (w.drewN q')=.ok (.bool (s.renounce.any fun x=>zag x.1 n&&zag x.2 who)) (w.drewN q'):=fun q'=>zl4 (h2.drewN q') _ _
 have hU:zhu s n who=(!zag n who&&!zaK s n&&!(s.renounce.any fun x=>zag x.1 n&&zag x.2 who)):=rfl;have HU:=zHi hU;clear hU;generalize zhu s n who=R at*;generalize zaK s n=dd at*;generalize(s.renounce.any fun x=>zag x.1 n&&zag x.2 who)=rr at*;have fV:zag n who=(n.toList==who.toList):=rfl;rw[fV]at HU;clear h1 h2 hH fV;go_enter Tryz.func203,Tryz.ntmps203
 cases hn:(n.toList==who.toList)
 ·have eA:(n.toList != who.toList)=true:=by rw[bne,hn];rfl
  rw[hn]at HU;cases dd
  ·exact M6
  ·exact M6
 ·have eA:(n.toList != who.toList)=false:=by rw[bne,hn];rfl
  rw[hn]at HU;exact M6
def HasAt(W:World)(m:Nat)(out:Parts):Prop:=
 ∃mm:List (ByteArray×Value),MapS W m ekS (fun v:Value=>v) mm/\(mm.map (·.1)).Nodup/\∀n,(mget eqS n mm=none/\zab out n=0)\/mget eqS n mm=some (za9 (zab out n))
theorem HasAt.keep{n m:Nat}{W W':World}{out:Parts}(h:HasAt W m out)(hB:Below n W W')(hn:W.heap.size<=n:=by first|exact Nat.le_refl _|omega):HasAt W' m out:=by
 obtain⟨mm,h1,h2,h3⟩:=h;exact⟨mm,h1.below hB hn,h2,h3⟩
theorem HasAt.block{m:Nat}{W W':World}{out:Parts}(h:HasAt W m out)(hb:W'.heap[m]?=W.heap[m]?):HasAt W' m out:=by
 obtain⟨mm,h1,h2,h3⟩:=h;exact⟨mm,h1.keep hb,h2,h3⟩
theorem HasAt.lt{m:Nat}{W:World}{out:Parts}(h:HasAt W m out):m<W.heap.size:=by
 obtain⟨mm,h1,h2,h3⟩:=h;exact h1.at.lt
structure Two2 (w w':World) (C m:Nat):Prop where
 below:∀n,n<=C->n<=m->n<=w.heap.size->Below n w w'
 others:∀k,k<w.heap.size->k≠C->k≠m->w'.heap[k]?=w.heap[k]?
 size:w.heap.size<=w'.heap.size
theorem Two2.of_below{w w':World}{C m:Nat}(h:Below w.heap.size w w'):Two2 w w' C m:=⟨fun n _ _ hn=>h.mono hn,fun k hk _ _=>h.block k hk,h.size⟩
theorem Two2.trans{a b c:World}{C m:Nat}(h:Two2 a b C m)(k:Two2 b c C m):Two2 a c C m:=
 ⟨fun n h1 h2 h3=>(h.below n h1 h2 h3).trans (k.below n h1 h2 (Nat.le_trans h3 h.size)),fun i hi h1 h2=>(k.others i (Nat.lt_of_lt_of_le hi h.size) h1 h2).trans (h.others i hi h1 h2),Nat.le_trans h.size k.size⟩
theorem Two2.grownC{w w':World}{C m:Nat}(h:w.grownBy w' (some C)):Two2 w w' C m:=
 ⟨fun n h1 _ hn=>zaF (Below.refl _ _) h h1 hn,fun k hk h1 _=>h.block k hk (fun e=>h1 Mcn),h.size⟩
theorem Two2.grownM{w w':World}{C m:Nat}(h:w.grownBy w' (some m)):Two2 w w' C m:=
 ⟨fun n _ h1 hn=>zaF (Below.refl _ _) h h1 hn,fun k hk _ h1=>h.block k hk (fun e=>h1 Mcn),h.size⟩
def zj7(w:World)(C m:Nat)(x:Parts×Bool)(e:Ending)(w':World):Prop:=e=.returned (.tuple #[])/\HasAt w' m x.1/\MarkAt w' C x.2/\Two2 w w' C m
theorem zc6{P:Program}{ops:Array Oper}{o:Oper}{a:Act}{w:World}{K:Act->World->Prop}{Q:Exit->Act->World->Prop}{E:Prop}{T:TypeId}(aQ:o.guard=none)(x i u:Operand)(ho:o.op=.mapUpdate T x i u)(vx vi vu:Value)(hx:a.eval x=vx)(hi:a.eval i=vi)(hu:a.eval u=vu)(w':World)
 (ai:(Instr.mapUpdate T vx vi vu).run P w=.ok () w')(h:K (a.put o.dst undef) w'):if Region.wanted o (yielded ops a.tmps)=true then Oper.wp P o a w K Q else E:=by
 exact MP
theorem zfv(b h C m:Nat)(law:Law)(who n:ByteArray)(f:Rat)(out:Parts)(fl:Bool)(w:World)(hH:HeirAt w h b law who C m)(hM:MarkAt w C fl)(hS:HasAt w m out)(j9:h≠C)(kC:h≠m)(nD:C≠m)(hg:GoodParts out)(hs:zaD (zab out n))(hf:zaD f):
 Calls Tryz.prog 204 #[.pointer (some ⟨h,0,none⟩),.string n,.agg #[.int .i64 f.num,.int .i64 f.den]] w (zj7 w C m (zcx n f (out,fl))):=by
 have hh:=zad hH;have pm:=zad hM;have fE:=hS.lt;obtain⟨mm,cq,ca,ew⟩:=hS;unfold HeirAt at hH;obtain⟨-,-,-,-,-,-,e6,e7⟩:=cF8 hH;obtain⟨HG,oH,oR,HM,tY⟩:=yH5 hg ew ca hM cq;have sP:h≠w.heap.size:=MbC;have Ci:h≠w.heap.size+1:=MbC;generalize jb:zab out n=sv at*;have dB:=zHi jb;have cn:∀o,(Instr.lookup 231 (.map (some m)) (.string n) true).run Tryz.prog (w.alloc o)=.ok (.tuple #[(mget eqS n mm).getD (.agg #[.int .i64 0,.int .i64 0]),.bool (mget eqS n mm).isSome]) (w.alloc o):=fun o=>zi1 mapSF (cq.below (n:=w.heap.size) (zau (Below.refl _ _) o)).at n
 have cF:=ew n;rw[jb]at cF;have h0:(sv=0/\mget eqS n mm=none)\/mget eqS n mm=some (za9 sv):=by
  rcases cF with⟨a,b⟩|a
  ·exact .inl ⟨b,a⟩
  ·exact .inr a
 clear hH hM cq ca ew hg jb cF;go_enter Tryz.func204,Tryz.ntmps204
 rcases h0 with⟨rfl,h0⟩|h0
 ·rw[h0]at cn;simp only[Option.getD_none,Option.isSome_none]at cn;clear h0;go_upto_region 4 with fail
  refine wp_region_held_drew (S:=(fun w'=>w'.cell? ⟨h,6,none⟩=some (.pointer (some ⟨C,0,none⟩))/\w'.cell? ⟨h,7,none⟩=some (.map (some m))/\w'.cell? ⟨w.heap.size,0,none⟩=some (.int .i64 f.num)/\w'.cell? ⟨w.heap.size,1,none⟩=some (.int .i64 f.den)/\w'.cell? ⟨w.heap.size+1,0,none⟩=some (.int .i64 (0))/\w'.cell? ⟨w.heap.size+1,1,none⟩=some (.int .i64 (1)))) MbE ?hS ?hrest
  case hS=>((try dsimp only);refine⟨?_,?_,?_,?_,?_,?_⟩<;>(simp[go_sem,e6,e7,hh];done))
  case hrest=>
   intro hHeld;refine TkH 0 ?_;refine TkH 1 ?_;refine TkH 2 ?_;refine TkH 3 ?_;refine TkH 4 ?_;refine TkH 5 ?_;refine TkH 6 ?_;refine TkH 7 ?_;refine TkH 8 ?_;refine TkH 9 ?_;refine TkH 10 ?_;refine OnH 11 fun K hK=>?_
   go_simp
   refine(zg3 C fl _ ?q1 (0) f hs hf).mono ?_
   case q1=>(repeat(first|exact HM.o|refine MarkAt.drew ?_|refine MarkAt.alloc ?_ _))
   rintro e w5 ⟨rfl,n1,n2⟩;have eA:=n2.size;have p6:w5.cell? ⟨h,6,none⟩=some (.pointer (some ⟨C,0,none⟩)):=(zaN n2 MbH j9).trans McS;have p7:w5.cell? ⟨h,7,none⟩=some (.map (some m)):=(zaN n2 MbH j9).trans (by simp[go_sem,e7,hh]);have p0:w5.cell? ⟨w.heap.size,0,none⟩=some (.int .i64 f.num):=(zaN n2 MbH MbC).trans MbQ;have p1:w5.cell? ⟨w.heap.size,1,none⟩=some (.int .i64 f.den):=(zaN n2 MbH MbC).trans MbQ;have p2:w5.cell? ⟨w.heap.size+1,0,none⟩=some (.int .i64 (0)):=(zaN n2 MbF MbC).trans MbQ;have p3:w5.cell? ⟨w.heap.size+1,1,none⟩=some (.int .i64 (1)):=(zaN n2 MbF MbC).trans MbQ;have qK:MapS w5 m ekS (fun v:Value=>v) mm:=(tY.o.below (n:=w.heap.size) Bw).grown n2 (by simpa using fun e=>nD e.symm);obtain⟨jm,N1,N2⟩:=yH3 qK n1 n2;clear n1 n2 qK;simp only[za9];refine hK.out _ _ ?_ (fun hHeld=>?_);focus((try dsimp only);refine⟨?_,?_,?_,?_,?_,?_⟩<;>assumption)
   clear hK K;try simp only[Act.put,List.setIfInBounds_toArray,List.set_cons_zero,List.set_cons_succ]
   refine OnH 12 fun K hK=>?_
   obtain⟨w6,ai,eW,aP,dV⟩:=zbY mapSF jm.o n (za9 (zaQ (0+f)));refine zc6 rfl _ _ _ rfl _ _ _ rfl rfl rfl w6 ai ?_;have Cx:w.heap.size+1<w5.heap.size:=Mct;have q6:w6.cell? ⟨h,6,none⟩=some (.pointer (some ⟨C,0,none⟩)):=(zaN aP MbC kC).trans p6;have q7:w6.cell? ⟨h,7,none⟩=some (.map (some m)):=(zaN aP MbC kC).trans p7;have q0:w6.cell? ⟨w.heap.size,0,none⟩=some (.int .i64 f.num):=(zaN aP MbC MbC).trans p0;have q1:w6.cell? ⟨w.heap.size,1,none⟩=some (.int .i64 f.den):=(zaN aP MbC MbC).trans p1;have q2:w6.cell? ⟨w.heap.size+1,0,none⟩=some (.int .i64 (0)):=(zaN aP MbC MbC).trans p2;have q3:w6.cell? ⟨w.heap.size+1,1,none⟩=some (.int .i64 (1)):=(zaN aP MbC MbC).trans p3;exact Mn
 ·rw[h0]at cn;simp only[Option.getD_some,Option.isSome_some,za9]at cn;clear h0;go_upto_region 4 with fail
  refine wp_region_held_drew (S:=(fun w'=>w'.cell? ⟨h,6,none⟩=some (.pointer (some ⟨C,0,none⟩))/\w'.cell? ⟨h,7,none⟩=some (.map (some m))/\w'.cell? ⟨w.heap.size,0,none⟩=some (.int .i64 f.num)/\w'.cell? ⟨w.heap.size,1,none⟩=some (.int .i64 f.den)/\w'.cell? ⟨w.heap.size+1,0,none⟩=some (.int .i64 (sv.num))/\w'.cell? ⟨w.heap.size+1,1,none⟩=some (.int .i64 (sv.den)))) MbE ?hS ?hrest
  case hS=>((try dsimp only);refine⟨?_,?_,?_,?_,?_,?_⟩<;>(simp[go_sem,e6,e7,hh];done))
  case hrest=>
   intro hHeld;refine TkH 0 ?_;refine TkH 1 ?_;refine TkH 2 ?_;refine TkH 3 ?_;refine TkH 4 ?_;refine TkH 5 ?_;refine TkH 6 ?_;refine TkH 7 ?_;refine TkH 8 ?_;refine TkH 9 ?_;refine TkH 10 ?_;refine OnH 11 fun K hK=>?_
   go_simp
   refine(zg3 C fl _ ?q1 (sv) f hs hf).mono ?_
   case q1=>(repeat(first|exact HM.o|refine MarkAt.drew ?_|refine MarkAt.alloc ?_ _))
   rintro e w5 ⟨rfl,n1,n2⟩;have eA:=n2.size;have p6:w5.cell? ⟨h,6,none⟩=some (.pointer (some ⟨C,0,none⟩)):=(zaN n2 MbH j9).trans McS;have p7:w5.cell? ⟨h,7,none⟩=some (.map (some m)):=(zaN n2 MbH j9).trans (by simp[go_sem,e7,hh]);have p0:w5.cell? ⟨w.heap.size,0,none⟩=some (.int .i64 f.num):=(zaN n2 MbH MbC).trans MbQ;have p1:w5.cell? ⟨w.heap.size,1,none⟩=some (.int .i64 f.den):=(zaN n2 MbH MbC).trans MbQ;have p2:w5.cell? ⟨w.heap.size+1,0,none⟩=some (.int .i64 (sv.num)):=(zaN n2 MbF MbC).trans MbQ;have p3:w5.cell? ⟨w.heap.size+1,1,none⟩=some (.int .i64 (sv.den)):=(zaN n2 MbF MbC).trans MbQ;have qK:MapS w5 m ekS (fun v:Value=>v) mm:=(tY.o.below (n:=w.heap.size) Bw).grown n2 (by simpa using fun e=>nD e.symm);obtain⟨jm,N1,N2⟩:=yH3 qK n1 n2;clear n1 n2 qK;simp only[za9];refine hK.out _ _ ?_ (fun hHeld=>?_);focus((try dsimp only);refine⟨?_,?_,?_,?_,?_,?_⟩<;>assumption)
   clear hK K;try simp only[Act.put,List.setIfInBounds_toArray,List.set_cons_zero,List.set_cons_succ]
   refine OnH 12 fun K hK=>?_
   obtain⟨w6,ai,eW,aP,dV⟩:=zbY mapSF jm.o n (za9 (zaQ (sv+f)));refine zc6 rfl _ _ _ rfl _ _ _ rfl rfl rfl w6 ai ?_;have Cx:w.heap.size+1<w5.heap.size:=Mct;have q6:w6.cell? ⟨h,6,none⟩=some (.pointer (some ⟨C,0,none⟩)):=(zaN aP MbC kC).trans p6;have q7:w6.cell? ⟨h,7,none⟩=some (.map (some m)):=(zaN aP MbC kC).trans p7;have q0:w6.cell? ⟨w.heap.size,0,none⟩=some (.int .i64 f.num):=(zaN aP MbC MbC).trans p0;have q1:w6.cell? ⟨w.heap.size,1,none⟩=some (.int .i64 f.den):=(zaN aP MbC MbC).trans p1;have q2:w6.cell? ⟨w.heap.size+1,0,none⟩=some (.int .i64 (sv.num)):=(zaN aP MbC MbC).trans p2;have q3:w6.cell? ⟨w.heap.size+1,1,none⟩=some (.int .i64 (sv.den)):=(zaN aP MbC MbC).trans p3;exact Mn
abbrev Ln:=ByteArray×Option Addr×Nat×Nat
def lnC(e:Ln):List Value:=[.string e.1,.slice e.2.1 e.2.2.1 e.2.2.2]
theorem zil(e:Ln):(lnC e).length=2:=rfl
theorem ln_one(e:Ln):∀u∈lnC e,u.oneCell'=true:=by simp[lnC,Value.oneCell']
theorem elLine:ElTy Tryz.prog 234 260 2 40:=zcZ (z:=.agg #[.string ⟨#[]⟩,.slice none 0 0]) MbE MbE rfl MbD
def ItemsN(W:World)(Q:Nat->Prop):Nat->List Ln->List Tree->Prop
 |0,es,l=>es=[]/\l=[]
 |f+1,es,l=>es.length=l.length/\∀(k:Nat) (e:Ln) (t:Tree),es[k]?=some e->l[k]?=some t->(∃n,t=.leaf n/\e=(n,none,0,0))\/
   ∃l' A c es',t=.node l'/\e=(⟨#[]⟩,some A,l'.length,c)/\l'.length<=c/\l'≠[]/\Q A.block/\Ro W 260 lnC (some A) es'/\ItemsN W Q f es' l'
theorem ItemsN.len{W:World}{Q:Nat->Prop}{f:Nat}{es:List Ln}{l:List Tree}(h:ItemsN W Q f es l):es.length=l.length:=by
 cases f with
 |zero=>rw[h.1,h.2];rfl
 |succ f=>exact h.1
theorem ItemsN.turn{W W':World}{Q Q':Nat->Prop}(hb:∀k,k<W.heap.size->Q k->W'.heap[k]?=W.heap[k]?)(hq:∀k,k<W.heap.size->Q k->Q' k):∀ {f:Nat} {es:List Ln} {l:List Tree},ItemsN W Q f es l->ItemsN W' Q' f es l
 |0,_,_,h=>h
 |f+1,es,l,h=>⟨h.1,fun k e t h1 h2=>by
  rcases h.2 k e t h1 h2 with h3|⟨l',A,c,es',h3,h4,h5,h6,hQ,h7,h8⟩
  ·exact .inl h3
  ·have bz:0<es'.length:=by
    rw[h8.len];exact List.length_pos_iff.2 h6
   obtain⟨b,off,cur,fr,hA,mn,hx⟩:=h7 bz;have ph:A=⟨b,off,none⟩:=by simpa using hA
   subst ph;have aa:b<W.heap.size:=(Array.getElem?_eq_some_iff.1 mn).1
   exact .inr ⟨l',_,c,es',h3,h4,h5,h6,hq b aa hQ,fun _=>⟨b,off,cur,fr,rfl,(hb b aa hQ).trans mn,hx⟩,ItemsN.turn hb hq h8⟩⟩
theorem ItemsN.keep{n:Nat}{W W':World}{Q:Nat->Prop}{f:Nat}{es:List Ln}{l:List Tree}(h:ItemsN W Q f es l)(hB:Below n W W')(hn:W.heap.size<=n:=by first|exact Nat.le_refl _|omega):ItemsN W' Q f es l:=
 h.turn (fun k hk _=>hB.block k (Nat.lt_of_lt_of_le hk hn)) (fun _ _ h=>h)
theorem ItemsN.snoc{W:World}{Q:Nat->Prop}{f:Nat}{es:List Ln}{l:List Tree}{e:Ln}{t:Tree}(h:ItemsN W Q (f+1) es l)(ht:(∃n,t=.leaf n/\e=(n,none,0,0))\/
 ∃l' A c es',t=.node l'/\e=(⟨#[]⟩,some A,l'.length,c)/\l'.length<=c/\l'≠[]/\Q A.block/\Ro W 260 lnC (some A) es'/\ItemsN W Q f es' l'):ItemsN W Q (f+1) (es++[e]) (l++[t]):=by
 refine⟨by simp[h.1],fun k x y h1 h2=>?_⟩;by_cases hk:k<es.length
 ·rw[List.getElem?_append_left hk]at h1;rw[List.getElem?_append_left (by rw[<-h.1];exact hk)]at h2;exact h.2 k x y h1 h2
 ·have cM:k=es.length:=by have:=(List.getElem?_eq_some_iff.1 h1).1;simp at this;omega
  subst cM;rw[List.getElem?_append_right (Nat.le_refl _)]at h1;rw[h.1,List.getElem?_append_right (Nat.le_refl _)]at h2;simp at h1 h2;subst h1 h2;exact ht
def Deep(s:St):Nat->ByteArray->Prop
 |0,_=>False
 |f+1,n=>∀c∈zaf s n,Deep s f c
def zen(s:St)(stems:Bool)(frm:ByteArray)(f:Nat)(c:ByteArray):Option Tree:=
 if zgl s c frm then some (.leaf c)else if stems&&!(zbF s stems frm f c).isEmpty then some (.node (zbF s stems frm f c))else none
theorem zim(s:St)(stems:Bool)(frm:ByteArray)(f:Nat)(n:ByteArray):zbF s stems frm (f+1) n=(zaf s n).filterMap (zen s stems frm f):=rfl
theorem zhJ{α β:Type}(g:α->Option β)(l:List α){k:Nat}(h:k<l.length):(l.take (k+1)).filterMap g=(l.take k).filterMap g++(g l[k]).toList:=by
 rw[List.take_succ_eq_append_getElem h,List.filterMap_append];cases hg:g l[k]<;>simp[List.filterMap,hg]
def LinesPost(w:World)(f:Nat)(l:List Tree)(e:Ending)(w':World):Prop:=
 ∃v es,e=.returned v/\OwnS w' w.heap.size 260 2 lnC v es/\ItemsN w' (fun k=>w.heap.size<=k) f es l/\Below w.heap.size w w'/\es.length<=1000
theorem sl_ln{w:World}{b:Nat}{e:Ln}{t:TypeId}{fr:Nat×Nat}(h:w.heap[b]?=some (.cells #[.string e.1,.slice e.2.1 e.2.2.1 e.2.2.2] t fr)):Sl w 2 lnC (some ⟨b,0,none⟩) [e]:=fun _=>⟨b,0,rfl,zad h,fun k y hy j u hu=>by
 have hk:k=0:=MbK;subst hk;simp only[List.getElem?_cons_zero,Option.some.injEq]at hy;subst hy;match j,hu with
 |0,hu=>simp[lnC]at hu;simp[World.cell?,h,<-hu]
 |1,hu=>simp[lnC]at hu;simp[World.cell?,h,<-hu]
 |j+2,hu=>simp[lnC]at hu⟩
theorem HeirAt.keep{n h b C m:Nat}{W W':World}{law:Law}{who:ByteArray}(hh:HeirAt W h b law who C m)(hB:Below n W W')(hn:W.heap.size<=n:=by first|exact Nat.le_refl _|omega):HeirAt W' h b law who C m:=
 (hB.block h (Nat.lt_of_lt_of_le (zad hh) hn)).trans hh
theorem zj8(base b h C m:Nat)(s:St)(law:Law)(who:ByteArray)(ix:∀c∈s.children,noB c.2=false)(hl:s.children.length<=1000):∀(f:Nat) (n:ByteArray) (w:World),PeoAt base w b s->HeirAt w h b law who C m->Deep s f n->
 Calls Tryz.prog 205 #[.pointer (some ⟨h,0,none⟩),.string n] w (LinesPost w f (zbF s law.stems who f n))
 |0,n,w,_,_,hd=>hd.elim
 |f+1,n,w,hW,hH,hd=>by
  obtain⟨IH,HW,HH⟩:=yH3 (fun(c:ByteArray) (W:World) (hc:c∈zaf s n) (h1:PeoAt base W b s) (h2:HeirAt W h b law who C m)=>zj8 base b h C m s law who ix hl f c W h1 h2 (hd c hc)) hW hH;obtain⟨B,d,c,p,wl,r,mv,tv,la,co,h1,h2⟩:=hW;have hb:=zad h1;have hh:=zad hH;unfold WldC at h1;unfold HeirAt at hH;obtain⟨-,c1⟩:=cF2 h1;obtain⟨e0,-,e2⟩:=cF3 hH;obtain⟨KA,kc,cn,eV,ia⟩:=zhk h2 n;have qF:=cn w (Below.refl _ _);rw[zim];have bR:(zaf s n).length<=1000:=by
   exact MaE
  obtain⟨u9,ka⟩:=yH2 (fun c (hc:c∈zaf s n)=>ix (n,c) (zcJ.1 hc)) ia;generalize hks:zaf s n=ks at*;clear h1 h2 hH cn ia hd hks;go_enter Tryz.func205,Tryz.ntmps205
  go_wp2_with fail
  go_loopw [5,19] (fun v i wr=>∃(k:Nat) (es:List Ln),k<=ks.length/\i=.int .i64 k/\OwnS wr w.heap.size 260 2 lnC v es/\Hid (ItemsN wr (fun j=>w.heap.size<=j/\za1 v≠some j) (f+1) es ((ks.take k).filterMap (zen s law.stems who f)))/\Below w.heap.size w wr/\es.length<=k) (fun _ i _=>ks.length-(intOf i).toNat)
  case atStart=>exact⟨0,[],Nat.zero_le _,rfl,OwnS.nil,⟨rfl,fun k e t h1=>by simp at h1⟩,Below.refl _ _,Nat.le_refl _⟩
  case round=>
   obtain⟨k,es,hk,rfl,ae,HI,hB,hel⟩:=hrel;obtain⟨VA,vc,rfl,BL,mX⟩:=ae.sl zil;clear BL;have HO:=zHi ae;by_cases aa:k<ks.length
   ·obtain⟨b',off,rfl,bE,hc⟩:=(ka.o.keep hB).at aa;have vA:=zhJ (zen s law.stems who f) ks aa;have b8:ks[k]∈ks:=List.getElem_mem aa;have dp:=u9.o ks[k] b8;have aN:=fun W=>IH.o ks[k] W b8
    generalize ks[k]=ch at*;have i0:wr.cell? ⟨b',off+k,none⟩=some (.string ch):=Mci;obtain⟨HF,HC⟩:=yH2 vA aN;have dj:zen s law.stems who f ch=if zhu s ch who then some (.leaf ch)else if law.stems&&!(zbF s law.stems who f ch).isEmpty then some (.node (zbF s law.stems who f ch))else none:=by
     unfold zen;rw[able_q,dp];simp
    have fX:=zHi dj;have ao:(k:Int)<(ks.length:Int):=MbC;have bf:(0:Int)<=(k:Int):=MbC;have Cr:(k:Int)<=(kc:Int):=MbC;have E2:wr.cell? ⟨h,2,none⟩=some (.bool law.stems):=(za4 hB hh).trans e2;have Cj:h<wr.heap.size:=Nat.lt_of_lt_of_le hh hB.size;obtain⟨xg,wR,jW⟩:=yH3 (HW.o.keep (n:=w.heap.size) hB) (HH.o.keep (n:=w.heap.size) hB) hB;clear hc vA b8 dp aN dj ae;have ob:=zHi (fun W (kp:Below wr.heap.size wr W)=>ziJ base b h C m s law who ch W (xg.o.keep kp) (wR.o.keep kp));generalize zhu s ch who=ab at*;have aS:=hB.size;have dL:=zHi hel;clear hB hel;cases ab
    ·go_upto_region 8 with(first
      |(go_at_call 203;refine(ob.o _ Bw).mono ?_;rintro e wq ⟨rfl,z,rfl⟩)
      |(go_at_call 205
        refine(HC.o _ (xg.o.keep (n:=wr.heap.size) Bw) (wR.o.keep (n:=wr.heap.size) Bw)).mono ?_;rintro e wq ⟨v2,es2,rfl,o1,o2,o3,o4⟩
        obtain⟨A2,c2,rfl,_,bY⟩:=o1.sl zil))
     have E2q:wq.cell? ⟨h,2,none⟩=some (.bool law.stems):=(za4 o3 MbM).trans ((zav _ _ _ _ Cj).trans E2);have jU:=o3.size;simp only[zae]at jU;have hhq:h<wq.heap.size:=MbC;obtain⟨O2L,O1,O2,O3⟩:=yH4 o2.len o1 o2 o3;have nC:Hid (Below wr.heap.size wr wq):=(za5 wr z).trans (o3.mono Mb8);clear o1 o2 o3;have gS:=fX.o;simp only[Bool.false_eq_true,if_false]at gS;generalize am:law.stems=st at*;by_cases hcond:st=true/\es2.length≠0
     ·obtain⟨rfl,ag⟩:=hcond;have qU:(zbF s true who f ch).isEmpty=false:=by
       cases ht:zbF s true who f ch with
       |nil=>have:=O2L.o;rw[ht]at this;simp at this;rw[this]at ag;simp at ag
       |cons x l=>rfl
      have iz:zen s true who f ch=some (.node (zbF s true who f ch)):=by rw[gS,qU];rfl
      have pi:∃ad,A2=some ad/\w.heap.size<=ad.block/\wr.heap.size<=ad.block/\ad.block<wq.heap.size:=by
       rcases O1.o with⟨e,h0⟩|⟨g,o,cap,cur,e,hg,mC,_⟩
       ·rw[h0]at ag;simp at ag
       ·simp only[Value.slice.injEq]at e;refine⟨⟨g,o,none⟩,e.1,?_,?_,zad mC⟩
        ·simp[zae]at hg;show _<=g;omega
        ·simp[zae]at hg;show _<=g;omega
      obtain⟨ad,rfl,uX,uY,uZ⟩:=pi;have cy:(0:Int)<(es2.length:Int):=MbC;obtain⟨tR,Ah⟩:=yH2 iz qU;clear qU iz gS
      go_wp2_with (at_builtin
                   go_loud(refine zaG (v:=.slice VA es.length vc) (n:=es.length) (m:=1) rfl _ _ rfl elLine zil ln_one rfl (HO.o.keep (n:=wr.heap.size) (zau nC.o _)) rfl rfl rfl (sl_ln (e:=(⟨#[]⟩,some ad,es2.length,c2)) (za3 _ _ _ rfl)) (by have:=dL.o;simp[maxLen];omega) (by have:=dL.o;omega) MbH ?_)
                   intro v3 w3 h1 h2 h3)
      have pB:ItemsN w3 (fun j=>w.heap.size<=j/\za1 v3≠some j) (f+1) es ((ks.take k).filterMap (zen s true who f)):=by
       refine ItemsN.turn ?_ ?_ ((HI.o.keep (n:=wr.heap.size) nC.o).keep (n:=wq.heap.size) (zau (Below.refl _ _) (.cells #[.string ⟨#[]⟩,.slice (some ad) es2.length c2] 260)))
       ·exact fun j hj hQ=>h2.block j hj (fun e=>hQ.2 e.symm)
       ·exact MaF
      have jc:∀j,wr.heap.size<=j->za1 (.slice VA es.length vc)≠some j:=fun j hj e=>by have:=(HO.o.ge j e).2;omega
      have bL:∀j,wr.heap.size<=j->j<wq.heap.size->za1 v3≠some j:=fun j hj yB e=>by
       rcases h3 j e with h|h
       ·exact jc j hj h
       ·simp at h;omega
      have rl:Ro w3 260 lnC (some ad) es2:=by
       intro sX;obtain⟨b2,off2,cur2,fr2,lP,bp,cz⟩:=O1.o.ro' sX;have cw:ad.block=b2:=by simp only[Option.some.injEq]at lP;rw[lP]
       have vf:=(Array.getElem?_eq_some_iff.1 bp).1;refine⟨b2,off2,cur2,fr2,lP,?_,cz⟩;rw[h2.block b2 MbH (fun e=>jc b2 MbC e.symm)];exact(Below.heap_alloc wq _ b2 vf).trans bp
      have xH:ItemsN w3 (fun j=>w.heap.size<=j/\za1 v3≠some j) f es2 (zbF s true who f ch):=by
       refine ItemsN.turn ?_ ?_ (O2.o.keep (n:=wq.heap.size) (zau (Below.refl _ _) (.cells #[.string ⟨#[]⟩,.slice (some ad) es2.length c2] 260)))
       ·exact fun j hj hQ=>h2.block j hj (fun e=>jc j (by simp[zae]at hQ;omega) e.symm)
       ·exact fun j hj hQ=>⟨by simp[zae]at hQ;omega,fun e=>(h3 j e).elim (jc j (by simp[zae]at hQ;omega)) (fun h=>by simp at h hj;omega)⟩
      have pC:=pB.snoc (e:=(⟨#[]⟩,some ad,es2.length,c2)) (t:=.node (zbF s true who f ch)) (.inr ⟨_,ad,c2,es2,rfl,by rw[O2L.o],by rw[<-O2L.o];exact bY,(by intro e;have:=Ah.o;rw[e]at this;cases this),⟨uX,bL _ uY uZ⟩,rl,xH⟩);have fR:Below w.heap.size w w3:=Below.grown (a:=w) (B:=w.heap.size) (zau (jW.o.trans (nC.o.mono MbC)) (.cells #[.string ⟨#[]⟩,.slice (some ad) es2.length c2] 260)) h2 MbH (fun j hj=>(HO.o.ge j hj).1);have i9:=HF.o;rw[tR.o]at i9;obtain⟨lj,gG,bw,H1⟩:=yH4 i9 pC fR h1;clear pB pC xH fR rl jc bL i9 h1 h2 h3;go_wp2_with fail
      go_round
      case rel=>exact⟨k+1,es++[(⟨#[]⟩,some ad,es2.length,c2)],by omega,by go_num,H1.o,by rw[am,lj.o];exact gG.o,bw.o,by have:=dL.o;simp;omega⟩
      case measure=>simp[intOf];omega
     ·have iz:zen s st who f ch=none:=by
       rw[gS];cases bk:st
       ·rfl
       ·have kx:es2.length=0:=Classical.byContradiction fun h=>hcond ⟨bk,h⟩
        have nY:zbF s true who f ch=[]:=List.eq_nil_of_length_eq_zero (by have:=O2L.o;rw[bk]at this;omega);rw[nY];rfl
      have i9:=HF.o;rw[iz]at i9;obtain⟨lj,fh⟩:=yH2 i9 hcond;have fR:Below w.heap.size w wq:=jW.o.trans (nC.o.mono MbC);obtain⟨bw,Aj,zR⟩:=yH3 fR (HO.o.keep (n:=wr.heap.size) nC.o) (HI.o.keep (n:=wr.heap.size) nC.o);clear iz i9 fR gS;by_cases cy:(0:Int)<(es2.length:Int)
      ·have wj:st=false:=by
        cases bk:st
        ·rfl
        ·exact absurd ⟨bk,by omega⟩ fh.o
       clear hcond;subst wj;exact MB
      ·clear hcond;cases st
       ·exact MB
       ·exact MB
    ·go_wp2_with (first
      |(go_at_call 203;refine(ob.o _ Bw).mono ?_;rintro e wq ⟨rfl,z,rfl⟩)
      |(at_builtin;go_loud(refine zaG (v:=.slice VA es.length vc) (n:=es.length) (m:=1) rfl _ _ rfl elLine zil ln_one rfl (HO.o.keep (n:=wr.heap.size) Bw) rfl rfl rfl (sl_ln (e:=(ch,none,0,0)) (za3 _ _ _ Mb8)) (by have:=dL.o;simp[maxLen];omega) (by have:=dL.o;omega) MbM ?_);intro v3 w3 h1 h2 h3))
     have pB:ItemsN w3 (fun j=>w.heap.size<=j/\za1 v3≠some j) (f+1) es ((ks.take k).filterMap (zen s law.stems who f)):=by
      refine ItemsN.turn ?_ ?_ ((HI.o.keep (n:=wr.heap.size) (za5 wr z)).keep (n:=(wr.ext z).heap.size) (zau (Below.refl _ _) (.cells #[.string ch,.slice none 0 0] 260)))
      ·exact fun j hj hQ=>h2.block j hj (fun e=>hQ.2 e.symm)
      ·exact MaF
     have pC:=pB.snoc (e:=(ch,none,0,0)) (t:=.leaf ch) (.inl ⟨ch,rfl,rfl⟩);have fR:Below w.heap.size w w3:=Below.grown (a:=w) (B:=w.heap.size) (zau (zbH jW.o z) (.cells #[.string ch,.slice none 0 0] 260)) h2 MbM (fun j hj=>(HO.o.ge j hj).1);have nB:zen s law.stems who f ch=some (.leaf ch):=by rw[fX.o];rfl
     have i9:=HF.o;rw[nB]at i9;obtain⟨lj,gG,bw,H1⟩:=yH4 i9 pC fR h1;clear pB pC fR nB i9 h1 h2 h3;go_wp2_with fail
     go_round
     case rel=>exact⟨k+1,es++[(ch,none,0,0)],by omega,by go_num,H1.o,by rw[lj.o];exact gG.o,bw.o,by have:=dL.o;simp;omega⟩
     case measure=>simp[intOf];omega
   ·rw[List.take_of_length_le MbC]at HI;have ao:¬(k:Int)<(ks.length:Int):=MbC;go_wp2_with fail
    go_ret
    exact⟨_,es,rfl,HO.o,HI.o.turn (fun _ _ _=>rfl) (fun _ _ h=>h.1),hB,by omega⟩
