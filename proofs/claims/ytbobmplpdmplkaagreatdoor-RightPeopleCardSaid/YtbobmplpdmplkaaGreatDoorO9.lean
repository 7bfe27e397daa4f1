import Derived.Test.YtbobmplpdmplkaaGreatDoorRF
set_option linter.all false
set_option maxRecDepth 100000
set_option maxHeartbeats 4000000
namespace Go.Proofs.YtbobmplpdmplkaaGreatDoor
open Go.RowKit
attribute [local go_sem] World.cell?_alloc_mark zaf za4 zam za7 zaw zax zay zaz za0 za1 za2
attribute [local go_sem] zan zac
def zly(out:Parts)(p:ByteArray×Value):Option (ByteArray×Rat):=if 0<zag out p.1 then some (p.1,zag out p.1)else none
def colP(out:Parts)(l:List (ByteArray×Value)):Parts:=l.filterMap (zly out)
theorem colP_snoc(out:Parts)(l:List (ByteArray×Value))(p:ByteArray×Value):colP out (l++[p])=colP out l++(zly out p).toList:=by
 unfold colP;rw[List.filterMap_append];cases h:zly out p<;>simp[List.filterMap,h]
theorem zo7{l:Parts}{n:ByteArray}(h:zag l n≠0):(n,zag l n)∈l:=by
 unfold zag at h⊢;cases hf:l.find? (fun p=>zae p.1 n)with
 |none=>rw[hf]at h;exact absurd rfl h
 |some p=>
  have h1:=List.mem_of_find?_eq_some hf;have h2:=List.find?_some hf;have h3:p.1=n:=zau.1 h2;rw[<-h3];exact h1
theorem zo8{l:Parts}(h:GoodParts l):l.Nodup:=by
 refine h.asc.imp fun {a b} cI e=>?_
 rw[e,zeR]at cI;cases cI
theorem znQ{out:Parts}(hg:GoodParts out){mm:List (ByteArray×Value)}(cW:(mm.map (·.1)).Nodup)(iq:∀n,(mget eqS n mm=none/\zag out n=0)\/mget eqS n mm=some (zaA (zag out n))):(colP out mm).Perm out:=by
 refine(List.perm_ext_iff_of_nodup ?_ (zo8 hg)).2 fun a=>?_
 ·unfold colP;have h1:((mm.map (·.1)).filterMap fun n=>if 0<zag out n then some (n,zag out n)else none).Nodup:=by
   refine List.Pairwise.filterMap _ ?_ cW;intro a b cI x hx y hy e;split at hx
   ·split at hy
    ·simp only[Option.some.injEq]at hx hy;rw[<-hx,<-hy]at e;exact cI (congrArg Prod.fst e)
    ·cases hy
   ·cases hx
  rw[List.filterMap_map]at h1;exact h1
 ·constructor
  ·intro ha;obtain⟨p,hp,h1⟩:=List.mem_filterMap.1 ha;unfold zly at h1;split at h1
   ·rename_i h0
    simp only[Option.some.injEq]at h1;rw[<-h1];exact zo7 (by intro e;rw[e]at h0;exact absurd h0 McA)
   ·cases h1
  ·intro ha;have h1:=share_mem hg ha;have h2:=hg.pos a ha;have h3:mget eqS a.1 mm=some (zaA (zag out a.1)):=by
    rcases iq a.1 with⟨_,h⟩|h
    ·rw[h1]at h;rw[h]at h2;exact absurd h2 McA
    ·exact h
   refine List.mem_filterMap.2 ⟨_,zcH h3,?_⟩;unfold zly;rw[h1,if_pos h2]
def UpP(L:Parts):Prop:=L.Pairwise fun a b=>zbh b.1 a.1=false
theorem zlz{ls L:Parts}(h:GoodParts ls)(hp:L.Perm ls)(hs:UpP L):L=ls:=by
 have eD:L.Pairwise (fun x y:ByteArray×Rat=>zbh y.1 x.1=false):=hs;refine List.Perm.eq_of_pairwise (le:=fun x y:ByteArray×Rat=>zbh y.1 x.1=false) ?_ eD ?_ hp
 ·intro a b ha hb h1 h2;have jc:a∈ls:=hp.mem_iff.1 ha;obtain⟨i,hi,rfl⟩:=List.getElem_of_mem jc;obtain⟨j,hj,rfl⟩:=List.getElem_of_mem hb;rcases Nat.lt_trichotomy i j with cU|cU|cU
  ·have:=List.pairwise_iff_getElem.1 h.asc i j hi hj cU;rw[this]at h2;cases h2
  ·subst cU;rfl
  ·have:=List.pairwise_iff_getElem.1 h.asc j i hj hi cU;rw[this]at h1;cases h1
 ·refine h.asc.imp fun {a b} cI=>?_
  exact zgM cI
theorem zjE{α:Type}{x:α}:∀ {l:List α} {i:Nat},l[i]?=some x->(x::l.eraseIdx i).Perm l
 | [],i,h=>by simp at h
 |y::l,0,h=>by
  simp only[List.getElem?_cons_zero,Option.some.injEq]at h;rw[h];exact List.Perm.refl _
 |y::l,i+1,h=>by
  simp only[List.getElem?_cons_succ]at h;rw[List.eraseIdx_cons_succ];exact(List.Perm.swap y x _).trans (List.Perm.cons y (zjE h))
theorem zl0{α:Type}{d l m:List α}{i:Nat}{x:α}(h:(d++l).Perm m)(hx:l[i]?=some x):((d++[x])++l.eraseIdx i).Perm m:=by
 rw[List.append_assoc];refine List.Perm.trans ?_ h;exact List.Perm.append_left d (zjE hx)
theorem zhr(s:St)(frm:ByteArray):∀(a b:Parts) (x:Parts×Bool) (rest:Rat),zdh s frm (a++b) x rest=zdh s frm b (zdh s frm a x rest).1 (zdh s frm a x rest).2
 | [],_,_,_=>rfl
 |p::a,b,x,rest=>by
  rw[List.cons_append,zdh,zdh];split<;>exact zhr s frm a b _ _
theorem will_snoc(s:St)(frm:ByteArray)(l:Parts)(x:Parts×Bool)(rest:Rat){k:Nat}(h:k<l.length):zdh s frm (l.take (k+1)) x rest=
 if zdT s l[k].1 frm then(zcR l[k].1 l[k].2 (zdh s frm (l.take k) x rest).1,(zdh s frm (l.take k) x rest).2-l[k].2)else zdh s frm (l.take k) x rest:=by
 rw[List.take_succ_eq_append_getElem h,zhr,zdh,zdh,zdh]
def zc7(n:ByteArray)(day:Int)(g:Grave):Bool:=zaV g day&&decide (0<(zag g.holders n).num)
theorem zkv{q:Rat}:0<q↔0<q.num:=by rw[Rat.lt_iff];simp
theorem held_same{s:St}{last day:Int}{n:ByteArray}{i:Nat}{g:Grave}(hG:GoodSt s last)(hl:last<=day)(hi:s.graves[i]?=some g):zdr s n day i g=zc7 n day g:=by
 have bf:=hG.graves g (List.mem_of_getElem? hi);have hn:=zb9 bf.good n;have h1:(zag g.holders n != 0)=decide (0<(zag g.holders n).num):=by
  rw[Bool.eq_iff_iff,bne_iff_ne,decide_eq_true_eq,<-zkv];constructor
  ·intro h;exact Rat.lt_of_le_of_ne hn (fun e=>h e.symm)
  ·intro h e;rw[e]at h;exact absurd h McA
 have h2:(zaR s g.place day==some i)=zaV g day:=by
  cases hf:zaV g day
  ·cases hx:zaR s g.place day with
   |none=>rfl
   |some j=>
    obtain⟨gj,h3,h4,h5⟩:=zce hx;cases cB:(some j==some i)
    ·rfl
    ·have e:j=i:=by simpa using cB
     subst e;rw[h3]at hi;simp only[Option.some.injEq]at hi;rw[hi,hf]at h5;cases h5
  ·cases hx:zaR s g.place day with
   |none=>
    have:=zhl hx g (List.mem_of_getElem? hi) rfl;rw[hf]at this;cases this
   |some j=>
    obtain⟨gj,h3,h4,h5⟩:=zce hx;have:=hG.force j i gj g h3 hi h4 day hl h5 hf;simp[this]
 unfold zdr zc7;rw[h1,h2,Bool.and_comm]
def zdw(n:ByteArray)(h:Parts)(g:Grave)(f:Bool):Parts×Bool:=zec (zag g.holders n) h (setP g.holders n 0,f)
def zfA(n:ByteArray)(day:Int)(h:Parts):List Grave->Bool->List Grave×Bool
 | [],f=>([],f)
 |g::l,f=>if zc7 n day g then(⟨g.place,g.cls,g.fin,(zdw n h g f).1,g.died++[n]⟩::(zfA n day h l (zdw n h g f).2).1,(zfA n day h l (zdw n h g f).2).2)else(g::(zfA n day h l f).1,(zfA n day h l f).2)
theorem zgz{n:ByteArray}{day:Int}{h:Parts}:∀ {l:List Grave} {f:Bool},f=true->(zfA n day h l f).2=true
 | [],_,hf=>hf
 |g::l,f,hf=>by
  rw[zfA];split
  ·exact zgz (zfa (by exact hf))
  ·exact zgz hf
theorem zl1{s:St}{n:ByteArray}{day:Int}{h:Parts}(hh:∀p∈h,0<=p.2):∀ {l:List Grave} {i:Nat},(∀j g,l[j]?=some g->zdr s n day (i+j) g=zc7 n day g)->(∀g∈l,GoodG g)->
 (∀gs,zb0 s n day (some h) i l=some gs->zfA n day h l false=(gs,false))/\(zb0 s n day (some h) i l=none->(zfA n day h l false).2=true)
 | [],i,_,_=>by
   rw[zb0,zfA];exact⟨fun gs e=>by cases e;rfl,fun e=>by cases e⟩
 |g::l,i,hq,hg=>by
  have ih:=zl1 (s:=s) (n:=n) (day:=day) hh (l:=l) (i:=i+1) (fun j g' hj=>by
   have:=hq (j+1) g' Meg;rw[show i+1+j=i+(j+1) by omega]
   exact this) (fun g' h'=>hg g' (by simp[h']))
  have h0:=hq 0 g rfl;rw[Nat.add_zero]at h0;rw[zb0,zfA,h0];have bf:=hg g McB;cases tT:zc7 n day g
  ·simp only[Bool.false_eq_true,if_false];refine⟨fun gs e=>?_,fun e=>?_⟩
   ·cases hd:zb0 s n day (some h) (i+1) l with
    |none=>rw[hd]at e;cases e
    |some r=>
     rw[hd]at e;simp only[Option.map_some,Option.some.injEq]at e;rw[ih.1 r hd,<-e]
   ·cases hd:zb0 s n day (some h) (i+1) l with
    |none=>exact ih.2 hd
    |some r=>rw[hd]at e;cases e
  ·simp only[if_true];have hz:setP g.holders n 0=zas g.holders n:=zh9 bf.good.asc n
   obtain⟨g1,g2⟩:=zio (zb9 bf.good n) hh (zbK bf.good (n:=n)) (by
    have h1:zaE (setP g.holders n 0)=false:=zen bf.small McA;rw[<-hz]
    exact h1)
   have hy:zdw n h g false=zec (zag g.holders n) h (zas g.holders n,false):=by unfold zdw;rw[hz]
   rw[hy];cases dp:zb6 (zag g.holders n) h (zas g.holders n)with
   |none=>
    have h3:=g2 dp;refine⟨fun gs e=>by simp at e,fun _=>?_⟩;exact zgz h3
   |some o=>
    have h3:=g1 o dp;rw[h3];refine⟨fun gs e=>?_,fun e=>?_⟩
    ·cases hd:zb0 s n day (some h) (i+1) l with
     |none=>rw[hd]at e;cases e
     |some r=>
      rw[hd]at e;simp only[Option.bind_some,Option.map_some,Option.some.injEq]at e;rw[ih.1 r hd,<-e]
    ·cases hd:zb0 s n day (some h) (i+1) l with
     |none=>exact ih.2 hd
     |some r=>rw[hd]at e;cases e
theorem zl2{s:St}{n:ByteArray}{day:Int}{h:Option Parts}:∀ {l:List Grave} {i:Nat},(∀j g,l[j]?=some g->zdr s n day (i+j) g=zc7 n day g)->(l.any (zc7 n day)=false->zb0 s n day h i l=some l)/\(h=none->l.any (zc7 n day)=true->zb0 s n day h i l=none)
 | [],i,_=>by
   have e:zb0 s n day h i []=some []:=by simp[zb0]
   rw[e];exact⟨fun _=>rfl,fun _ e=>by cases e⟩
 |g::l,i,hq=>by
  have ih:=zl2 (s:=s) (n:=n) (day:=day) (h:=h) (l:=l) (i:=i+1) (fun j g' hj=>by
   have:=hq (j+1) g' Meg;rw[show i+1+j=i+(j+1) by omega]
   exact this)
  have h0:=hq 0 g rfl;rw[Nat.add_zero]at h0;unfold zb0;rw[h0,List.any_cons];cases tT:zc7 n day g
  ·simp only[Bool.false_eq_true,if_false,Bool.false_or];exact⟨fun e=>by rw[ih.1 e];rfl,fun e1 e2=>by rw[ih.2 e1 e2];rfl⟩
  ·simp only[if_true,Bool.true_or];refine⟨fun e=>(by cases e),fun e _=>?_⟩;subst e;rfl
theorem deathP_eq{laws:List Law}{s:St}{d:Deed}{last:Int}(hG:GoodSt s last)(hl:last<=d.day)(hw:za8 16 (zba laws d.day).num (zba laws d.day).den=true):
 zdH laws s d=if zaJ s d.frm then(s,28)else if s.graves.any (zc7 d.frm d.day)then
  (if(zfA d.frm d.day (zch s (zba laws d.day) d.frm).1 s.graves (zch s (zba laws d.day) d.frm).2).2 then(s,8)else
    ({s with graves:=(zfA d.frm d.day (zch s (zba laws d.day) d.frm).1 s.graves (zch s (zba laws d.day) d.frm).2).1,dead:=s.dead++[d.frm]},0))
  else({s with dead:=s.dead++[d.frm]},0):=by
 have hq:∀j g,s.graves[j]?=some g->zdr s d.frm d.day (0+j) g=zc7 d.frm d.day g:=fun j g hj=>by rw[Nat.zero_add];exact held_same hG hl hj
 obtain⟨e1,e2⟩:=zfN (s:=s) (n:=d.frm) (hG.wills d.frm) hw;have hn:=zl2 (s:=s) (n:=d.frm) (day:=d.day) (h:=zcK s (zba laws d.day) d.frm) hq;unfold zdH;cases hd:zaJ s d.frm
 ·simp only[Bool.false_eq_true,if_false];cases ha:s.graves.any (zc7 d.frm d.day)
  ·rw[hn.1 ha];simp
  ·simp only[if_true];cases he:zcK s (zba laws d.day) d.frm with
   |none=>
    rw[he]at hn;rw[hn.2 rfl ha,if_pos (zgz (e2 he))]
   |some h=>
    have bN:=ze3 (hG.wills d.frm) hw he;obtain⟨f1,f2⟩:=zl1 (s:=s) (n:=d.frm) (day:=d.day) (h:=h) (fun p hp=>by have:=bN.1.pos p hp;grind) hq hG.graves;rw[e1 h he];cases hx:zb0 s d.frm d.day (some h) 0 s.graves with
    |none=>
     simp only;rw[if_pos (f2 hx)]
    |some gs=>
     simp only;rw[f1 gs hx];simp
 ·simp
def zbd(n:ByteArray)(day:Int):Nat->List Grave->List Nat
 |_,[]=>[]
 |k,g::l=>if zc7 n day g then k::zbd n day (k+1) l else zbd n day (k+1) l
theorem zi9(n:ByteArray)(day:Int):∀(k:Nat) (a b:List Grave),zbd n day k (a++b)=zbd n day k a++zbd n day (k+a.length) b
 |k,[],b=>by simp[zbd]
 |k,g::a,b=>by
  rw[List.cons_append,zbd,zbd,zi9 n day (k+1) a b,List.length_cons];rw[show k+1+a.length=k+(a.length+1) by omega];split<;>simp
theorem held_snoc(n:ByteArray)(day:Int)(gs:List Grave){k:Nat}(h:k<gs.length):zbd n day 0 (gs.take (k+1))=zbd n day 0 (gs.take k)++if zc7 n day gs[k]then[k]else[]:=by
 rw[List.take_succ_eq_append_getElem h,zi9,Nat.zero_add,List.length_take,Nat.min_eq_left Mcy,zbd,zbd]
theorem zf2(n:ByteArray)(day:Int):∀(k:Nat) (l:List Grave),(zbd n day k l).length=(l.filter (zc7 n day)).length
 |_,[]=>rfl
 |k,g::l=>by
  rw[zbd,List.filter_cons];split<;>simp[zf2 n day (k+1) l]
theorem znR(n:ByteArray)(day:Int):∀(l:List Grave) (k j i:Nat),(zbd n day k l)[j]?=some i->k<=i/\∃g,l[i-k]?=some g/\(l.filter (zc7 n day))[j]?=some g
 | [],k,j,i,h=>by simp[zbd]at h
 |g::l,k,j,i,h=>by
  rw[zbd]at h;rw[List.filter_cons];cases hq:zc7 n day g
  ·rw[hq]at h;simp only[Bool.false_eq_true,if_false]at h⊢;exact MaT
  ·rw[hq]at h;simp only[if_true]at h⊢;cases j with
   |zero=>
    simp only[List.getElem?_cons_zero,Option.some.injEq]at h;subst h;exact⟨Nat.le_refl _,g,by simp,by simp⟩
   |succ j=>
    simp only[List.getElem?_cons_succ]at h⊢;exact MaT
def zcW(n:ByteArray)(h:Parts):List Grave->Bool->List Grave×Bool
 | [],f=>([],f)
 |g::l,f=>(⟨g.place,g.cls,g.fin,(zdw n h g f).1,g.died++[n]⟩::(zcW n h l (zdw n h g f).2).1,(zcW n h l (zdw n h g f).2).2)
theorem ziA(n:ByteArray)(h:Parts):∀(a b:List Grave) (f:Bool),zcW n h (a++b) f=((zcW n h a f).1++(zcW n h b (zcW n h a f).2).1,(zcW n h b (zcW n h a f).2).2)
 | [],b,f=>by simp[zcW]
 |g::a,b,f=>by
  rw[List.cons_append,zcW,ziA n h a b,zcW];simp
theorem next_snoc(n:ByteArray)(h:Parts)(l:List Grave)(f:Bool){k:Nat}(hk:k<l.length):zcW n h (l.take (k+1)) f=((zcW n h (l.take k) f).1++[⟨l[k].place,l[k].cls,l[k].fin,(zdw n h l[k] (zcW n h (l.take k) f).2).1,l[k].died++[n]⟩],(zdw n h l[k] (zcW n h (l.take k) f).2).2):=by
 rw[List.take_succ_eq_append_getElem hk,ziA,zcW,zcW]
theorem zkw(n:ByteArray)(h:Parts):∀(l:List Grave) (f:Bool),(zcW n h l f).1.length=l.length
 | [],_=>rfl
 |g::l,f=>by rw[zcW];simp[zkw n h l]
def zdx:List Grave->List Nat->List Grave->List Grave
 |gs,i::H,x::X=>zdx (gs.set i x) H X
 |gs,_,_=>gs
theorem ziB:∀(H:List Nat) (X:List Grave) (gs:List Grave) (i:Nat) (x:Grave),H.length=X.length->zdx gs (H++[i]) (X++[x])=(zdx gs H X).set i x
 | [],[],gs,i,x,_=>rfl
 | [],_::_,_,_,_,h=>by cases h
 |_::_,[],_,_,_,h=>by cases h
 |j::H,y::X,gs,i,x,h=>by
  rw[List.cons_append,List.cons_append,zdx,zdx];exact ziB H X _ i x Mdl
theorem zjF:∀(H:List Nat) (X gs:List Grave),(zdx gs H X).length=gs.length
 | [],_,_=>by simp[zdx]
 |_::_,[],_=>by simp[zdx]
 |j::H,y::X,gs=>by rw[zdx,zjF H X];simp
theorem zfO(n:ByteArray)(day:Int)(h:Parts):∀(l A:List Grave) (f:Bool),zdx (A++l) (zbd n day A.length l) (zcW n h (l.filter (zc7 n day)) f).1=A++(zfA n day h l f).1/\(zcW n h (l.filter (zc7 n day)) f).2=(zfA n day h l f).2
 | [],A,f=>by simp[zbd,zcW,zfA,zdx]
 |g::l,A,f=>by
  rw[zbd,List.filter_cons,zfA];cases hq:zc7 n day g
  ·simp only[Bool.false_eq_true,if_false];have:=zfO n day h l (A++[g]) f;rw[List.length_append,List.length_singleton,List.append_assoc,List.singleton_append]at this;exact⟨by rw[this.1];simp,this.2⟩
  ·simp only[if_true];rw[zcW,zdx];have:=zfO n day h l (A++[⟨g.place,g.cls,g.fin,(zdw n h g f).1,g.died++[n]⟩]) (zdw n h g f).2;rw[List.length_append,List.length_singleton,List.append_assoc,List.singleton_append]at this;have e:(A++g::l).set A.length ⟨g.place,g.cls,g.fin,(zdw n h g f).1,g.died++[n]⟩=A++⟨g.place,g.cls,g.fin,(zdw n h g f).1,g.died++[n]⟩::l:=by
    rw[List.set_append_right _ _ (Nat.le_refl _),Nat.sub_self,List.set_cons_zero]
   exact⟨by rw[e,this.1];simp,this.2⟩
open Go.Shelf
theorem elInt:ElTy Tryz.prog 63 3 1 8:=zd4 (z:=.int .i64 0) Mcz Mcz rfl McA
def TzTab(w:World):Prop:=TabAt 2 Lib.deBruijn64tab w/\2<w.heap.size
theorem TzTab.keep{w W:World}{n:Nat}(h:TzTab w)(hB:Below n w W)(hn:w.heap.size<=n:=by first|exact Nat.le_refl _|omega):TzTab W:=
 ⟨fun j hj=>(zah hB (Nat.lt_of_lt_of_le h.2 hn)).trans (h.1 j hj),Nat.lt_of_lt_of_le h.2 hB.size⟩
theorem tz_any(x:Nat)(hx:x<4096)(w:World)(hT:TzTab w):Calls Tryz.prog 79 #[.int .u64 x] w (Ret0 w (.int .i64 (Lib.ctz 64 x))):=
 (Any7.bits_TrailingZeros tzBits x Mcy w (fun _=>hT.1)).mono fun _ _ h=>⟨h.1,h.2.symm⟩
theorem sl_int{w:World}{b n:Nat}{t:TypeId}{fr:Nat×Nat}(h:w.heap[b]?=some (.cells #[.int .i64 (n:Int)] t fr)):Sl w 1 intC (some ⟨b,0,none⟩) [n]:=fun _=>⟨b,0,rfl,zab h,fun k y hy j u hu=>by
 have hk:k=0:=McK;subst hk;simp only[List.getElem?_cons_zero,Option.some.injEq]at hy;subst hy;match j,hu with
 |0,hu=>simp[intC]at hu;simp[World.cell?,h,<-hu]
 |j+1,hu=>simp[intC]at hu⟩
theorem zl3(a b:Nat)(ha:a<4611686018427387904)(hb:b<4611686018427387904):bits .and .i64 (a:Int) (b:Int)=((a &&& b:Nat):Int):=by
 have hx:a &&& b<=a:=Nat.and_le_left;have h1:(BitVec.ofInt 64 (a:Int)).toNat=a:=by
  rw[BitVec.ofInt_natCast,BitVec.toNat_ofNat];exact Nat.mod_eq_of_lt Mcy
 have h2:(BitVec.ofInt 64 (b:Int)).toNat=b:=by
  rw[BitVec.ofInt_natCast,BitVec.toNat_ofNat];exact Nat.mod_eq_of_lt Mcy
 show IntKind.i64.wrap ((BitVec.ofInt 64 (a:Int) &&& BitVec.ofInt 64 (b:Int)).toNat:Int)=_;rw[BitVec.toNat_and,h1,h2,IntKind.wrap_i64];omega
theorem znS(x:Nat)(hx:x<4096)(h0:x≠0):bits .and .i64 (x:Int) ((x:Int)-1)=((x &&& (x-1):Nat):Int):=by
 rw[show((x:Int)-1)=((x-1:Nat):Int) by omega];exact zl3 x (x-1) Mcy Mcy
theorem zl4(n set:Nat)(w:World)(hn:n<=12)(hx:set<2^n)(hT:TzTab w):
 Calls Tryz.prog 54 #[.int .i64 set] w (fun e w'=>∃v,e=.returned v/\OwnS w' w.heap.size 3 1 intC v (zcV n set)/\Below w.heap.size w w'):=by
 have HT:=zHi hT;clear hT;go_enter Tryz.func54,Tryz.ntmps54
 go_wp2_with fail
 go_loopw [0,3] (fun v0 v wr=>∃(x:Nat) (acc:List Nat),v0=.int .i64 x/\x<2^n/\Hid (zcV n set=acc++zcV n x)/\OwnS wr w.heap.size 3 1 intC v acc/\Below w.heap.size w wr) (fun v0 _ _=>(intOf v0).toNat)
 case atStart=>exact⟨set,[],rfl,hx,rfl,OwnS.nil,Below.refl _ _⟩
 case round=>
  obtain⟨x,acc,rfl,eE,HX,aa,hB⟩:=hrel;obtain⟨VA,vc,rfl,_,kB⟩:=aa.sl zgx;obtain⟨HO,HB⟩:=yH2 aa hB;have nw:x<4096:=Nat.lt_of_lt_of_le eE (Nat.pow_le_pow_right (n:=2) McA hn);by_cases h0:x=0
  ·subst h0;have DE:=HX.o;rw[bits_none,List.append_nil]at DE;have om:=zHi DE;clear DE aa;go_wp2_with fail
   go_ret
   exact⟨_,rfl,by rw[om.o];exact HO.o,HB.o⟩
  ·have ai:¬(x:Int)=0:=Mcy;have hcv:IntKind.u64.wrap (x:Int)=(x:Int):=by rw[IntKind.wrap_u64];omega
   have IJ:=zHi (fun W (hW:Below wr.heap.size wr W)=>tz_any x nw W ((HT.o.keep HB.o).keep hW));have jJ:acc.length<=12:=by
    have h1:=congrArg List.length HX.o;have h2:(zcV n set).length<=n:=by unfold zcV;exact Nat.le_trans (List.length_filter_le _ _) McB
    rw[List.length_append]at h1;omega
   have aG:=hB.size;clear aa hB;go_upto_region 3 with
    (first
      |(go_at_call 79
        go_must(refine(IJ.o _ Bw).mono ?_)
        rintro e wq ⟨rfl,rfl⟩)
      |(at_builtin
        go_loud(refine zat (v:=.slice VA acc.length vc) (n:=acc.length) (m:=1) rfl _ _ rfl elInt zgx intC_one rfl (xs:=acc) (ys:=[Lib.ctz 64 x]) (HO.o.keep (n:=wr.heap.size) Bw) rfl rfl rfl (sl_int (zar _ _ _ rfl)) McS Mcy McD ?_)
        intro v3 w3 h1 h2 h3;have ax:=Below.grown (B:=w.heap.size) (a:=w) (HB.o.trans (Below.mono (B:=wr.heap.size) (zad (Below.refl _ _) _) aG)) h2 McD (fun j hj=>(HO.o.ge j hj).1);obtain⟨H1,aD⟩:=yH2 h1 ax
        clear h1 h2 h3 ax))
   go_wp2_with fail
   go_round
   case rel=>
    rw[znS x nw h0];refine⟨x &&& (x-1),acc++[Lib.ctz 64 x],rfl,zia eE,?_,H1.o,aD.o⟩;show _=_;rw[HX.o,bits_step hn eE h0];simp
   case measure=>
    rw[znS x nw h0];have:=zkW h0;simp only[intOf];omega
