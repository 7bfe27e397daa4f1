import Derived.Test.YtogklihlgindkaaGreatDoorNA
import Derived.Test.YtogklihlgindkaaGreatDoorJ5
set_option linter.all false
set_option maxRecDepth 100000
set_option maxHeartbeats 4000000
namespace Go.Proofs.YtogklihlgindkaaGreatDoor
open Go.RowKit
variable{d:Deed}
def name_one(h:d.to.length=1):∃p,d.to=[p]/\zbh d=p.name:=by
 match hd:d.to,h with
 | [p],_=>exact⟨p,rfl,by unfold zbh;rw[hd];rfl⟩
def one_ne(hd:OkD d)(h:d.kind=5\/d.kind=6\/d.kind=7):noB (zbh d)=false/\zbh d≠d.frm/\noB d.frm=false:=by
 obtain⟨h1,h2⟩:=hd.one h;obtain⟨p,hp,hn⟩:=name_one h1;have pA:=hd.names p (by rw[hp];simp);rw[hn];refine⟨zgk pA,?_,zgk (hd.frm McS)⟩;unfold zcF at h2;simp only[Bool.and_eq_true,List.all_eq_true,Bool.not_eq_true']at h2;exact zcd.1 (h2.1.2 p (by rw[hp];simp))
def zfR(s:St)(f:ByteArray)(l:Parts)(n:ByteArray):zbv {s with wills:=s.wills++[(f,l)]} n=if zae f n then l else zbv s n:=by
 unfold zbv;rw[List.reverse_append,List.reverse_singleton,List.singleton_append,List.find?_cons];split
 ·rename_i h
  rw[if_pos h];rfl
 ·rename_i h
  rw[if_neg MdG]
variable{s s':St}{last:Int}
def zoS(h:GoodSt s last)(hd:OkD d)(hl:last<=d.day)(hk:d.kind=4)(ht:zgU s d=(s',0)):GoodSt s' d.day:=by
 have h:=h.later hl;unfold zgU at ht;split at ht
 ·simp at ht
 simp only[Prod.mk.injEq,and_true]at ht;rw[<-ht];obtain⟨iX,yN⟩:=hd.parts (.inr (.inr hk));refine {h with wills:=λn=>?_,willNames:=λw hw p hp=>?_}
 ·rw[zfR];split
  ·exact zjK yN
  ·exact h.wills n
 ·rcases List.mem_append.1 hw with hw|hw
  ·exact h.willNames w hw p hp
  ·rw[List.mem_singleton.1 hw]at hp;obtain⟨q,hq,rfl⟩:=List.mem_map.1 hp;exact zgk (hd.names q hq)
def zj0(h:GoodSt s last)(hl:last<=d.day)(ht:zb9 s d=(s',0)):GoodSt s' d.day:=by
 have h:=h.later hl;unfold zb9 at ht;split at ht
 ·simp at ht
 split at ht
 ·simp at ht
 simp only[Prod.mk.injEq,and_true]at ht;rw[<-ht];exact {h with}
def zmP(h:GoodSt s last)(hd:OkD d)(hl:last<=d.day)(hk:d.kind=7)(ht:zdt s d=(s',0)):GoodSt s' d.day:=by
 have h:=h.later hl;unfold zdt at ht;split at ht
 ·simp at ht
 split at ht
 ·simp at ht
 simp only[Prod.mk.injEq,and_true]at ht;rw[<-ht];obtain⟨h1,h2,h3⟩:=one_ne hd (.inr (.inr hk));refine {h with marr:=λm hm=>?_};rcases List.mem_append.1 hm with hm|hm
 ·exact h.marr m hm
 ·rw[List.mem_singleton.1 hm];exact⟨h2.symm,h3,h1⟩
def zmQ(h:GoodSt s last)(hd:OkD d)(hl:last<=d.day)(hk:d.kind=6)(ht:zcG s d=(s',0)):GoodSt s' d.day:=by
 have h:=h.later hl;unfold zcG at ht;split at ht
 ·simp at ht
 split at ht
 ·simp at ht
 split at ht
 ·simp at ht
 rename_i hn
 have hn:¬Desc s (zbh d) d.frm:=by simpa using hn
 simp only[Prod.mk.injEq,and_true]at ht;rw[<-ht];obtain⟨h1,h2,h3⟩:=one_ne hd (.inr (.inl hk));refine {h with acyc:=zmK h.acyc hn h2.symm,kids:=λc hc=>?_};rcases List.mem_append.1 hc with hc|hc
 ·exact h.kids c hc
 ·rw[List.mem_singleton.1 hc];exact⟨h3,h1⟩
def laws_go:∀ {l:List Law} {b:Option Int},zeV l b=0->∀x∈l,za8 16 x.num x.den=true
 |x::l,b,h,y,hy=>by
  unfold zeV at h;split at h
  ·rename_i hb
   simp[h]at hb
  ·rename_i hb
   rcases List.mem_cons.1 hy with rfl|hy
   ·unfold zhx at hb;split at hb
    ·simp at hb
    split at hb
    ·simp at hb
    ·rename_i hq
     simpa using hq
   ·exact laws_go h y hy
variable{laws:List Law}
def zfc(h:zaC laws=0)(day:Int):za8 16 (zbc laws day).num (zbc laws day).den=true:=by
 unfold zaC at h;split at h
 ·simp at h
 unfold zbc;cases hl:(laws.filter λx=>decide (x.frm<=day)).getLast? with
 |none=>decide
 |some x=>
  have hm:=List.mem_of_getLast? hl;exact laws_go h x (List.mem_filter.1 hm).1
def zmR{s:St}{n:ByteArray}{day:Int}{bz:Option Parts}:∀ {l l':List Grave} {k:Nat},zb1 s n day bz k l=some l'->l'.length=l.length/\∀(i:Nat) g',l'[i]?=some g'->∃g,l[i]?=some g/\
 (g'=g/\zdu s n day (k+i) g=false\/zdu s n day (k+i) g=true/\∃h out,bz=some h/\zb8 (zah g.holders n) h (za0 g.holders n)=some out/\g'= {g with holders:=out,died:=g.died++[n]})
 | [],l',k,h=>by
   unfold zb1 at h;cases h;exact⟨rfl,λi g' hg=>by simp at hg⟩
 |g::l,l',k,h=>by
  unfold zb1 at h;have step:∀ {r:List Grave} {g':Grave},zb1 s n day bz (k+1) l=some r->l'=g'::r->(g'=g/\zdu s n day k g=false\/zdu s n day k g=true/\∃h out,bz=some h/\zb8 (zah g.holders n) h (za0 g.holders n)=some out/\g'= {g with holders:=out,died:=g.died++[n]})->
   l'.length=(g::l).length/\∀(i:Nat) g',l'[i]?=some g'->∃x,(g::l)[i]?=some x/\(g'=x/\zdu s n day (k+i) x=false\/zdu s n day (k+i) x=true/\∃h out,bz=some h/\zb8 (zah x.holders n) h (za0 x.holders n)=some out/\g'= {x with holders:=out,died:=x.died++[n]}):=by
   intro r g' hr he hc;obtain⟨i1,i2⟩:=zmR hr;subst he;refine⟨by simp[i1],λi x hx=>?_⟩;cases i with
   |zero=>
    simp only[List.getElem?_cons_zero,Option.some.injEq]at hx;subst hx;exact⟨g,rfl,hc⟩
   |succ i=>
    obtain⟨y,y1,y2⟩:=i2 i x (by simpa using hx);exact⟨y,by simpa using y1,by rw[show k+(i+1)=k+1+i by omega];exact y2⟩
  split at h
  ·rename_i hh
   cases bz with
   |none=>simp at h
   |some hs=>
    dsimp only at h;rw[Option.bind_eq_some_iff]at h;obtain⟨out,h1,h2⟩:=h;rw[Option.map_eq_some_iff]at h2;obtain⟨r,h3,h4⟩:=h2;exact step h3 h4.symm (.inr ⟨hh,hs,out,rfl,h1,rfl⟩)
  ·rename_i hh
   rw[Option.map_eq_some_iff]at h;obtain⟨r,h3,h4⟩:=h;exact step h3 h4.symm (.inl ⟨rfl,by simpa using hh⟩)
def zmS(h:GoodSt s last)(hd:OkD d)(hl:last<=d.day)(hk:d.kind=8)(bH:zaC laws=0)(ht:zdM laws s d=(s',0)):GoodSt s' d.day:=by
 have h:=h.later hl;unfold zdM at ht;split at ht
 ·simp at ht
 split at ht
 ·simp at ht
 rename_i gs aI
 simp only[Prod.mk.injEq,and_true]at ht;rw[<-ht];obtain⟨ag,im⟩:=zmR aI;have one:∀(i:Nat) g',gs[i]?=some g'->∃g,s.graves[i]?=some g/\GoodG g'/\g'.place=g.place/\∀e,zaM g' e=true->zaM g e=true:=by
  intro i g' cr;obtain⟨g,g1,g2⟩:=im i g' cr;have bh:=h.graves g (List.mem_of_getElem? g1);rcases g2 with⟨rfl,_⟩|⟨hh,hs,out,e1,e2,rfl⟩
  ·exact⟨g',g1,bh,rfl,λ_=>id⟩
  ·unfold zdu at hh;rw[Bool.and_eq_true]at hh;have ay:zah g.holders d.frm≠0:=by simpa using hh.1
   obtain⟨k1,k2,k3⟩:=ze7 (h.wills d.frm) (zfc bH d.day) e1;exact⟨g,g1,zlu bh ay k1 k2 e2,rfl,λe=>ze9 (zdo ay)⟩
 refine {h with graves:=λx hx=>?_,force:=λa b ga gb ha hb kn e he f1 f2=>?_,dead:=λn hn=>?_}
 ·obtain⟨i,hi⟩:=List.mem_iff_getElem?.1 hx;exact(one i x hi).elim λ_ hg=>hg.2.1
 ·obtain⟨ga',a1,_,a2,a3⟩:=one a ga ha;obtain⟨gb',b1,_,b2,b3⟩:=one b gb hb;exact h.force a b ga' gb' a1 b1 (by rw[<-a2,<-b2,kn]) e he (a3 e f1) (b3 e f2)
 ·rcases List.mem_append.1 hn with hn|hn
  ·exact h.dead n hn
  ·rw[List.mem_singleton.1 hn];exact zgk (hd.frm McS)
def zhd(h:GoodSt s last)(hd:OkD d)(hl:last<=d.day)(bH:zaC laws=0)(ht:zbp laws s d=(s',0)):GoodSt s' d.day:=by
 have hk:=hd.kind;unfold zbp at ht;split at ht
 ·rename_i k;exact zmL h hd hl MeY ht
 split at ht
 ·rename_i k;exact zjz h hd hl MeY ht
 split at ht
 ·exact ziv h hl ht
 split at ht
 ·exact zmM h hl ht
 split at ht
 ·rename_i k;exact zoS h hd hl MeY ht
 split at ht
 ·exact zj0 h hl ht
 split at ht
 ·rename_i k;exact zmQ h hd hl MeY ht
 split at ht
 ·rename_i k;exact zmP h hd hl MeY ht
 ·rename_i k0 k1 k2 k3 k4 k5 k6 k7
  simp only[beq_iff_eq]at k0 k1 k2 k3 k4 k5 k6 k7;exact zmS h hd hl McS bH ht
def zbr(x:ByteArray×Rat)(l:Parts)(n:ByteArray):zah (x::l) n=if zae x.1 n then x.2 else zah l n:=by
 unfold zah;rw[List.find?_cons];split
 ·rename_i h;rw[if_pos h];rfl
 ·rename_i h;rw[if_neg MdG]
def zix{n:ByteArray}{q:Rat}:∀ {l:Parts},GoodParts l->∀m,zah (za5 l n q) m=if zae m n then zah l n+q else zah l m
 | [],_,m=>by
   unfold za5;split
   ·exact MbB
   ·rw[zbr];by_cases hs:m=n
    ·rw[if_pos (za2.2 hs.symm),if_pos (za2.2 hs)];show q=zah [] n+q;have:zah [] n=0:=rfl;grind
    ·rw[if_neg (by rw[za2];exact λe=>hs e.symm),if_neg (by rw[za2];exact hs)]
 |x::r,⟨h1,h2⟩,m=>by
  have hr:GoodParts r:=⟨(List.pairwise_cons.1 h1).2,λp hp=>h2 p MdQ⟩
  have hx:=(List.pairwise_cons.1 h1).1;unfold za5;split
  ·exact MbB
  ·split
   ·rename_i hl
    have ai:=zcJ hl;have ih:=zix (n:=n) (q:=q) hr m;rw[zbr,ih,zbr,zbr];by_cases hs:m=n
    ·subst hs;rw[if_neg (by rw[za2];exact ai),if_pos (zbV m),if_pos (zbV m),if_neg (by rw[za2];exact ai)]
    ·rw[if_neg (c:=zae m n=true) (by rw[za2];exact hs),if_neg (c:=zae m n=true) (by rw[za2];exact hs)]
   ·split
    ·rename_i hs
     have e:=za2.1 hs;rw[zbr,zbr,zbr];by_cases hm:m=n
     ·subst hm;rw[if_pos (zbV m),if_pos (zbV m),if_pos hs]
     ·rw[if_neg (by rw[za2];exact λk=>hm k.symm),if_neg Md2,if_neg (by rw[za2,e];exact λk=>hm k.symm)]
    ·rename_i hl hs
     have jP:∀p∈x::r,p.1≠n:=by
      intro p hp e;rcases List.mem_cons.1 hp with rfl|hp
      ·exact hs (za2.2 e)
      ·rcases zdx x.1 n with k|k|k
       ·exact hl k
       ·exact hs (za2.2 k)
       ·have:=zb5 k (hx p hp);rw[e,zeZ]at this;cases this
     have h0:=(zdG jP).1;rw[zbr];by_cases hm:m=n
     ·subst hm;rw[if_pos (zbV m),if_pos (zbV m),h0];grind
     ·rw[if_neg (by rw[za2];exact λk=>hm k.symm),if_neg Md2]
def zdB{n m:ByteArray}:∀ {l:Parts},zah (za0 l n) m=if zae m n then 0 else zah l m
 | []=>by
   have e:zah (za0 [] n) m=0:=rfl;have e2:zah [] m=0:=rfl;rw[e,e2];split<;>rfl
 |x::r=>by
  have ih:=zdB (n:=n) (m:=m) (l:=r);by_cases hx:x.1=n
  ·have e:za0 (x::r) n=za0 r n:=by
    unfold za0;rw[List.filter_cons,za2.2 hx];rfl
   rw[e,ih,zbr];by_cases hm:m=n
   ·rw[if_pos (za2.2 hm),if_pos (za2.2 hm)]
   ·rw[if_neg Md2,if_neg Md2,if_neg (by rw[za2,hx];exact λk=>hm k.symm)]
  ·have e:za0 (x::r) n=x::za0 r n:=by
    unfold za0;rw[List.filter_cons,zcd.2 hx];rfl
   rw[e,zbr,ih,zbr];by_cases hm:m=n
   ·rw[if_pos (c:=zae m n=true) (za2.2 hm),if_pos (c:=zae m n=true) (za2.2 hm),if_neg (by rw[za2,hm];exact hx)]
   ·rw[if_neg (c:=zae m n=true) Md2,if_neg (c:=zae m n=true) Md2]
variable{l:Parts}{p:ByteArray×Rat}
def share_mem(h:GoodParts l)(hp:p∈l):zah l p.1=p.2:=by
 induction l with
 |nil=>cases hp
 |cons x r ih=>
  obtain⟨h1,h2⟩:=h;have hr:GoodParts r:=⟨(List.pairwise_cons.1 h1).2,λp hp=>h2 p MdQ⟩
  have hx:=(List.pairwise_cons.1 h1).1;rw[zbr];rcases List.mem_cons.1 hp with rfl|hp
  ·rw[if_pos (zbV _)]
  ·rw[if_neg (by rw[za2];exact zcJ (hx p hp)),ih hr hp]
def zh0:∀(a b:List UInt8),decide (Lib.compareBytes a b<0)=Op.bytesLess a b
 | [],[]=>by simp[Lib.compareBytes,Op.bytesLess]
 | [],_::_=>by simp[Lib.compareBytes,Op.bytesLess]
 |_::_,[]=>by simp[Lib.compareBytes,Op.bytesLess]
 |a::xs,b::ys=>by
  have ih:=zh0 xs ys;unfold Lib.compareBytes Op.bytesLess;by_cases he:a=b
  ·subst he;simp[UInt8.lt_irrefl,ih]
  ·by_cases h1:a<b
   ·simp[h1]
   ·have h2:b<a:=(UInt8.lt_or_lt_of_ne he).resolve_left h1;simp[h1,h2,he]
def zgl:∀(a b:List UInt8),(Lib.compareBytes a b==0)=(a==b)
 | [],[]=>by simp[Lib.compareBytes]
 | [],_::_=>by simp[Lib.compareBytes]
 |_::_,[]=>by simp[Lib.compareBytes]
 |a::xs,b::ys=>by
  have ih:=zgl xs ys;unfold Lib.compareBytes;by_cases he:a=b
  ·subst he;simpa[UInt8.lt_irrefl]using ih
  ·by_cases h1:a<b
   ·simp[h1,he]
   ·have h2:b<a:=(UInt8.lt_or_lt_of_ne he).resolve_left h1;simp[h1,h2,he]
def cmpN(a b:ByteArray):Int:=Lib.compareBytes a.data.toList b.data.toList
def zof(a b:ByteArray):decide (cmpN a b<0)=zbn a b:=by
 unfold cmpN zbn;rw[zh0,ByteArray.toList_eq,ByteArray.toList_eq]
def cmpN_zero(a b:ByteArray):(cmpN a b==0)=zae a b:=by
 unfold cmpN zae;rw[zgl,ByteArray.toList_eq,ByteArray.toList_eq]
def AscP(l:Parts):Prop:=l.Pairwise λa b=>zbn a.1 b.1=true
variable{a b n:ByteArray}
def less_up(bL:zbn a b=true)(h:zbn a n=false):zbn b n=false:=by
 cases hb:zbn b n
 ·rfl
 ·rw[zb5 bL hb]at h;cases h
def zdP:Parts->ByteArray->Bool
 | [],_=>false
 |p::_,n=>zae p.1 n
def setP:Parts->ByteArray->Rat->Parts
 | [],n,q=>if q==0 then[]else[(n,q)]
 |p::r,n,q=>if zbn p.1 n then p::setP r n q else if zae p.1 n then(if q==0 then r else(n,q)::r)else if q==0 then p::r else(n,q)::p::r
def zet{n:ByteArray}{q:Rat}:∀ {A B:Parts},(∀p∈A,zbn p.1 n=true)->setP (A++B) n q=A++setP B n q
 | [],B,_=>rfl
 |a::A,B,h=>by
  rw[List.cons_append,setP,if_pos (h a McV),zet λp hp=>h p MdQ];rfl
def zgm(h:zbn a b=true):zae a b=false:=zcd.2 (zcJ h)
def zfS{n:ByteArray}:∀ {A B:Parts},(∀p∈A,zbn p.1 n=true)->zah (A++B) n=zah B n
 | [],B,_=>rfl
 |a::A,B,h=>by
  rw[List.cons_append,zbr,zgm (h a McV),if_neg McV,zfS λp hp=>h p MdQ]
def zhK{A B:Parts}(h:AscP (A++B)):AscP B:=(List.pairwise_append.1 h).2.1
def zog:∀ {B:Parts},(∀p∈B,zbn p.1 n=false)->AscP B->zdP B n=false->zah B n=0
 | [],_,_,_=>rfl
 |b::B,h,ha,hh=>by
  have lE:=List.pairwise_cons.1 ha;have hb:b.1≠n:=zcd.1 hh;have dl:zbn n b.1=true:=by
   rcases zdx b.1 n with h1|h1|h1
   ·rw[h b McV]at h1;cases h1
   ·exact absurd h1 hb
   ·exact h1
  exact(zdG λp hp=>by
   rcases List.mem_cons.1 hp with rfl|hp
   ·exact hb
   ·exact(zcJ (zb5 dl (lE.1 p hp))).symm).1
def zfT{n:ByteArray}{q:Rat}:∀ {A B:Parts},(∀p∈A,zbn p.1 n=true)->za5 (A++B) n q=A++za5 B n q
 | [],B,_=>rfl
 |a::A,B,h=>by
  rw[List.cons_append,za5];by_cases hq:q==0
  ·rw[if_pos hq];have:za5 B n q=B:=by
    cases B with
    |nil=>simp[za5,hq]
    |cons b B=>simp[za5,hq]
   rw[this];rfl
  ·rw[if_neg hq,if_pos (h a McV),zfT λp hp=>h p MdQ];rfl
def zhL(l:Parts)(h:AscP l)(n:ByteArray):∃A B,l=A++B/\(∀p∈A,zbn p.1 n=true)/\(∀p∈B,zbn p.1 n=false):=by
 induction l with
 |nil=>exact⟨[],[],rfl,by simp,by simp⟩
 |cons p l ih=>
  have hp:=List.pairwise_cons.1 h;cases hl:zbn p.1 n
  ·refine⟨[],p::l,rfl,by simp,λx hx=>?_⟩;rcases List.mem_cons.1 hx with rfl|hx
   ·exact hl
   ·exact less_up (hp.1 x hx) hl
  ·obtain⟨A,B,rfl,h1,h2⟩:=ih hp.2;refine⟨p::A,B,rfl,λx hx=>?_,h2⟩;rcases List.mem_cons.1 hx with rfl|hx
   ·exact hl
   ·exact h1 x hx
variable{q:Rat}
def ziy(h:GoodParts l)(hq:0<=q):setP l n (zah l n+q)=za5 l n q:=by
 obtain⟨A,B,rfl,h1,h2⟩:=zhL l h.1 n;rw[zet h1,zfS h1,zfT h1];congr 1
 have hB:=zhK h.1;cases B with
 |nil=>
  show(if(0:Rat)+q==0 then[]else[(n,0+q)])=if q==0 then[]else[(n,q)];rw[Rat.zero_add]
 |cons b B=>
  have hb:=h2 b McV;have KP:0<b.2:=h.2 b McV;cases hs:zae b.1 n
  ·have h0:zah (b::B) n=0:=zog h2 hB hs;rw[h0,Rat.zero_add,setP,za5,hb,hs];simp
  ·rw[zbr,hs,if_pos rfl,setP,za5,hb,hs];have ai:(b.2+q==0)=false:=by
    rw[beq_eq_false_iff_ne];intro e;grind
   rw[ai];by_cases hz:q==0
   ·have:q=0:=by simpa using hz
    subst this;have ip:b.1=n:=za2.1 hs;simp[Rat.add_zero,<-ip]
   ·simp[hz]
def zhM(h:AscP l)(n:ByteArray):setP l n 0=za0 l n:=by
 obtain⟨A,B,rfl,h1,h2⟩:=zhL l h n;rw[zet h1];unfold za0;rw[List.filter_append,List.filter_eq_self.2 λp hp=>by rw[zgm (h1 p hp)];rfl];congr 1
 have hB:=zhK h;cases B with
 |nil=>rfl
 |cons b B=>
  have hb:=h2 b McV;have cA:=List.pairwise_cons.1 hB;rw[setP,hb];cases hs:zae b.1 n
  ·have dl:zbn n b.1=true:=by
    rcases zdx b.1 n with h3|h3|h3
    ·rw[hb]at h3;cases h3
    ·exact absurd h3 (zcd.1 hs)
    ·exact h3
   have e:(b::B).filter (λp=>!zae p.1 n)=b::B:=List.filter_eq_self.2 λp hp=>by
    rcases List.mem_cons.1 hp with rfl|hp
    ·rw[hs];rfl
    ·rw[zcd.2 (zcJ (zb5 dl (cA.1 p hp))).symm];rfl
   rw[e];simp
  ·have ip:b.1=n:=za2.1 hs;have e:(b::B).filter (λp=>!zae p.1 n)=B:=by
    rw[List.filter_cons,hs,if_neg McV];exact List.filter_eq_self.2 λp hp=>by rw[zcd.2 (ip▸(zcJ (cA.1 p hp)).symm)];rfl
   rw[e];simp
def ziz(h:AscP l)(n:ByteArray)(q:Rat):setP l n q=if q==0 then za0 l n else za5 (za0 l n) n q:=by
 by_cases hq:q==0
 ·rw[if_pos hq];have:q=0:=by simpa using hq
  rw[this];exact zhM h n
 ·rw[if_neg hq];obtain⟨A,B,rfl,h1,h2⟩:=zhL l h n;rw[zet h1];have hA:za0 (A++B) n=A++za0 B n:=by
   unfold za0;rw[List.filter_append,List.filter_eq_self.2 λp hp=>by rw[zgm (h1 p hp)];rfl]
  rw[hA,zfT h1];congr 1
  have hB:=zhK h;rw[<-zhM hB n];cases B with
  |nil=>simp[setP,za5,hq]
  |cons b B=>
   have hb:=h2 b McV;have cA:=List.pairwise_cons.1 hB;have eT:(q==0)=false:=by simpa using hq
   have e0:setP (b::B) n 0=if zae b.1 n then B else b::B:=by rw[setP,hb];simp
   have e1:setP (b::B) n q=if zae b.1 n then(n,q)::B else(n,q)::b::B:=by rw[setP,hb,eT];simp
   rw[e0,e1];cases hs:zae b.1 n
   ·simp only[Bool.false_eq_true,if_false];rw[za5,eT,hb,hs];simp
   ·have ip:b.1=n:=za2.1 hs;simp only[if_true];cases B with
    |nil=>rw[za5,eT];simp
    |cons c B=>
     have hc:zbn n c.1=true:=ip▸cA.1 c McV;rw[za5,eT,zjH hc,zcd.2 (zcJ hc).symm];simp
def zk0{n:ByteArray}{q:Rat}:∀ {l:Parts} {p:ByteArray×Rat},p∈setP l n q->p=(n,q)\/p∈l
 | [],p,h=>by
   unfold setP at h;split at h
   ·simp at h
   ·exact .inl MdG
 |x::l,p,h=>by
  unfold setP at h;split at h
  ·rcases List.mem_cons.1 h with rfl|h
   ·exact .inr McV
   ·rcases zk0 h with h|h
    ·exact .inl h
    ·exact .inr (by simp[h])
  ·split at h
   ·split at h
    ·exact .inr (by simp[h])
    ·rcases List.mem_cons.1 h with rfl|h
     ·exact .inl rfl
     ·exact .inr (by simp[h])
   ·split at h
    ·exact .inr h
    ·rcases List.mem_cons.1 h with rfl|h
     ·exact .inl rfl
     ·exact .inr h
def set_asc(h:AscP l)(n:ByteArray)(q:Rat):AscP (setP l n q):=by
 obtain⟨A,B,rfl,h1,h2⟩:=zhL l h n;rw[zet h1];obtain⟨hA,hB,uf⟩:=List.pairwise_append.1 h;have eQ:∀b∈B,zae b.1 n=false->zbn n b.1=true:=λb hb hs=>by
  rcases zdx b.1 n with h3|h3|h3
  ·rw[h2 b hb]at h3;cases h3
  ·exact absurd h3 (zcd.1 hs)
  ·exact h3
 cases B with
 |nil=>
  rw[setP];split
  ·rw[List.append_nil];exact hA
  ·exact List.pairwise_append.2 ⟨hA,List.pairwise_singleton _ _,λa ha b hb=>by
    rw[List.mem_singleton.1 hb];exact h1 a ha⟩
 |cons b B=>
  have cA:=List.pairwise_cons.1 hB;rw[setP,h2 b McV,if_neg McV];cases hs:zae b.1 n
  ·rw[if_neg McV];split
   ·exact h
   ·refine List.pairwise_append.2 ⟨hA,List.pairwise_cons.2 ⟨λx hx=>?_,hB⟩,λa ha x hx=>?_⟩
    ·rcases List.mem_cons.1 hx with rfl|hx
     ·exact eQ _ McV hs
     ·exact zb5 (eQ b McV hs) (cA.1 x hx)
    ·rcases List.mem_cons.1 hx with rfl|hx
     ·exact h1 a ha
     ·exact uf a ha x hx
  ·have ip:b.1=n:=za2.1 hs;rw[if_pos rfl];split
   ·exact List.pairwise_append.2 ⟨hA,cA.2,λa ha x hx=>uf a ha x MeC⟩
   ·refine List.pairwise_append.2 ⟨hA,List.pairwise_cons.2 ⟨λx hx=>?_,cA.2⟩,λa ha x hx=>?_⟩
    ·exact ip▸cA.1 x hx
    ·rcases List.mem_cons.1 hx with rfl|hx
     ·exact h1 a ha
     ·exact uf a ha x MeC
variable{y:Int}
def zdy(h:0<=y):zeW y=y/4-y/100+y/400:=by
 unfold zeW;rw[Int.tdiv_eq_ediv_of_nonneg h,Int.tdiv_eq_ediv_of_nonneg h,Int.tdiv_eq_ediv_of_nonneg h]
def zoh(h:0<=y):zgT y=((y%4==0&&y%100 != 0)||y%400==0):=by
 unfold zgT;rw[Int.tmod_eq_emod_of_nonneg h,Int.tmod_eq_emod_of_nonneg h,Int.tmod_eq_emod_of_nonneg h]
def leapQ(y:Int):Bool:=y.tmod 4==0&&(y.tmod 100 != 0||y.tmod 400==0)
def leapQ_eq(h:0<=y):leapQ y=zgT y:=by
 rw[zoh h];unfold leapQ;rw[Int.tmod_eq_emod_of_nonneg h,Int.tmod_eq_emod_of_nonneg h,Int.tmod_eq_emod_of_nonneg h,Bool.eq_iff_iff];simp only[Bool.and_eq_true,Bool.or_eq_true,beq_iff_eq,bne_iff_ne];omega
def begP(y:Int):Int:=365*(y-1800)+zeW (y-1)-436
def zbC(y:Int):zaD y 1=begP y:=by
 unfold zaD begP;simp[ze3]
def beg_up(h:1800<=y):begP (y+1)=begP y+365+(if zgT y then 1 else 0):=by
 unfold begP;rw[zdy McS,zdy McS,zoh McS];have e:y+1-1=y:=McS;rw[e];split
 ·exact MbW
 ·exact MbW
variable{day:Int}
def beg_low(h0:0<=day)(h1:day<=200000):begP (1800+day.tdiv 366)<=day:=by
 unfold begP;rw[Int.tdiv_eq_ediv_of_nonneg h0,zdy McS];omega
def zoi(h0:0<=day)(h1:day<=200000):day<begP (1800+day.tdiv 366+10+1):=by
 unfold begP;rw[Int.tdiv_eq_ediv_of_nonneg h0,zdy McS];omega
variable{m:Nat}
def zoj(y:Int)(h1:1<=m)(h2:m<=12):za7 y m=if(m:Int)==2&&zgT y then 29 else[31,28,31,30,31,30,31,31,30,31,30,31].getD (m-1) 0:=by
 unfold za7;have:m=1\/m=2\/m=3\/m=4\/m=5\/m=6\/m=7\/m=8\/m=9\/m=10\/m=11\/m=12:=by omega
 rcases this with rfl|rfl|rfl|rfl|rfl|rfl|rfl|rfl|rfl|rfl|rfl|rfl<;>rfl
def zdC(y:Int)(h1:1<=m)(h2:m<=12):28<=za7 y m/\za7 y m<=31:=by
 rw[zoj y h1 h2];have:m=1\/m=2\/m=3\/m=4\/m=5\/m=6\/m=7\/m=8\/m=9\/m=10\/m=11\/m=12:=by omega
 rcases this with rfl|rfl|rfl|rfl|rfl|rfl|rfl|rfl|rfl|rfl|rfl|rfl<;>simp<;>split<;>simp
def zf6(y:Int)(h:1<=m):zaD y (m+1)=zaD y m+za7 y m:=by
 obtain⟨k,rfl⟩:∃k,m=k+1:=⟨m-1,by omega⟩
 unfold zaD;simp only[Nat.add_sub_cancel,ze3];have:((k+1:Nat):Int)=(k:Int)+1:=by omega
 rw[this];omega
def zjN(h:1800<=y):zaD (y+1) 1=zaD y 12+za7 y 12:=by
 rw[zbC,beg_up h,<-zbC,show(12:Int)=((12:Nat):Int) by rfl,<-zf6 y McS];unfold zaD;have e:ze3 y (12+1-1)=365+(if zgT y then 1 else 0):=by
  simp only[ze3,za7,lensP];cases zgT y<;>simp
 rw[e];simp[ze3];omega
structure DateIs (day y:Int) (m:Nat):Prop where
 y0:1800<=y
 y1:y<=2400
 m0:1<=m
 m1:m<=12
 lo:zaD y m<=day
 hi:day<zaD y m+za7 y m
variable{f:Nat}
def zlx(h:zaD (y+1) 1<=day):zep day (f+1) y=zep day f (y+1):=by
 rw[zep,if_pos MdG]
def zly(h:¬zaD (y+1) 1<=day):∀f,zep day f y=y
 |0=>rfl
 |f+1=>by rw[zep,if_neg MdG]
def zjO(hm:m<12)(h:zaD y (m+1)<=day):zdn day y (f+1) m=zdn day y f (m+1):=by
 rw[zdn,if_pos (by simp[hm,h])]
def zjP(h:¬(m<12/\zaD y (m+1)<=day)):∀f,zdn day y f m=m
 |0=>rfl
 |f+1=>by rw[zdn,if_neg MdG]
def zbi(q:Rat):Rat:=if bigQ q then 0 else q
def zgn(q:Rat):bigQ (zbi q)=false:=by
 unfold zbi;cases h:bigQ q
 ·simpa using h
 ·simp[bigQ]
def zcw(h:0<=q):0<=zbi q:=by
 unfold zbi;split
 ·exact Rat.le_refl
 ·exact h
def zhe(h:0<=q):zbi q<=q:=by
 unfold zbi;split
 ·exact h
 ·exact Rat.le_refl
def zfd(h:bigQ q=false):zbi q=q:=by simp[zbi,h]
def zfe(own:Rat)(p:ByteArray×Rat)(x:Parts×Bool):Parts×Bool:=
 (setP x.1 p.1 (zbi (zah x.1 p.1+zbi (own*p.2))),x.2||bigQ (own*p.2)||bigQ (zah x.1 p.1+zbi (own*p.2)))
def zei(own:Rat):Parts->Parts×Bool->Parts×Bool
 | [],x=>x
 |p::l,x=>zei own l (zfe own p x)
def zff(own:Rat):∀(a b:Parts) (x:Parts×Bool),zei own (a++b) x=zei own b (zei own a x)
 | [],_,_=>rfl
 |p::a,b,x=>zff own a b _
def zfg{own:Rat}:∀ {l:Parts} {x:Parts×Bool},x.2=true->(zei own l x).2=true
 | [],_,h=>h
 |p::l,x,h=>zfg (l:=l) (by simp[zfe,h])
def zhN(h:GoodParts l)(hq:0<=q):GoodParts (setP l n q):=by
 by_cases h0:q=0
 ·subst h0;rw[zhM h.asc];exact zbJ h
 ·refine⟨set_asc h.asc n q,λp hp=>?_⟩;rcases zk0 hp with rfl|hp
  ·show 0<q;grind
  ·exact h.pos p hp
def zmT(h:GoodParts l)(n:ByteArray)(q:Rat):sumQ (setP l n q)=sumQ l-zah l n+q:=by
 have hw:=zci (n:=n) h;rw[ziz h.asc];by_cases hq:q==0
 ·rw[if_pos hq];have:q=0:=by simpa using hq
  subst this;grind
 ·rw[if_neg hq,zbW];grind
def zeu(h:zaE l=false)(hq:bigQ q=false):zaE (setP l n q)=false:=by
 unfold zaE at*;rw[List.any_eq_false]at*;intro p hp;rcases zk0 hp with rfl|hp
 ·simpa using hq
 ·exact h p hp
def zi0{n:ByteArray}{q:Rat}:∀ {l:Parts},(setP l n q).length<=l.length+1
 | []=>by unfold setP;split<;>simp
 |x::l=>by
  unfold setP;have:=zi0 (n:=n) (q:=q) (l:=l);split
  ·simpa using this
  ·split
   ·split<;>simp<;>omega
   ·split<;>simp
def zcN(n:ByteArray)(h:zaE l=false):bigQ (zah l n)=false:=by
 unfold zah;cases hf:l.find? (λp=>zae p.1 n)with
 |none=>simp[bigQ]
 |some p=>
  unfold zaE at h;rw[List.any_eq_false]at h;simpa using h p (List.mem_of_find?_eq_some hf)
def zdz(h:GoodParts l)(n:ByteArray):zah l n<=sumQ l:=by
 have h1:=zci (n:=n) h;have h2:=zbq (l:=za0 l n) λp hp=>by have:=(zbJ h (n:=n)).pos p hp;grind
 grind
def zca(h0:0<=q)(h1:q<=1)(hb:bigQ q=false):zaJ q:=by
 unfold bigQ at hb;have hd:=q.den_pos;have bM:(q.den:Int)<=1000000000:=by simpa using hb
 rw[Rat.le_iff]at h0 h1;have h2:0<=q.num:=MdX;have h3:q.num<=(q.den:Int):=Mdp;exact⟨by omega,by omega⟩
structure Bd (out:Parts) (t:Rat):Prop where
 good:GoodParts out
 small:zaE out=false
 le:sumQ out<=t
variable{out:Parts}{t:Rat}
def Bd.share(h:Bd out t)(ht:t<=1)(n:ByteArray):zaJ (zah out n):=
 zca (zbA h.good n) (by have:=zdz h.good n;have:=h.le;grind) (zcN n h.small)
variable{g:Rat}
def Bd.set(h:Bd out t)(n:ByteArray)(hg:0<=g):Bd (setP out n (zbi (zah out n+g))) (t+g):=by
 have hs:=zbA h.good n;have h1:0<=zah out n+g:=Mdl;refine⟨zhN h.good (zcw h1),zeu h.small (zgn _),?_⟩;rw[zmT h.good];have:=zhe h1;have:=h.le;grind
def Bd.gain{own:Rat}{f:Bool}(h:Bd out t)(ho:0<=own)(hp:0<=p.2):Bd (zfe own p (out,f)).1 (t+own*p.2):=by
 have hm:0<=own*p.2:=Rat.mul_nonneg ho hp;have h1:=h.set p.1 (zcw hm);have h2:=zhe hm;exact⟨h1.good,h1.small,by have:=h1.le;grind [zfe]⟩
def zok(h:GoodParts out)(hg:0<=g)(hb:bigQ (zah out n+g)=false):setP out n (zbi (zah out n+g))=za5 out n g:=by
 rw[zfd hb,ziy h hg]
def zlz{n:ByteArray}{q:Rat}:∀ {l:Parts},GoodParts l->0<q->(n,zah l n+q)∈za5 l n q
 | [],_,hq=>by
   have:(q==0)=false:=by rw[beq_eq_false_iff_ne];grind
   simp[za5,this,zah,Rat.zero_add]
 |x::l,h,hq=>by
  have fO:(q==0)=false:=by rw[beq_eq_false_iff_ne];grind
  have ht:GoodParts l:=⟨(List.pairwise_cons.1 h.asc).2,λp hp=>h.pos p MdQ⟩
  rw[za5,fO];cases hl:zbn x.1 n
  ·cases hs:zae x.1 n
   ·have ae:zbn n x.1=true:=by
     rcases zdx x.1 n with h1|h1|h1
     ·rw[hl]at h1;cases h1
     ·exact absurd h1 (zcd.1 hs)
     ·exact h1
    have h0:zah (x::l) n=0:=(zdG λp hp=>by
     rcases List.mem_cons.1 hp with rfl|hp
     ·exact(zcJ ae).symm
     ·exact(zcJ (zb5 ae ((List.pairwise_cons.1 h.asc).1 p hp))).symm).1
    simp[h0,Rat.zero_add]
   ·rw[zbr,hs];simp
  ·rw[zbr,zgm hl];simp only[Bool.false_eq_true,if_false,if_true];exact List.mem_cons_of_mem _ (zlz ht hq)
def zfh(h:GoodParts out)(hs:zaE out=false)(hg:0<=g):zaE (za5 out n g)=bigQ (zah out n+g):=by
 by_cases h0:g=0
 ·subst h0;have:za5 out n 0=out:=by cases out<;>simp[za5]
  rw[this,hs,Rat.add_zero,zcN n hs]
 ·cases hb:bigQ (zah out n+g)
  ·rw[<-ziy h hg];exact zeu hs hb
  ·unfold zaE;rw[List.any_eq_true];exact⟨_,zlz h Mdl,hb⟩
def zi1{own:Rat}(ho:0<=own):∀ {l out:Parts},(∀p∈l,0<=p.2)->GoodParts out->zaE out=false->
 (∀o,zb8 own l out=some o->zei own l (out,false)=(o,false))/\(zb8 own l out=none->(zei own l (out,false)).2=true)
 | [],out,_,_,_=>by
   refine⟨λo h=>?_,λh=>?_⟩
   ·rw[zb8]at h;cases h;rfl
   ·rw[zb8]at h;cases h
 |p::l,out,hp,hg,hs=>by
  have hm:0<=own*p.2:=Rat.mul_nonneg ho (hp p McV);rw[zb8];show(∀o,_=_->zei own l (zfe own p (out,false))=_)/\(_->(zei own l (zfe own p (out,false))).2=true);cases h1:bigQ (own*p.2)
  ·have dR:zbi (own*p.2)=own*p.2:=zfd h1;have bQ:=zfh hg hs (n:=p.1) hm;rw[if_neg McV];cases h2:bigQ (zah out p.1+own*p.2)
   ·have e:zfe own p (out,false)=(za5 out p.1 (own*p.2),false):=by
     unfold zfe;simp only[dR,h1,h2,Bool.or_self];rw[zok hg hm h2]
    rw[bQ,h2,if_neg McV,e];exact zi1 ho (λq hq=>hp q Md7) (zby hm hg) (by rw[bQ,h2])
   ·rw[bQ,h2,if_pos rfl];refine⟨λo h=>by(cases h),λ_=>zfg ?_⟩;simp[zfe,dR,h2]
  ·rw[if_pos rfl];refine⟨λo h=>by(cases h),λ_=>zfg ?_⟩;simp[zfe,h1]
def zmU{own:Rat}(ho:0<=own):∀ {l out:Parts} {f:Bool} {t:Rat},(∀p∈l,0<=p.2)->Bd out t->Bd (zei own l (out,f)).1 (t+own*sumQ l)
 | [],out,f,t,_,h=>by
   show Bd out (t+own*0);rw[Rat.mul_zero,Rat.add_zero];exact h
 |p::l,out,f,t,hp,h=>by
  have h1:=zmU ho (l:=l) (f:=(zfe own p (out,f)).2) (λq hq=>hp q Md7) (h.gain (f:=f) ho (hp p McV));have e:t+own*p.2+own*sumQ l=t+own*sumQ (p::l):=by rw[sumQ];grind
  rw[e]at h1;exact h1
def zcx(hs:Parts)(frm:ByteArray)(tl:Parts):Parts×Bool:=
 zei (zah hs frm) tl (setP hs frm (zbi (zah hs frm*(1-sumQ tl))),bigQ (zah hs frm*(1-sumQ tl)))
def zk1{hs tl:Parts}{frm:ByteArray}(hg:GoodParts hs)(hl:zaE hs=false)(hp:∀p∈tl,0<=p.2)(h1:sumQ tl<=1):
 (if bigQ (zah hs frm*(1-sumQ tl))then none else zb8 (zah hs frm) tl (za5 (za0 hs frm) frm (zah hs frm*(1-sumQ tl))))=if(zcx hs frm tl).2 then none else some (zcx hs frm tl).1:=by
 have ho:=zbA hg frm;have hk:0<=zah hs frm*(1-sumQ tl):=Rat.mul_nonneg ho Mdl;unfold zcx;cases hb:bigQ (zah hs frm*(1-sumQ tl))
 ·rw[zfd hb,if_neg McV];have e:setP hs frm (zah hs frm*(1-sumQ tl))=za5 (za0 hs frm) frm (zah hs frm*(1-sumQ tl)):=by
   rw[ziz hg.asc];split
   ·rename_i h0
    have:zah hs frm*(1-sumQ tl)=0:=by simpa using h0
    rw[this];cases za0 hs frm<;>simp[za5]
   ·rfl
  have aI:=zhN hg (n:=frm) hk;have tw:=zeu (n:=frm) hl hb;obtain⟨g1,g2⟩:=zi1 ho hp aI tw;rw[e]at g1 g2⊢;cases hx:zb8 (zah hs frm) tl (za5 (za0 hs frm) frm (zah hs frm*(1-sumQ tl)))with
  |none=>rw[g2 hx,if_pos rfl]
  |some o=>rw[g1 o hx,if_neg McV]
 ·rw[if_pos rfl,zfg rfl,if_pos rfl]
