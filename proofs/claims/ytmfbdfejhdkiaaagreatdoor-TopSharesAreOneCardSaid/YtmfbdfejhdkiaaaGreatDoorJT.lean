/- Plain: shares behind a setting; the heirs' map and the parts that it stands for. -/
import Derived.Test.YtmfbdfejhdkiaaaGreatDoorNA
import Derived.Test.YtmfbdfejhdkiaaaGreatDoorJ6
set_option linter.all false
set_option maxRecDepth 100000
set_option maxHeartbeats 4000000
namespace Go.Proofs.YtmfbdfejhdkiaaaGreatDoor
open Go.RowKit
attribute [local go_sem] World.cell?_alloc_mark zae za4 zao za8 zav zaw zax zay zaz za0 za1
attribute [local go_sem] zap zac
theorem name_one{d:Deed}(h:d.to.length=1):∃p,d.to=[p]/\zbh d=p.name:=by
 match hd:d.to,h with
 | [p],_=>exact⟨p,rfl,by unfold zbh;rw[hd];rfl⟩
theorem one_ne{d:Deed}(hd:OkD d)(h:d.kind=5\/d.kind=6\/d.kind=7):noB (zbh d)=false/\zbh d≠d.frm/\noB d.frm=false:=by
 obtain⟨h1,h2⟩:=hd.one h;obtain⟨p,hp,hn⟩:=name_one h1;have kG:=hd.names p (by rw[hp];simp);rw[hn];refine⟨zgu kG,?_,zgu (hd.frm Mcq)⟩;unfold zcA at h2;simp only[Bool.and_eq_true,List.all_eq_true,Bool.not_eq_true']at h2;exact zci.1 (h2.1.2 p (by rw[hp];simp))
theorem zfZ(s:St)(f:ByteArray)(l:Parts)(n:ByteArray):zbx {s with wills:=s.wills++[(f,l)]} n=if zaf f n then l else zbx s n:=by
 unfold zbx;rw[List.reverse_append,List.reverse_singleton,List.singleton_append,List.find?_cons];split
 ·rename_i h
  rw[if_pos h];rfl
 ·rename_i h
  rw[if_neg Mdn]
theorem zor{s s':St}{d:Deed}{last:Int}(h:GoodSt s last)(hd:OkD d)(hl:last<=d.day)(hk:d.kind=4)(ht:zgZ s d=(s',0)):GoodSt s' d.day:=by
 have h:=h.later hl;unfold zgZ at ht;split at ht
 ·simp at ht
 simp only[Prod.mk.injEq,and_true]at ht;rw[<-ht];obtain⟨fP,yE⟩:=hd.parts (.inr (.inr hk));refine {h with wills:=fun n=>?_,willNames:=fun w hw p hp=>?_}
 ·rw[zfZ];split
  ·exact zj5 yE
  ·exact h.wills n
 ·rcases List.mem_append.1 hw with hw|hw
  ·exact h.willNames w hw p hp
  ·rw[List.mem_singleton.1 hw]at hp;obtain⟨q,hq,rfl⟩:=List.mem_map.1 hp;exact zgu (hd.names q hq)
theorem zjm{s s':St}{d:Deed}{last:Int}(h:GoodSt s last)(hl:last<=d.day)(ht:zb6 s d=(s',0)):GoodSt s' d.day:=by
 have h:=h.later hl;unfold zb6 at ht;split at ht
 ·simp at ht
 split at ht
 ·simp at ht
 simp only[Prod.mk.injEq,and_true]at ht;rw[<-ht];exact {h with}
theorem zmz{s s':St}{d:Deed}{last:Int}(h:GoodSt s last)(hd:OkD d)(hl:last<=d.day)(hk:d.kind=7)(ht:zdu s d=(s',0)):GoodSt s' d.day:=by
 have h:=h.later hl;unfold zdu at ht;split at ht
 ·simp at ht
 split at ht
 ·simp at ht
 simp only[Prod.mk.injEq,and_true]at ht;rw[<-ht];obtain⟨h1,h2,h3⟩:=one_ne hd (.inr (.inr hk));refine {h with marr:=fun m hm=>?_};rcases List.mem_append.1 hm with hm|hm
 ·exact h.marr m hm
 ·rw[List.mem_singleton.1 hm];exact⟨h2.symm,h3,h1⟩
theorem zm0{s s':St}{d:Deed}{last:Int}(h:GoodSt s last)(hd:OkD d)(hl:last<=d.day)(hk:d.kind=6)(ht:zcD s d=(s',0)):GoodSt s' d.day:=by
 have h:=h.later hl;unfold zcD at ht;split at ht
 ·simp at ht
 split at ht
 ·simp at ht
 split at ht
 ·simp at ht
 rename_i hn
 have hn:¬Desc s (zbh d) d.frm:=by simpa using hn
 simp only[Prod.mk.injEq,and_true]at ht;rw[<-ht];obtain⟨h1,h2,h3⟩:=one_ne hd (.inr (.inl hk));refine {h with acyc:=zmw h.acyc hn h2.symm,kids:=fun c hc=>?_};rcases List.mem_append.1 hc with hc|hc
 ·exact h.kids c hc
 ·rw[List.mem_singleton.1 hc];exact⟨h3,h1⟩
theorem laws_go:∀ {l:List Law} {b:Option Int},zeX l b=0->∀x∈l,zaA 16 x.num x.den=true
 |x::l,b,h,y,hy=>by
  unfold zeX at h;split at h
  ·rename_i hb
   simp[h]at hb
  ·rename_i hb
   rcases List.mem_cons.1 hy with rfl|hy
   ·unfold zhx at hb;split at hb
    ·simp at hb
    split at hb
    ·simp at hb
    ·rename_i hq
     simpa using hq
   ·exact laws_go h y hy
theorem zfc{laws:List Law}(h:za9 laws=0)(day:Int):zaA 16 (zbc laws day).num (zbc laws day).den=true:=by
 unfold za9 at h;split at h
 ·simp at h
 unfold zbc;cases hl:(laws.filter fun x=>decide (x.frm<=day)).getLast? with
 |none=>decide
 |some x=>
  have hm:=List.mem_of_getLast? hl;exact laws_go h x (List.mem_filter.1 hm).1
theorem zm1{s:St}{n:ByteArray}{day:Int}{bz:Option Parts}:∀ {l l':List Grave} {k:Nat},zb2 s n day bz k l=some l'->l'.length=l.length/\∀(i:Nat) g',l'[i]?=some g'->∃g,l[i]?=some g/\
 (g'=g/\zdv s n day (k+i) g=false\/zdv s n day (k+i) g=true/\∃h out,bz=some h/\zb5 (zag g.holders n) h (zar g.holders n)=some out/\g'= {g with holders:=out,died:=g.died++[n]})
 | [],l',k,h=>by
   unfold zb2 at h;cases h;exact⟨rfl,fun i g' hg=>by simp at hg⟩
 |g::l,l',k,h=>by
  unfold zb2 at h;have step:∀ {r:List Grave} {g':Grave},zb2 s n day bz (k+1) l=some r->l'=g'::r->(g'=g/\zdv s n day k g=false\/zdv s n day k g=true/\∃h out,bz=some h/\zb5 (zag g.holders n) h (zar g.holders n)=some out/\g'= {g with holders:=out,died:=g.died++[n]})->
   l'.length=(g::l).length/\∀(i:Nat) g',l'[i]?=some g'->∃x,(g::l)[i]?=some x/\(g'=x/\zdv s n day (k+i) x=false\/zdv s n day (k+i) x=true/\∃h out,bz=some h/\zb5 (zag x.holders n) h (zar x.holders n)=some out/\g'= {x with holders:=out,died:=x.died++[n]}):=by
   intro r g' hr he hc;obtain⟨i1,i2⟩:=zm1 hr;subst he;refine⟨by simp[i1],fun i x hx=>?_⟩;cases i with
   |zero=>
    simp only[List.getElem?_cons_zero,Option.some.injEq]at hx;subst hx;exact⟨g,rfl,hc⟩
   |succ i=>
    obtain⟨y,y1,y2⟩:=i2 i x (by simpa using hx);exact⟨y,by simpa using y1,by rw[show k+(i+1)=k+1+i by omega];exact y2⟩
  split at h
  ·rename_i hh
   cases bz with
   |none=>simp at h
   |some hs=>
    dsimp only at h;rw[Option.bind_eq_some_iff]at h;obtain⟨out,h1,h2⟩:=h;rw[Option.map_eq_some_iff]at h2;obtain⟨r,h3,h4⟩:=h2;exact step h3 h4.symm (.inr ⟨hh,hs,out,rfl,h1,rfl⟩)
  ·rename_i hh
   rw[Option.map_eq_some_iff]at h;obtain⟨r,h3,h4⟩:=h;exact step h3 h4.symm (.inl ⟨rfl,by simpa using hh⟩)
theorem zm2{laws:List Law}{s s':St}{d:Deed}{last:Int}(h:GoodSt s last)(hd:OkD d)(hl:last<=d.day)(hk:d.kind=8)(bc:za9 laws=0)(ht:zdP laws s d=(s',0)):GoodSt s' d.day:=by
 have h:=h.later hl;unfold zdP at ht;split at ht
 ·simp at ht
 split at ht
 ·simp at ht
 rename_i gs aD
 simp only[Prod.mk.injEq,and_true]at ht;rw[<-ht];obtain⟨ae,i7⟩:=zm1 aD;have one:∀(i:Nat) g',gs[i]?=some g'->∃g,s.graves[i]?=some g/\GoodG g'/\g'.place=g.place/\∀e,zaO g' e=true->zaO g e=true:=by
  intro i g' iv;obtain⟨g,g1,g2⟩:=i7 i g' iv;have bl:=h.graves g (List.mem_of_getElem? g1);rcases g2 with⟨rfl,_⟩|⟨hh,hs,out,e1,e2,rfl⟩
  ·exact⟨g',g1,bl,rfl,fun _=>id⟩
  ·unfold zdv at hh;rw[Bool.and_eq_true]at hh;have aw:zag g.holders d.frm≠0:=by simpa using hh.1
   obtain⟨k1,k2,k3⟩:=ze5 (h.wills d.frm) (zfc bc d.day) e1;exact⟨g,g1,zle bl aw k1 k2 e2,rfl,fun e=>ze6 (zdm aw)⟩
 refine {h with graves:=fun x hx=>?_,force:=fun a b ga gb ha hb kI e he f1 f2=>?_,dead:=fun n hn=>?_}
 ·obtain⟨i,hi⟩:=List.mem_iff_getElem?.1 hx;exact(one i x hi).elim fun _ hg=>hg.2.1
 ·obtain⟨ga',a1,_,a2,a3⟩:=one a ga ha;obtain⟨gb',b1,_,b2,b3⟩:=one b gb hb;exact h.force a b ga' gb' a1 b1 (by rw[<-a2,<-b2,kI]) e he (a3 e f1) (b3 e f2)
 ·rcases List.mem_append.1 hn with hn|hn
  ·exact h.dead n hn
  ·rw[List.mem_singleton.1 hn];exact zgu (hd.frm Mcq)
theorem zf6{laws:List Law}{s s':St}{d:Deed}{last:Int}(h:GoodSt s last)(hd:OkD d)(hl:last<=d.day)(bc:za9 laws=0)(ht:zbk laws s d=(s',0)):GoodSt s' d.day:=by
 have hk:=hd.kind;unfold zbk at ht;split at ht
 ·rename_i k;exact zmx h hd hl MeB ht
 split at ht
 ·rename_i k;exact zjl h hd hl MeB ht
 split at ht
 ·exact zim h hl ht
 split at ht
 ·exact zmy h hl ht
 split at ht
 ·rename_i k;exact zor h hd hl MeB ht
 split at ht
 ·exact zjm h hl ht
 split at ht
 ·rename_i k;exact zm0 h hd hl MeB ht
 split at ht
 ·rename_i k;exact zmz h hd hl MeB ht
 ·rename_i k0 k1 k2 k3 k4 k5 k6 k7
  simp only[beq_iff_eq]at k0 k1 k2 k3 k4 k5 k6 k7;exact zm2 h hd hl Mcq bc ht
theorem zbv(x:ByteArray×Rat)(l:Parts)(n:ByteArray):zag (x::l) n=if zaf x.1 n then x.2 else zag l n:=by
 unfold zag;rw[List.find?_cons];split
 ·rename_i h;rw[if_pos h];rfl
 ·rename_i h;rw[if_neg Mdn]
theorem zio{n:ByteArray}{q:Rat}:∀ {l:Parts},GoodParts l->∀m,zag (za5 l n q) m=if zaf m n then zag l n+q else zag l m
 | [],_,m=>by
   unfold za5;split
   ·exact Mbi
   ·rw[zbv];by_cases hs:m=n
    ·rw[if_pos (za3.2 hs.symm),if_pos (za3.2 hs)];show q=zag [] n+q;have:zag [] n=0:=rfl;grind
    ·rw[if_neg (by rw[za3];exact fun e=>hs e.symm),if_neg (by rw[za3];exact hs)]
 |x::r,⟨h1,h2⟩,m=>by
  have hr:GoodParts r:=⟨(List.pairwise_cons.1 h1).2,fun p hp=>h2 p Mds⟩
  have hx:=(List.pairwise_cons.1 h1).1;unfold za5;split
  ·exact Mbi
  ·split
   ·rename_i hl
    have ag:=zcJ hl;have ih:=zio (n:=n) (q:=q) hr m;rw[zbv,ih,zbv,zbv];by_cases hs:m=n
    ·subst hs;rw[if_neg (by rw[za3];exact ag),if_pos (zce m),if_pos (zce m),if_neg (by rw[za3];exact ag)]
    ·rw[if_neg (c:=zaf m n=true) (by rw[za3];exact hs),if_neg (c:=zaf m n=true) (by rw[za3];exact hs)]
   ·split
    ·rename_i hs
     have e:=za3.1 hs;rw[zbv,zbv,zbv];by_cases hm:m=n
     ·subst hm;rw[if_pos (zce m),if_pos (zce m),if_pos hs]
     ·rw[if_neg (by rw[za3];exact fun k=>hm k.symm),if_neg MdB,if_neg (by rw[za3,e];exact fun k=>hm k.symm)]
    ·rename_i hl hs
     have jC:∀p∈x::r,p.1≠n:=by
      intro p hp e;rcases List.mem_cons.1 hp with rfl|hp
      ·exact hs (za3.2 e)
      ·rcases zdx x.1 n with k|k|k
       ·exact hl k
       ·exact hs (za3.2 k)
       ·have:=zb3 k (hx p hp);rw[e,zfa]at this;cases this
     have h0:=(zdM jC).1;rw[zbv];by_cases hm:m=n
     ·subst hm;rw[if_pos (zce m),if_pos (zce m),h0];grind
     ·rw[if_neg (by rw[za3];exact fun k=>hm k.symm),if_neg MdB]
theorem zdH{n m:ByteArray}:∀ {l:Parts},zag (zar l n) m=if zaf m n then 0 else zag l m
 | []=>by
   have e:zag (zar [] n) m=0:=rfl;have e2:zag [] m=0:=rfl;rw[e,e2];split<;>rfl
 |x::r=>by
  have ih:=zdH (n:=n) (m:=m) (l:=r);by_cases hx:x.1=n
  ·have e:zar (x::r) n=zar r n:=by
    unfold zar;rw[List.filter_cons,za3.2 hx];rfl
   rw[e,ih,zbv];by_cases hm:m=n
   ·rw[if_pos (za3.2 hm),if_pos (za3.2 hm)]
   ·rw[if_neg MdB,if_neg MdB,if_neg (by rw[za3,hx];exact fun k=>hm k.symm)]
  ·have e:zar (x::r) n=x::zar r n:=by
    unfold zar;rw[List.filter_cons,zci.2 hx];rfl
   rw[e,zbv,ih,zbv];by_cases hm:m=n
   ·rw[if_pos (c:=zaf m n=true) (za3.2 hm),if_pos (c:=zaf m n=true) (za3.2 hm),if_neg (by rw[za3,hm];exact hx)]
   ·rw[if_neg (c:=zaf m n=true) MdB,if_neg (c:=zaf m n=true) MdB]
theorem share_mem{l:Parts}(h:GoodParts l){p:ByteArray×Rat}(hp:p∈l):zag l p.1=p.2:=by
 induction l with
 |nil=>cases hp
 |cons x r ih=>
  obtain⟨h1,h2⟩:=h;have hr:GoodParts r:=⟨(List.pairwise_cons.1 h1).2,fun p hp=>h2 p Mds⟩
  have hx:=(List.pairwise_cons.1 h1).1;rw[zbv];rcases List.mem_cons.1 hp with rfl|hp
  ·rw[if_pos (zce _)]
  ·rw[if_neg (by rw[za3];exact zcJ (hx p hp)),ih hr hp]
theorem zh0:∀(a b:List UInt8),decide (Lib.compareBytes a b<0)=Op.bytesLess a b
 | [],[]=>by simp[Lib.compareBytes,Op.bytesLess]
 | [],_::_=>by simp[Lib.compareBytes,Op.bytesLess]
 |_::_,[]=>by simp[Lib.compareBytes,Op.bytesLess]
 |a::xs,b::ys=>by
  have ih:=zh0 xs ys;unfold Lib.compareBytes Op.bytesLess;by_cases he:a=b
  ·subst he;simp[UInt8.lt_irrefl,ih]
  ·by_cases h1:a<b
   ·simp[h1]
   ·have h2:b<a:=(UInt8.lt_or_lt_of_ne he).resolve_left h1;simp[h1,h2,he]
theorem zgw:∀(a b:List UInt8),(Lib.compareBytes a b==0)=(a==b)
 | [],[]=>by simp[Lib.compareBytes]
 | [],_::_=>by simp[Lib.compareBytes]
 |_::_,[]=>by simp[Lib.compareBytes]
 |a::xs,b::ys=>by
  have ih:=zgw xs ys;unfold Lib.compareBytes;by_cases he:a=b
  ·subst he;simpa[UInt8.lt_irrefl]using ih
  ·by_cases h1:a<b
   ·simp[h1,he]
   ·have h2:b<a:=(UInt8.lt_or_lt_of_ne he).resolve_left h1;simp[h1,h2,he]
def cmpN(a b:ByteArray):Int:=Lib.compareBytes a.data.toList b.data.toList
theorem znC(a b:ByteArray):decide (cmpN a b<0)=zbr a b:=by
 unfold cmpN zbr;rw[zh0,ByteArray.toList_eq,ByteArray.toList_eq]
theorem cmpN_zero(a b:ByteArray):(cmpN a b==0)=zaf a b:=by
 unfold cmpN zaf;rw[zgw,ByteArray.toList_eq,ByteArray.toList_eq]
def AscP(l:Parts):Prop:=l.Pairwise fun a b=>zbr a.1 b.1=true
theorem less_up{a b n:ByteArray}(cH:zbr a b=true)(h:zbr a n=false):zbr b n=false:=by
 cases hb:zbr b n
 ·rfl
 ·rw[zb3 cH hb]at h;cases h
def zdU:Parts->ByteArray->Bool
 | [],_=>false
 |p::_,n=>zaf p.1 n
def setP:Parts->ByteArray->Rat->Parts
 | [],n,q=>if q==0 then[]else[(n,q)]
 |p::r,n,q=>if zbr p.1 n then p::setP r n q else if zaf p.1 n then(if q==0 then r else(n,q)::r)else if q==0 then p::r else(n,q)::p::r
theorem zes{n:ByteArray}{q:Rat}:∀ {A B:Parts},(∀p∈A,zbr p.1 n=true)->setP (A++B) n q=A++setP B n q
 | [],B,_=>rfl
 |a::A,B,h=>by
  rw[List.cons_append,setP,if_pos (h a Mcv),zes fun p hp=>h p Mds];rfl
theorem zgx{a b:ByteArray}(h:zbr a b=true):zaf a b=false:=zci.2 (zcJ h)
theorem zga{n:ByteArray}:∀ {A B:Parts},(∀p∈A,zbr p.1 n=true)->zag (A++B) n=zag B n
 | [],B,_=>rfl
 |a::A,B,h=>by
  rw[List.cons_append,zbv,zgx (h a Mcv),if_neg Mcv,zga fun p hp=>h p Mds]
theorem zhH{A B:Parts}(h:AscP (A++B)):AscP B:=(List.pairwise_append.1 h).2.1
theorem znD{n:ByteArray}:∀ {B:Parts},(∀p∈B,zbr p.1 n=false)->AscP B->zdU B n=false->zag B n=0
 | [],_,_,_=>rfl
 |b::B,h,ha,hh=>by
  have l9:=List.pairwise_cons.1 ha;have hb:b.1≠n:=zci.1 hh;have df:zbr n b.1=true:=by
   rcases zdx b.1 n with h1|h1|h1
   ·rw[h b Mcv]at h1;cases h1
   ·exact absurd h1 hb
   ·exact h1
  exact(zdM fun p hp=>by
   rcases List.mem_cons.1 hp with rfl|hp
   ·exact hb
   ·exact(zcJ (zb3 df (l9.1 p hp))).symm).1
theorem zgb{n:ByteArray}{q:Rat}:∀ {A B:Parts},(∀p∈A,zbr p.1 n=true)->za5 (A++B) n q=A++za5 B n q
 | [],B,_=>rfl
 |a::A,B,h=>by
  rw[List.cons_append,za5];by_cases hq:q==0
  ·rw[if_pos hq];have:za5 B n q=B:=by
    cases B with
    |nil=>simp[za5,hq]
    |cons b B=>simp[za5,hq]
   rw[this];rfl
  ·rw[if_neg hq,if_pos (h a Mcv),zgb fun p hp=>h p Mds];rfl
theorem zhI(l:Parts)(h:AscP l)(n:ByteArray):∃A B,l=A++B/\(∀p∈A,zbr p.1 n=true)/\(∀p∈B,zbr p.1 n=false):=by
 induction l with
 |nil=>exact⟨[],[],rfl,by simp,by simp⟩
 |cons p l ih=>
  have hp:=List.pairwise_cons.1 h;cases hl:zbr p.1 n
  ·refine⟨[],p::l,rfl,by simp,fun x hx=>?_⟩;rcases List.mem_cons.1 hx with rfl|hx
   ·exact hl
   ·exact less_up (hp.1 x hx) hl
  ·obtain⟨A,B,rfl,h1,h2⟩:=ih hp.2;refine⟨p::A,B,rfl,fun x hx=>?_,h2⟩;rcases List.mem_cons.1 hx with rfl|hx
   ·exact hl
   ·exact h1 x hx
theorem zip{l:Parts}(h:GoodParts l){n:ByteArray}{q:Rat}(hq:0<=q):setP l n (zag l n+q)=za5 l n q:=by
 obtain⟨A,B,rfl,h1,h2⟩:=zhI l h.1 n;rw[zes h1,zga h1,zgb h1];congr 1
 have hB:=zhH h.1;cases B with
 |nil=>
  show(if(0:Rat)+q==0 then[]else[(n,0+q)])=if q==0 then[]else[(n,q)];rw[Rat.zero_add]
 |cons b B=>
  have hb:=h2 b Mcv;have L4:0<b.2:=h.2 b Mcv;cases hs:zaf b.1 n
  ·have h0:zag (b::B) n=0:=znD h2 hB hs;rw[h0,Rat.zero_add,setP,za5,hb,hs];simp
  ·rw[zbv,hs,if_pos rfl,setP,za5,hb,hs];have ag:(b.2+q==0)=false:=by
    rw[beq_eq_false_iff_ne];intro e;grind
   rw[ag];by_cases hz:q==0
   ·have:q=0:=by simpa using hz
    subst this;have i8:b.1=n:=za3.1 hs;simp[Rat.add_zero,<-i8]
   ·simp[hz]
theorem zhJ{l:Parts}(h:AscP l)(n:ByteArray):setP l n 0=zar l n:=by
 obtain⟨A,B,rfl,h1,h2⟩:=zhI l h n;rw[zes h1];unfold zar;rw[List.filter_append,List.filter_eq_self.2 fun p hp=>by rw[zgx (h1 p hp)];rfl];congr 1
 have hB:=zhH h;cases B with
 |nil=>rfl
 |cons b B=>
  have hb:=h2 b Mcv;have cI:=List.pairwise_cons.1 hB;rw[setP,hb];cases hs:zaf b.1 n
  ·have df:zbr n b.1=true:=by
    rcases zdx b.1 n with h3|h3|h3
    ·rw[hb]at h3;cases h3
    ·exact absurd h3 (zci.1 hs)
    ·exact h3
   have e:(b::B).filter (fun p=>!zaf p.1 n)=b::B:=List.filter_eq_self.2 fun p hp=>by
    rcases List.mem_cons.1 hp with rfl|hp
    ·rw[hs];rfl
    ·rw[zci.2 (zcJ (zb3 df (cI.1 p hp))).symm];rfl
   rw[e];simp
  ·have i8:b.1=n:=za3.1 hs;have e:(b::B).filter (fun p=>!zaf p.1 n)=B:=by
    rw[List.filter_cons,hs,if_neg Mcv];exact List.filter_eq_self.2 fun p hp=>by rw[zci.2 (i8▸(zcJ (cI.1 p hp)).symm)];rfl
   rw[e];simp
theorem ziq{l:Parts}(h:AscP l)(n:ByteArray)(q:Rat):setP l n q=if q==0 then zar l n else za5 (zar l n) n q:=by
 by_cases hq:q==0
 ·rw[if_pos hq];have:q=0:=by simpa using hq
  rw[this];exact zhJ h n
 ·rw[if_neg hq];obtain⟨A,B,rfl,h1,h2⟩:=zhI l h n;rw[zes h1];have hA:zar (A++B) n=A++zar B n:=by
   unfold zar;rw[List.filter_append,List.filter_eq_self.2 fun p hp=>by rw[zgx (h1 p hp)];rfl]
  rw[hA,zgb h1];congr 1
  have hB:=zhH h;rw[<-zhJ hB n];cases B with
  |nil=>simp[setP,za5,hq]
  |cons b B=>
   have hb:=h2 b Mcv;have cI:=List.pairwise_cons.1 hB;have gV:(q==0)=false:=by simpa using hq
   have e0:setP (b::B) n 0=if zaf b.1 n then B else b::B:=by rw[setP,hb];simp
   have e1:setP (b::B) n q=if zaf b.1 n then(n,q)::B else(n,q)::b::B:=by rw[setP,hb,gV];simp
   rw[e0,e1];cases hs:zaf b.1 n
   ·simp only[Bool.false_eq_true,if_false];rw[za5,gV,hb,hs];simp
   ·have i8:b.1=n:=za3.1 hs;simp only[if_true];cases B with
    |nil=>rw[za5,gV];simp
    |cons c B=>
     have hc:zbr n c.1=true:=i8▸cI.1 c Mcv;rw[za5,gV,zj3 hc,zci.2 (zcJ hc).symm];simp
theorem zki{n:ByteArray}{q:Rat}:∀ {l:Parts} {p:ByteArray×Rat},p∈setP l n q->p=(n,q)\/p∈l
 | [],p,h=>by
   unfold setP at h;split at h
   ·simp at h
   ·exact .inl Mdn
 |x::l,p,h=>by
  unfold setP at h;split at h
  ·rcases List.mem_cons.1 h with rfl|h
   ·exact .inr Mcv
   ·rcases zki h with h|h
    ·exact .inl h
    ·exact .inr (by simp[h])
  ·split at h
   ·split at h
    ·exact .inr (by simp[h])
    ·rcases List.mem_cons.1 h with rfl|h
     ·exact .inl rfl
     ·exact .inr (by simp[h])
   ·split at h
    ·exact .inr h
    ·rcases List.mem_cons.1 h with rfl|h
     ·exact .inl rfl
     ·exact .inr h
theorem set_asc{l:Parts}(h:AscP l)(n:ByteArray)(q:Rat):AscP (setP l n q):=by
 obtain⟨A,B,rfl,h1,h2⟩:=zhI l h n;rw[zes h1];obtain⟨hA,hB,ud⟩:=List.pairwise_append.1 h;have dD:∀b∈B,zaf b.1 n=false->zbr n b.1=true:=fun b hb hs=>by
  rcases zdx b.1 n with h3|h3|h3
  ·rw[h2 b hb]at h3;cases h3
  ·exact absurd h3 (zci.1 hs)
  ·exact h3
 cases B with
 |nil=>
  rw[setP];split
  ·rw[List.append_nil];exact hA
  ·exact List.pairwise_append.2 ⟨hA,List.pairwise_singleton _ _,fun a ha b hb=>by
    rw[List.mem_singleton.1 hb];exact h1 a ha⟩
 |cons b B=>
  have cI:=List.pairwise_cons.1 hB;rw[setP,h2 b Mcv,if_neg Mcv];cases hs:zaf b.1 n
  ·rw[if_neg Mcv];split
   ·exact h
   ·refine List.pairwise_append.2 ⟨hA,List.pairwise_cons.2 ⟨fun x hx=>?_,hB⟩,fun a ha x hx=>?_⟩
    ·rcases List.mem_cons.1 hx with rfl|hx
     ·exact dD _ Mcv hs
     ·exact zb3 (dD b Mcv hs) (cI.1 x hx)
    ·rcases List.mem_cons.1 hx with rfl|hx
     ·exact h1 a ha
     ·exact ud a ha x hx
  ·have i8:b.1=n:=za3.1 hs;rw[if_pos rfl];split
   ·exact List.pairwise_append.2 ⟨hA,cI.2,fun a ha x hx=>ud a ha x Mdl⟩
   ·refine List.pairwise_append.2 ⟨hA,List.pairwise_cons.2 ⟨fun x hx=>?_,cI.2⟩,fun a ha x hx=>?_⟩
    ·exact i8▸cI.1 x hx
    ·rcases List.mem_cons.1 hx with rfl|hx
     ·exact h1 a ha
     ·exact ud a ha x Mdl
structure Found (s:St) (nm:ByteArray) (out xs:List ByteArray):Prop where
 nd:out.Nodup
 desc:∀n∈out,Desc s nm n
 from':∀x∈xs,x=nm\/x∈out
 seen:∀x,(x=nm\/x∈out)->x∈xs\/∀c∈zaj s x,c∈out
structure Look (s:St) (nm x:ByteArray) (j:Nat) (out xs:List ByteArray):Prop where
 nd:out.Nodup
 desc:∀n∈out,Desc s nm n
 from':∀x∈xs,x=nm\/x∈out
 seen:∀y,(y=nm\/y∈out)->y∈xs\/y=x\/∀c∈zaj s y,c∈out
 mine:x=nm\/x∈out
 done:∀c∈(zaj s x).take j,c∈out
theorem zm3(s:St)(nm:ByteArray):Found s nm [] [nm]:=⟨List.nodup_nil,by simp,by simp,fun x hx=> .inl (by simpa using hx)⟩
theorem found_pop{s:St}{nm x:ByteArray}{out xs:List ByteArray}(h:Found s nm out (x::xs)):Look s nm x 0 out xs:=
 ⟨h.nd,h.desc,fun y hy=>h.from' y (by simp[hy]),fun y hy=>by
   rcases h.seen y hy with h1|h1
   ·rcases List.mem_cons.1 h1 with rfl|h1
    ·exact .inr (.inl rfl)
    ·exact .inl h1
   ·exact .inr (.inr h1),h.from' x Mcv,by simp⟩
theorem look_end{s:St}{nm x:ByteArray}{out xs:List ByteArray}(h:Look s nm x (zaj s x).length out xs):Found s nm out xs:=
 ⟨h.nd,h.desc,h.from',fun y hy=>by
   rcases h.seen y hy with h1|rfl|h1
   ·exact .inl h1
   ·exact .inr fun c hc=>h.done c Mdt
   ·exact .inr h1⟩
theorem look_old{s:St}{nm x:ByteArray}{j:Nat}{out xs:List ByteArray}(h:Look s nm x j out xs)(hj:j<(zaj s x).length)(hc:(zaj s x)[j]∈out):Look s nm x (j+1) out xs:=
 ⟨h.nd,h.desc,h.from',h.seen,h.mine,fun c aI=>by
   rw[List.take_succ_eq_append_getElem hj]at aI;rcases List.mem_append.1 aI with h1|h1
   ·exact h.done c h1
   ·rw[List.mem_singleton.1 h1];exact hc⟩
theorem znE{s:St}{nm x:ByteArray}{j:Nat}{out xs:List ByteArray}(h:Look s nm x j out xs)(hj:j<(zaj s x).length)(hc:(zaj s x)[j]∉out):Look s nm x (j+1) (out++[(zaj s x)[j]]) (xs++[(zaj s x)[j]]):=by
 have bh:(zaj s x)[j]∈zaj s x:=List.getElem_mem _;refine⟨?_,fun n hn=>?_,fun y hy=>?_,fun y hy=>?_,?_,fun c aI=>?_⟩
 ·exact List.nodup_append.2 ⟨h.nd,by simp,fun a ha b hb e=>by rw[List.mem_singleton.1 hb]at e;exact hc (e▸ha)⟩
 ·rcases List.mem_append.1 hn with h1|h1
  ·exact h.desc n h1
  ·rw[List.mem_singleton.1 h1];rcases h.mine with rfl|hm
   ·exact zf2 bh
   ·exact zid (h.desc x hm) bh
 ·rcases List.mem_append.1 hy with h1|h1
  ·rcases h.from' y h1 with h2|h2
   ·exact .inl h2
   ·exact .inr (by simp[h2])
  ·exact .inr (by simp[List.mem_singleton.1 h1])
 ·rcases hy with hy|hy
  ·rcases h.seen y (.inl hy)with h1|h1|h1
   ·exact .inl (by simp[h1])
   ·exact .inr (.inl h1)
   ·exact .inr (.inr fun c hc=>by simp[h1 c hc])
  ·rcases List.mem_append.1 hy with h1|h1
   ·rcases h.seen y (.inr h1)with h2|h2|h2
    ·exact .inl (by simp[h2])
    ·exact .inr (.inl h2)
    ·exact .inr (.inr fun c hc=>by simp[h2 c hc])
   ·exact .inl (by simp[List.mem_singleton.1 h1])
 ·rcases h.mine with h1|h1
  ·exact .inl h1
  ·exact .inr (by simp[h1])
 ·rw[List.take_succ_eq_append_getElem hj]at aI;rcases List.mem_append.1 aI with h1|h1
  ·simp[h.done c h1]
  ·simp[List.mem_singleton.1 h1]
theorem found_end{s:St}{nm:ByteArray}{out:List ByteArray}(h:Found s nm out []):∀n,n∈out↔Desc s nm n:=fun n=>by
 refine⟨h.desc n,fun hd=>zic (out:=fun x=>x∈out) ?_ ?_ hd⟩
 ·intro c hc;rcases h.seen nm (.inl rfl)with h1|h1
  ·simp at h1
  ·exact h1 c hc
 ·intro x hx c hc;rcases h.seen x (.inr hx)with h1|h1
  ·simp at h1
  ·exact h1 c hc
theorem zkj{α:Type}[DecidableEq α]:∀ {a b:List α},a.Nodup->(∀x∈a,x∈b)->a.length<=b.length
 | [],_,_,_=>Nat.zero_le _
 |x::a,b,h,hs=>by
  have h':=List.nodup_cons.1 h;have hx:x∈b:=hs x Mcv;have h1:a.length<=(b.erase x).length:=zkj h'.2 fun y hy=>by
   have ag:y≠x:=fun e=>h'.1 (e▸hy)
   exact(List.mem_erase_of_ne ag).2 (hs y (by simp[hy]))
  have h2:=List.length_erase_of_mem hx;have h3:0<b.length:=List.length_pos_of_mem hx;simp only[List.length_cons];omega
theorem out_few{s:St}{nm:ByteArray}{out:List ByteArray}(hn:out.Nodup)(hd:∀n∈out,Desc s nm n):out.length<=s.children.length:=by
 have jD:∀n∈out,n∈s.children.map (·.2):=fun n LV=>by
  have:∃y,(y,n)∈s.children:=by
   cases hd n LV with
   |single h=>exact⟨nm,zdw.1 h⟩
   |tail _ h=>exact⟨_,zdw.1 h⟩
  obtain⟨y,hy⟩:=this;exact List.mem_map.2 ⟨(y,n),hy,rfl⟩
 haveI:DecidableEq ByteArray:=fun a b=>Classical.propDecidable _
 have:=zkj hn jD;simpa using this
theorem zdy{y:Int}(h:0<=y):zeY y=y/4-y/100+y/400:=by
 unfold zeY;rw[Int.tdiv_eq_ediv_of_nonneg h,Int.tdiv_eq_ediv_of_nonneg h,Int.tdiv_eq_ediv_of_nonneg h]
theorem znF{y:Int}(h:0<=y):zgY y=((y%4==0&&y%100 != 0)||y%400==0):=by
 unfold zgY;rw[Int.tmod_eq_emod_of_nonneg h,Int.tmod_eq_emod_of_nonneg h,Int.tmod_eq_emod_of_nonneg h]
def leapQ(y:Int):Bool:=y.tmod 4==0&&(y.tmod 100 != 0||y.tmod 400==0)
theorem leapQ_eq{y:Int}(h:0<=y):leapQ y=zgY y:=by
 rw[znF h];unfold leapQ;rw[Int.tmod_eq_emod_of_nonneg h,Int.tmod_eq_emod_of_nonneg h,Int.tmod_eq_emod_of_nonneg h,Bool.eq_iff_iff];simp only[Bool.and_eq_true,Bool.or_eq_true,beq_iff_eq,bne_iff_ne];omega
def begP(y:Int):Int:=365*(y-1800)+zeY (y-1)-436
theorem zb9(y:Int):zaI y 1=begP y:=by
 unfold zaI begP;simp[ze0]
theorem beg_up{y:Int}(h:1800<=y):begP (y+1)=begP y+365+(if zgY y then 1 else 0):=by
 unfold begP;rw[zdy Mcq,zdy Mcq,znF Mcq];have e:y+1-1=y:=Mcq;rw[e];split
 ·exact MbD
 ·exact MbD
theorem beg_low{day:Int}(h0:0<=day)(h1:day<=200000):begP (1800+day.tdiv 366)<=day:=by
 unfold begP;rw[Int.tdiv_eq_ediv_of_nonneg h0,zdy Mcq];omega
theorem znG{day:Int}(h0:0<=day)(h1:day<=200000):day<begP (1800+day.tdiv 366+10+1):=by
 unfold begP;rw[Int.tdiv_eq_ediv_of_nonneg h0,zdy Mcq];omega
theorem znH(y:Int){m:Nat}(h1:1<=m)(h2:m<=12):za7 y m=if(m:Int)==2&&zgY y then 29 else[31,28,31,30,31,30,31,31,30,31,30,31].getD (m-1) 0:=by
 unfold za7;have:m=1\/m=2\/m=3\/m=4\/m=5\/m=6\/m=7\/m=8\/m=9\/m=10\/m=11\/m=12:=by omega
 rcases this with rfl|rfl|rfl|rfl|rfl|rfl|rfl|rfl|rfl|rfl|rfl|rfl<;>rfl
theorem zdI(y:Int){m:Nat}(h1:1<=m)(h2:m<=12):28<=za7 y m/\za7 y m<=31:=by
 rw[znH y h1 h2];have:m=1\/m=2\/m=3\/m=4\/m=5\/m=6\/m=7\/m=8\/m=9\/m=10\/m=11\/m=12:=by omega
 rcases this with rfl|rfl|rfl|rfl|rfl|rfl|rfl|rfl|rfl|rfl|rfl|rfl<;>simp<;>split<;>simp
theorem zf7(y:Int){m:Nat}(h:1<=m):zaI y (m+1)=zaI y m+za7 y m:=by
 obtain⟨k,rfl⟩:∃k,m=k+1:=⟨m-1,by omega⟩
 unfold zaI;simp only[Nat.add_sub_cancel,ze0];have:((k+1:Nat):Int)=(k:Int)+1:=by omega
 rw[this];omega
theorem zj7{y:Int}(h:1800<=y):zaI (y+1) 1=zaI y 12+za7 y 12:=by
 rw[zb9,beg_up h,<-zb9,show(12:Int)=((12:Nat):Int) by rfl,<-zf7 y Mcq];unfold zaI;have e:ze0 y (12+1-1)=365+(if zgY y then 1 else 0):=by
  simp only[ze0,za7,lensP];cases zgY y<;>simp
 rw[e];simp[ze0];omega
structure DateIs (day y:Int) (m:Nat):Prop where
 y0:1800<=y
 y1:y<=2400
 m0:1<=m
 m1:m<=12
 lo:zaI y m<=day
 hi:day<zaI y m+za7 y m
theorem zlf{day:Int}{f:Nat}{y:Int}(h:zaI (y+1) 1<=day):zep day (f+1) y=zep day f (y+1):=by
 rw[zep,if_pos Mdn]
theorem zlg{day:Int}{y:Int}(h:¬zaI (y+1) 1<=day):∀f,zep day f y=y
 |0=>rfl
 |f+1=>by rw[zep,if_neg Mdn]
theorem zj8{day y:Int}{f m:Nat}(hm:m<12)(h:zaI y (m+1)<=day):zdk day y (f+1) m=zdk day y f (m+1):=by
 rw[zdk,if_pos (by simp[hm,h])]
theorem zj9{day y:Int}{m:Nat}(h:¬(m<12/\zaI y (m+1)<=day)):∀f,zdk day y f m=m
 |0=>rfl
 |f+1=>by rw[zdk,if_neg Mdn]
section
open Go.Shelf
def zgy:List Int:=[31,28,31,30,31,30,31,31,30,31,30,31]
def LensIn(w:World):Prop:=1<w.heap.size/\∀(k:Nat) (n:Int),zgy[k]?=some n->w.cell? ⟨1,k,none⟩=some (.int .i64 n)
theorem LensIn.keep{w W:World}{n:Nat}(h:LensIn w)(hB:Below n w W)(hn:w.heap.size<=n:=by first|exact Qc|omega):LensIn W:=
 ⟨Nat.lt_of_lt_of_le h.1 hB.size,fun k x hx=>(hB.cell (p:=⟨1,_,none⟩) (Nat.lt_of_lt_of_le h.1 hn)).trans (h.2 k x hx)⟩
theorem ze8(n lo hi:Int)(w:World):Calls Tryz.prog 37 #[.int .i64 n,.int .i64 lo,.int .i64 hi] w (Ret0 w (.bool (inR n lo hi))):=by
 go_enter Tryz.func37,Tryz.ntmps37
 go_wp2_with fail
 all_goals go_ret
 all_goals exact⟨by first|(simp_all[inR];done)|(simp_all[inR];omega),rfl⟩
theorem zhh(n:Int)(w:World):Calls Tryz.prog 36 #[.int .i64 n] w (Ret0 w (.bool (zbm n))):=by
 go_enter Tryz.func36,Tryz.ntmps36
 go_wp2_with (go_at_call 37;refine(ze8 _ _ _ _).mono ?_;rintro e wq ⟨rfl,rfl⟩)
 go_ret
 exact⟨rfl,rfl⟩
theorem zos(y:Int)(w:World)(h0:0<=y)(h1:y<=100000):Calls Tryz.prog 113 #[.int .i64 y] w (Ret0 w (.bool (zgY y))):=by
 rw[<-leapQ_eq h0];have w1:wrap64 (y.tmod 4)=y.tmod 4:=McR;have w2:wrap64 (y.tmod 100)=y.tmod 100:=McR;have w3:wrap64 (y.tmod 400)=y.tmod 400:=McR;have v1:IntKind.i64.wrap (y.tmod 4)=y.tmod 4:=McL;have v2:IntKind.i64.wrap (y.tmod 100)=y.tmod 100:=McL;have v3:IntKind.i64.wrap (y.tmod 400)=y.tmod 400:=McL;go_enter Tryz.func113,Tryz.ntmps113
 go_wp2_with fail
 all_goals go_ret
 all_goals exact⟨by simp[leapQ,Int.tmod_eq_emod_of_nonneg h0, *],rfl⟩
theorem zf8(y:Int)(m:Nat)(w:World)(hL:LensIn w)(h0:0<=y)(h1:y<=100000)(cM:1<=m)(fB:m<=12):Calls Tryz.prog 66 #[.int .i64 y,.int .i64 m] w (Ret0 w (.int .i64 (za7 y m))):=by
 have hd:=znH y cM fB;have aa:m-1<zgy.length:=by simp[zgy];omega
 have hc:=hL.2 (m-1) _ (List.getElem?_eq_getElem aa);have hg:zgy.getD (m-1) 0=zgy[m-1]:=Mdd;have cz:[31,28,31,30,31,30,31,31,30,31,30,31].getD (m-1) 0=zgy[m-1]:=hg;rw[cz]at hd;generalize zgy[m-1]=len at hc hd;have hw:IntKind.i64.wrap ((m:Int)-1)=(m:Int)-1:=IntWalk.i64_in _ Mcq;have ka:(0:Int)<=(m:Int)-1:=Mcq;have bD:(m:Int)-1<12:=Mcq;have dA:((m:Int)-1).toNat=m-1:=Mcq;have HD:=zHi hd;clear hd hg cz hL aa;by_cases h2:m=2
 ·subst h2;cases hl:zgY y
  ·exact MaI
  ·exact MaI
 ·have hb:((m:Int)==2)=false:=Mep;have bC:¬(m:Int)=2:=Mcq;go_enter Tryz.func66,Tryz.ntmps66
  go_wp2_with fail
  go_ret
  exact⟨by rw[HD.o,hb];simp,rfl⟩
theorem zir(y:Int)(w:World)(h0:1800<=y)(h1:y<=100000):Calls Tryz.prog 112 #[.int .i64 y] w (Ret0 w (.int .i64 (begP y))):=by
 have hp:0<=y-1:=Mcq;have e1:(y-1).tdiv 4=(y-1)/4:=Int.tdiv_eq_ediv_of_nonneg hp;have e2:(y-1).tdiv 100=(y-1)/100:=Int.tdiv_eq_ediv_of_nonneg hp;have e3:(y-1).tdiv 400=(y-1)/400:=Int.tdiv_eq_ediv_of_nonneg hp;have hv:begP y=365*(y-1800)+(y-1)/4-(y-1)/100+(y-1)/400-436:=by unfold begP;rw[zdy hp];omega
 have HV:=zHi hv;clear hv;have k0:IntKind.i64.wrap (y-1)=y-1:=IntWalk.i64_in _ Mcq;have k1:IntKind.i64.wrap (y-1800)=y-1800:=IntWalk.i64_in _ Mcq;have k2:IntKind.i64.wrap (365*(y-1800))=365*(y-1800):=IntWalk.i64_in _ Mcq;go_enter Tryz.func112,Tryz.ntmps112
 exact MbH
theorem zbV{y:Int}{m:Nat}(h0:1800<=y)(h1:y<=2500)(cM:1<=m)(fB:m<=13):0<=zaI y m/\zaI y m<=1000000:=by
 have hb:begP y=365*(y-1800)+(y-1)/4-(y-1)/100+(y-1)/400-436:=by unfold begP;rw[zdy Mcq];omega
 have h:∀k:Nat,k<=12->begP y<=zaI y (k+1)/\zaI y (k+1)<=begP y+31*k:=fun k=>by
  induction k with
  |zero=>intro _;rw[zb9];omega
  |succ k ih=>
   intro hk;have:=ih Mcq;have h2:=zf7 y (show 1<=k+1 by omega);have h3:=zdI y (show 1<=k+1 by omega) (show k+1<=12 by omega);omega
 obtain⟨k,rfl⟩:∃k,m=k+1:=⟨m-1,by omega⟩
 have:=h k Mcq;omega
theorem dayOf_any(y:Int)(m:Nat)(d:Int)(w:World)(hL:LensIn w)(h0:1800<=y)(h1:y<=2500)(cM:1<=m)(fB:m<=12)(bS:0<=d)(dM:d<=1000):
 Calls Tryz.prog 65 #[.int .i64 y,.int .i64 m,.int .i64 d] w (Ret0 w (.int .i64 (zaI y m+d-1))):=by
 have mz:=zbV (m:=1) h0 h1 Mcq Mcq;rw[zb9]at mz;have k0:IntKind.i64.wrap (begP y+d)=begP y+d:=IntWalk.i64_in _ Mcq;have k1:IntKind.i64.wrap (begP y+d-1)=begP y+d-1:=IntWalk.i64_in _ Mcq;go_enter Tryz.func65,Tryz.ntmps65
 go_wp2_with (go_at_call 112;refine(zir _ _ h0 Mcq).mono ?_;rintro e wq ⟨rfl,rfl⟩)
 go_loop [7,8] (fun n i=>∃k:Nat,1<=k/\k<=m/\i=.int .i64 k/\n=.int .i64 (zaI y k+d-1)) (fun _ i=>m-(intOf i).toNat)
 case atStart=>exact⟨1,by omega,cM,rfl,by rw[zb9]⟩
 case round=>
  obtain⟨k,fZ,sX,rfl,rfl⟩:=hrel;by_cases aa:k<m
  ·have hb:=zbV (m:=k) h0 h1 fZ Mcq;have fX:=zdI y fZ (show k<=12 by omega);have hu:=zf7 y fZ;have HU:=zHi hu;have k2:IntKind.i64.wrap (zaI y k+d-1+za7 y k)=zaI y k+d-1+za7 y k:=IntWalk.i64_in _ Mcq;have cA:(k:Int)<(m:Int):=Mcq;clear hu;go_wp2_with (go_at_call 66;refine(zf8 y k _ hL Mcq Mcq fZ Mcq).mono ?_;rintro e wq ⟨rfl,rfl⟩)
   go_round
   case rel=>exact⟨k+1,by omega,by omega,by go_num,by rw[HU.o];exact zcd Mcq⟩
   case measure=>simp[intOf];omega
  ·exact Mbk
def zm4(y m d:Int):Value:=.agg #[.int .i64 y,.int .i64 m,.int .i64 d]
theorem zlh{fn:Func}{p:Tmp}(h:fn.results= #[.cell p 117])(tmps:Array Value)(w:World)(B:Nat)(x y z:Int)(hp:tmps.getD p undef=.pointer (some ⟨B,0,none⟩))
 (h0:w.cell? ⟨B,0,none⟩=some (.int .i64 x))(h1:w.cell? ⟨B,1,none⟩=some (.int .i64 y))(h2:w.cell? ⟨B,2,none⟩=some (.int .i64 z)):(results fn tmps).run Tryz.prog w=.ok (zm4 x y z) w:=by
 rw[zdL h,hp];unfold zm4;go_simp
theorem J_set3{w:World}{g:Nat}{z0 z1 z2 a b c:Value}{t:TypeId}{fr:Nat×Nat}(h:w.heap[g]?=some (.cells #[z0,z1,z2] t fr)):(((w.setCell ⟨g,0,none⟩ a).setCell ⟨g,1,none⟩ b).setCell ⟨g,2,none⟩ c).heap[g]?=some (.cells #[a,b,c] t fr):=by
 have:=Joins.block_setCell (i:=2) (Joins.block_setCell (i:=1) (Joins.block_setCell (i:=0) h a) b) c;simpa using this
theorem zot(day:Int)(w:World)(hL:LensIn w)(h0:0<=day)(h1:day<=200000):
 Calls Tryz.prog 64 #[.int .i64 day] w (fun e w'=>DateIs day (zbN day) (zbg day)/\Ret w (zm4 (zbN day) (zbg day) (day-zaI (zbN day) (zbg day)+1)) e w'):=by
 have fN:=beg_low h0 h1;have fe:=znG h0 h1;have xq:day.tdiv 366=day/366:=Int.tdiv_eq_ediv_of_nonneg h0;have eJ:0<=day/366:=Mcq;have cN:day/366<=546:=Mcq;rw[xq]at fN fe;have zm:zbN day=zep day 10 (1800+day/366):=by unfold zbN;rw[xq]
 obtain⟨HY,HH⟩:=yH2 zm fe;clear zm fe;go_enter Tryz.func64,Tryz.ntmps64
 go_wp2_with fail
 go_loopg [] 10 (fun gg wr=>∃(f:Nat) (y:Int),f<=gg/\y+f=1800+day/366+10/\1800<=y/\y<=2400/\Hid (zbN day=zep day f y)/\Hid (begP y<=day)/\Qa w wr/\wr.heap[w.heap.size]?=some (.cells #[.int .i64 0,.int .i64 0,.int .i64 0] 117)/\wr.heap[w.heap.size+1]?=some (.cells #[.int .i64 y,.int .i64 1,.int .i64 0] 117))
 case atStart=>exact⟨10,1800+day/366,Qc,by omega,by omega,by omega,HY.o,fN,Bw,zal (zat _ _ _ rfl),zat _ _ _ Mcv⟩
 case round=>
  obtain⟨f,y,hf,NF,ly,Be,vY,fE,hB,g0,g1⟩:=hrel;have a0:wr.cell? ⟨w.heap.size+1,0,none⟩=some (.int .i64 y):=Mct;have a1:wr.cell? ⟨w.heap.size+1,1,none⟩=some (.int .i64 1):=Mct;have a2:wr.cell? ⟨w.heap.size+1,2,none⟩=some (.int .i64 0):=Mct;have z0:wr.frozen? ⟨w.heap.size+1,0,none⟩=false:=McF;have z1:wr.frozen? ⟨w.heap.size+1,1,none⟩=false:=McF;have z2:wr.frozen? ⟨w.heap.size+1,2,none⟩=false:=McF;have b0:wr.cell? ⟨w.heap.size,0,none⟩=some (.int .i64 0):=Mcr;have b1:wr.cell? ⟨w.heap.size,1,none⟩=some (.int .i64 0):=Mcr;have b2:wr.cell? ⟨w.heap.size,2,none⟩=some (.int .i64 0):=Mcr;have x0:wr.frozen? ⟨w.heap.size,0,none⟩=false:=McE;have x1:wr.frozen? ⟨w.heap.size,1,none⟩=false:=McE;have x2:wr.frozen? ⟨w.heap.size,2,none⟩=false:=McE;have e1:w.heap.size+1<wr.heap.size:=zab g1;have e0:w.heap.size<wr.heap.size:=zab g0;have hLr:=hL.keep hB;have k0:IntKind.i64.wrap (y+1)=y+1:=IntWalk.i64_in _ Mcq;by_cases hc:begP (y+1)<=day
  ·have Ay:f≠0:=by
    exact MbF
   obtain⟨f',rfl⟩:∃f',f=f'+1:=⟨f-1,by omega⟩
   have HN:Hid (zbN day=zep day f' (y+1)):=by
    show _=_;rw[vY.o,zlf Meg]
   have HC:=zHi hc;go_wp2_with (go_at_call 112;refine(zir _ _ Mcq Mcq).mono ?_;rintro e wq ⟨rfl,rfl⟩)
   exact MW
  ·have HN:Hid (zbN day=y):=by
    show _=_;rw[vY.o,zlg Meg]
   have sL:=zbV (m:=1) ly Mcq Mcq Mcq;rw[zb9]at sL;have k1:IntKind.i64.wrap (day-begP y)=day-begP y:=IntWalk.i64_in _ Mcq;have ya:zbg day=zdk day y 12 1:=by unfold zbg;rw[HN.o]
   have kU:=zHi ya;have zn:day<zaI y 12+za7 y 12:=by
    rw[<-zj7 ly,zb9];omega
   have CC:=zHi zn;have lG:=fE.o;have aj:Hid (zaI y 1<=day):=by show _<=_;rw[zb9];exact lG
   clear ya zn lG;obtain⟨G0,G1⟩:=yH2 g0 g1;go_upto_region 5 with(go_at_call 112;refine(zir _ _ Mcq Mcq).mono ?_;rintro e wq ⟨rfl,rfl⟩)
   clear a0 a1 a2 z0 z1 z2 b0 b1 b2 x0 x1 x2 g0 g1;go_loopg [0] 12 (fun gg v wm=>∃(m:Nat),1<=m/\m<=12/\12-m<=gg/\v=.int .i64 (day-zaI y m)/\Hid (zbg day=zdk day y (13-m) m)/\Hid (zaI y m<=day)/\Qa w wm/\wm.heap[w.heap.size]?=some (.cells #[.int .i64 0,.int .i64 0,.int .i64 0] 117)/\wm.heap[w.heap.size+1]?=some (.cells #[.int .i64 y,.int .i64 m,.int .i64 0] 117))
   case atStart=>exact⟨1,by omega,by omega,by omega,by rw[zb9],kU.o,aj.o,hB,G0.o,G1.o⟩
   case round=>
    obtain⟨m,cM,fB,sO,rfl,HM,rm,FS,g0,g1⟩:=hrel;have a0:wr.cell? ⟨w.heap.size+1,0,none⟩=some (.int .i64 y):=Mct;have a1:wr.cell? ⟨w.heap.size+1,1,none⟩=some (.int .i64 m):=Mct;have a2:wr.cell? ⟨w.heap.size+1,2,none⟩=some (.int .i64 0):=Mct;have z0:wr.frozen? ⟨w.heap.size+1,0,none⟩=false:=McF;have z1:wr.frozen? ⟨w.heap.size+1,1,none⟩=false:=McF;have z2:wr.frozen? ⟨w.heap.size+1,2,none⟩=false:=McF;have b0:wr.cell? ⟨w.heap.size,0,none⟩=some (.int .i64 0):=Mcr;have b1:wr.cell? ⟨w.heap.size,1,none⟩=some (.int .i64 0):=Mcr;have b2:wr.cell? ⟨w.heap.size,2,none⟩=some (.int .i64 0):=Mcr;have x0:wr.frozen? ⟨w.heap.size,0,none⟩=false:=McE;have x1:wr.frozen? ⟨w.heap.size,1,none⟩=false:=McE;have x2:wr.frozen? ⟨w.heap.size,2,none⟩=false:=McE;have e1:w.heap.size+1<wr.heap.size:=zab g1;have e0:w.heap.size<wr.heap.size:=zab g0;have Gi:=hL.keep FS;have fX:=zdI y cM fB;have oZ:=zbV (m:=m) ly Mcq cM Mcq;have hu:=zf7 y cM;have HU:=zHi hu;have dE:=rm.o;have k2:IntKind.i64.wrap (day-zaI y m-za7 y m)=day-zaI y m-za7 y m:=IntWalk.i64_in _ Mcq;have k3:IntKind.i64.wrap ((m:Int)+1)=(m:Int)+1:=IntWalk.i64_in _ Mcq;have k4:IntKind.i64.wrap (day-zaI y m+1)=day-zaI y m+1:=IntWalk.i64_in _ Mcq;by_cases d8:za7 y m<=day-zaI y m
    ·have th:m<12:=by
      rcases Nat.lt_or_ge m 12 with h|h
      ·exact h
      ·have:=CC.o;obtain rfl:m=12:=by omega
       rw[show((12:Nat):Int)=12 from rfl]at d8;omega
     have kV:Hid (zbg day=zdk day y (13-(m+1)) (m+1)):=by
      show _=_;rw[HM.o,show 13-m=(13-(m+1))+1 by omega,zj8 th (by rw[hu];omega)]
     have xT:zaI y (m+1)<=day:=by rw[hu];omega
     have fF:=zHi xT;clear hu dE xT;go_wp2_with (go_at_call 66;refine(zf8 y m _ Gi Mcq Mcq cM fB).mono ?_;rintro e wq ⟨rfl,rfl⟩)
     go_roundg (12-(m+1))
     case measure=>omega
     case rel=>
      refine⟨m+1,by omega,by omega,Qc,by rw[HU.o];exact zcd Mcq,kV,fF.o,by repeat(first|exact B_refl|exact Qb|assumption|with_reducible refine zad ?_ _|with_reducible refine zaZ ?_ _|with_reducible refine zaF ?_|with_reducible refine zeh ?_ _|with_reducible refine zaN ?_ Mdq _),J_ne Mcq g0,?_⟩;exact MbJ
    ·have kV:Hid (zbg day=m):=by
      show _=_;rw[HM.o,zj9 (by rw[hu];omega)]
     have HD:Hid (DateIs day (zbN day) (zbg day)):=by
      show DateIs _ _ _;rw[HN.o,kV.o];exact⟨ly,by omega,cM,fB,dE,by omega⟩
     clear hu dE;go_wp2_with (go_at_call 66;refine(zf8 y m _ Gi Mcq Mcq cM fB).mono ?_;rintro e wq ⟨rfl,rfl⟩)
     exact Mx
theorem zou(day mo:Int)(w:World)(hL:LensIn w)(h0:0<=day)(h1:day<=200000)(pj: -12000<=mo)(cM:mo<=12000):
 Calls Tryz.prog 38 #[.int .i64 day,.int .i64 mo] w (fun e w'=>∃n:Int,∃ok:Bool,(ok=true->zbF day mo=n/\0<=n)/\(ok=false->zbF day mo= -1)/\Ret w (.tuple #[.int .i64 n,.bool ok]) e w'):=by
 have hA:zbF day mo=if !inR ((zbN day*12+zbg day-1+mo)/12) 1800 2347 then-1 else
  if zbm (zaI ((zbN day*12+zbg day-1+mo)/12) ((zbN day*12+zbg day-1+mo)%12+1).toNat+min (day-zaI (zbN day) (zbg day)+1) (za7 ((zbN day*12+zbg day-1+mo)/12) ((zbN day*12+zbg day-1+mo)%12+1))-1)then
   zaI ((zbN day*12+zbg day-1+mo)/12) ((zbN day*12+zbg day-1+mo)%12+1).toNat+min (day-zaI (zbN day) (zbg day)+1) (za7 ((zbN day*12+zbg day-1+mo)/12) ((zbN day*12+zbg day-1+mo)%12+1))-1 else-1:=rfl
 have HA:=zHi hA;clear hA;have HD:=zHi (fun W h=>zot day W h h0 h1);generalize zbN day=y at*;generalize zbg day=m at*;generalize zbF day mo=R at*;go_enter Tryz.func38,Tryz.ntmps38
 go_upto_region 2 with(go_at_call 64;refine(HD.o _ hL).mono ?_;rintro e wq ⟨uo,rfl,z,rfl⟩;simp only[zm4])
 obtain⟨d1,d2,d3,d4,d5,d6⟩:=uo;obtain⟨f1,f2⟩:=zdI y d3 d4;obtain⟨X,hX⟩:=Qd (day-zaI y m+1)
 obtain⟨N,hN⟩:=Qd (12*y+m-1+mo)
 have tK:Hid (R=if !inR (N/12) 1800 2347 then-1 else if zbm (zaI (N/12) (N%12+1).toNat+min X (za7 (N/12) (N%12+1))-1)then zaI (N/12) (N%12+1).toNat+min X (za7 (N/12) (N%12+1))-1 else-1):=by
  show _=_;rw[HA.o,hX,hN,show y*12+(m:Int)-1+mo=12*y+m-1+mo by omega]
 have KT:1<=X:=Mcq;have sm:X<=31:=Mcq;rw[<-hX];have k1:IntKind.i64.wrap (12*y)=12*y:=IntWalk.i64_in _ Mcq;have k2:IntKind.i64.wrap (12*y+m)=12*y+m:=IntWalk.i64_in _ Mcq;have k3:IntKind.i64.wrap (12*y+m-1)=12*y+m-1:=IntWalk.i64_in _ Mcq;have k4:IntKind.i64.wrap (12*y+m-1+mo)=N:=by rw[hN];exact IntWalk.i64_in _ Mcq
 have Db: -20000<=N/\N<=100000:=Mcq;obtain⟨rX,Dc⟩:=Db;clear HA hX hN HD d5 d6 f1 f2;by_cases hN0:N<0
 ·have D8:inR (N/12) 1800 2347=false:=by simp[inR];omega
  have HR:Hid (R= -1):=by show _=_;rw[tK.o,D8];rfl
  clear D8;go_wp2_with fail
  go_ret2
  exact⟨0,false,by simp,fun _=>HR.o,Ret.of rfl Bw⟩
 ·have D8:0<=N:=Mcq;have eJ:0<=N/12:=Mcq;obtain⟨mm,fC⟩:∃mm:Nat,(mm:Int)=N%12+1:=⟨(N%12+1).toNat,by omega⟩
  have dt:1<=mm:=Mcq;have jB:mm<=12:=Mcq;have ht:(N%12+1).toNat=mm:=Mcq;have cD:Hid (R=if !inR (N/12) 1800 2347 then-1 else if zbm (zaI (N/12) mm+min X (za7 (N/12) mm)-1)then zaI (N/12) mm+min X (za7 (N/12) mm)-1 else-1):=by
   show _=_;rw[tK.o,ht,<-fC]
  have k5:IntKind.i64.wrap (N%12+1)=(mm:Int):=by rw[fC];exact IntWalk.i64_in _ Mcq
  obtain⟨Y,hY⟩:∃Y,N/12=Y:=⟨_,rfl⟩
  rw[hY]at cD;have wZ:Y<=10000:=Mcq;have cN:0<=Y:=Mcq;clear tK ht;have zJ:=zHi fC;clear fC;cases aM:inR Y 1800 2347
  ·have HR:Hid (R= -1):=MdO;go_wp2_with (go_at_call 37;refine(ze8 _ _ _ _).mono ?_;rintro e wq ⟨rfl,rfl⟩;rw[aM])
   all_goals go_ret2
   all_goals exact⟨0,false,by simp,fun _=>HR.o,Ret.of rfl Bw⟩
  ·have x8:1800<=Y/\Y<=2347:=by simpa[inR]using aM
   obtain⟨f1,f2⟩:=zdI Y dt jB;have sL:=zbV (m:=mm) x8.1 Mcq dt Mcq;have HR:Hid (R=if zbm (zaI Y mm+min X (za7 Y mm)-1)then zaI Y mm+min X (za7 Y mm)-1 else-1):=MdO;have dU:Hid (∀W,Qa w W->LensIn W):=fun W h=>hL.keep h
   clear cD hL;go_upto_region 6 with(go_at_call 37;refine(ze8 _ _ _ _).mono ?_;rintro e wq ⟨rfl,rfl⟩;rw[aM])
   obtain⟨vA,uZ⟩:=yH2 (fun W (hW:Qa w W)=>zf8 Y mm W (dU.o _ hW) cN Mcq dt jB) (fun d W (hW:Qa w W) (fW:0<=d) (bS:d<=1000)=>dayOf_any Y mm d W (dU.o _ hW) x8.1 Mcq dt jB fW bS);generalize za7 Y mm=L at*;clear sL;refine zam Mcs Mcs ?_;repeat(first|go_big_quiet_skip|(go_big_quiet_want;go_big_quiet_op;first|go_big_quiet_on|(apply Exists.intro;refine⟨fun _=>?_,?_⟩;(first|(go_at_call 66;exact zjZ (vA.o _ Bw))|(go_at_call 65;exact zjZ (uZ.o _ _ Bw Mcq Mcq)));go_big_quiet_on)))
   refine wpQuiet_nil ?_;rintro _ ⟨zq,rfl⟩;generalize hO:zaI Y mm+min X L-1=out at*;have HO:=zHi hO;clear hO vA uZ dU;cases hd:zbm out
   ·have jL:=zHi hd;go_wp2_with (go_at_call 36;refine(zhh _ _).mono ?_;rintro e wq ⟨rfl,rfl⟩;rw[hd])
    exact MbI
   ·have jL:=zHi hd;go_wp2_with (go_at_call 36;refine(zhh _ _).mono ?_;rintro e wq ⟨rfl,rfl⟩;rw[hd])
    exact Ma2
theorem zgz(day mo:Int)(w:World)(hL:LensIn w)(h0:0<=day)(h1:day<=200000)(pj:0<=mo)(cM:mo<=12000):
 Calls Tryz.prog 14 #[.int .i64 day,.int .i64 mo] w (fun e w'=>∃n er:Int,(er=0->zbF day mo=n/\0<=n)/\(er≠0->zbF day mo= -1)/\Ret w (.tuple #[.int .i64 n,.int .i64 er]) e w'):=by
 have bS:inR day 0 200000=true:=by simp[inR];omega
 have dM:inR mo (-12000) 12000=true:=by simp[inR];omega
 have HL:=zHi (zou day mo w hL h0 h1 Mcq cM);go_enter Tryz.func14,Tryz.ntmps14
 go_wp2_with (first
  |(go_at_call 36;refine(zhh _ _).mono ?_;rintro e wq ⟨rfl,rfl⟩;unfold zbm;rw[bS])
  |(go_at_call 37;refine(ze8 _ _ _ _).mono ?_;rintro e wq ⟨rfl,rfl⟩;rw[dM])
  |(go_at_call 38;refine(HL.o).mono ?_;rintro e wq ⟨n,ok,h1,h2,rfl,z,rfl⟩;obtain⟨H1,H2⟩:=yH2 h1 h2;clear h1 h2;cases ok))
 all_goals go_ret2
 all_goals first
  |exact⟨0,2,by simp,fun _=>H2.o trivial,Ret.of rfl Bw⟩
  |exact⟨n,0,fun _=>H1.o trivial,by simp,Ret.of rfl Bw⟩
theorem zjA(day ys:Int)(w:World)(hL:LensIn w)(h0:0<=day)(h1:day<=200000)(pj:0<=ys)(cM:ys<=99):
 Calls Tryz.prog 87 #[.int .i64 day,.int .i64 ys] w (Ret w (.int .i64 (zcg day ys))):=by
 have HL:=zHi (zgz day (12*ys) w hL h0 h1 Mcq Mcq);go_enter Tryz.func87,Tryz.ntmps87
 go_wp2_with (go_at_call 14;refine(HL.o).mono ?_;rintro e wq ⟨n,er,k1,k2,rfl,z,rfl⟩;obtain⟨H1,H2⟩:=yH2 k1 k2;clear k1 k2;by_cases fx:er=0)
 all_goals go_ret
 all_goals first
  |exact Ret.of (zcd (by unfold zcg;exact(H1.o (by first|trivial|exact fx)).1.symm)) Bw
  |exact Ret.of (zcd (by unfold zcg;exact(H2.o (by first|trivial|exact fx)).symm)) Bw
end
def zbi(q:Rat):Rat:=if bigQ q then 0 else q
theorem zg0(q:Rat):bigQ (zbi q)=false:=by
 unfold zbi;cases h:bigQ q
 ·simpa using h
 ·simp[bigQ]
theorem zcx{q:Rat}(h:0<=q):0<=zbi q:=by
 unfold zbi;split
 ·exact Rat.le_refl
 ·exact h
theorem zhi{q:Rat}(h:0<=q):zbi q<=q:=by
 unfold zbi;split
 ·exact h
 ·exact Rat.le_refl
theorem zfd{q:Rat}(h:bigQ q=false):zbi q=q:=by simp[zbi,h]
def zfe(own:Rat)(p:ByteArray×Rat)(x:Parts×Bool):Parts×Bool:=
 (setP x.1 p.1 (zbi (zag x.1 p.1+zbi (own*p.2))),x.2||bigQ (own*p.2)||bigQ (zag x.1 p.1+zbi (own*p.2)))
def zej(own:Rat):Parts->Parts×Bool->Parts×Bool
 | [],x=>x
 |p::l,x=>zej own l (zfe own p x)
theorem zff(own:Rat):∀(a b:Parts) (x:Parts×Bool),zej own (a++b) x=zej own b (zej own a x)
 | [],_,_=>rfl
 |p::a,b,x=>zff own a b _
theorem zfg{own:Rat}:∀ {l:Parts} {x:Parts×Bool},x.2=true->(zej own l x).2=true
 | [],_,h=>h
 |p::l,x,h=>zfg (l:=l) (by simp[zfe,h])
theorem zhK{l:Parts}(h:GoodParts l){n:ByteArray}{q:Rat}(hq:0<=q):GoodParts (setP l n q):=by
 by_cases h0:q=0
 ·subst h0;rw[zhJ h.asc];exact zbE h
 ·refine⟨set_asc h.asc n q,fun p hp=>?_⟩;rcases zki hp with rfl|hp
  ·show 0<q;grind
  ·exact h.pos p hp
theorem zm5{l:Parts}(h:GoodParts l)(n:ByteArray)(q:Rat):sumQ (setP l n q)=sumQ l-zag l n+q:=by
 have hw:=zcj (n:=n) h;rw[ziq h.asc];by_cases hq:q==0
 ·rw[if_pos hq];have:q=0:=by simpa using hq
  subst this;grind
 ·rw[if_neg hq,zbU];grind
theorem zet{l:Parts}{n:ByteArray}{q:Rat}(h:zaG l=false)(hq:bigQ q=false):zaG (setP l n q)=false:=by
 unfold zaG at*;rw[List.any_eq_false]at*;intro p hp;rcases zki hp with rfl|hp
 ·simpa using hq
 ·exact h p hp
theorem zis{n:ByteArray}{q:Rat}:∀ {l:Parts},(setP l n q).length<=l.length+1
 | []=>by unfold setP;split<;>simp
 |x::l=>by
  unfold setP;have:=zis (n:=n) (q:=q) (l:=l);split
  ·simpa using this
  ·split
   ·split<;>simp<;>omega
   ·split<;>simp
theorem zcQ{l:Parts}(n:ByteArray)(h:zaG l=false):bigQ (zag l n)=false:=by
 unfold zag;cases hf:l.find? (fun p=>zaf p.1 n)with
 |none=>simp[bigQ]
 |some p=>
  unfold zaG at h;rw[List.any_eq_false]at h;simpa using h p (List.mem_of_find?_eq_some hf)
theorem zdz{l:Parts}(h:GoodParts l)(n:ByteArray):zag l n<=sumQ l:=by
 have h1:=zcj (n:=n) h;have h2:=zbu (l:=zar l n) fun p hp=>by have:=(zbE h (n:=n)).pos p hp;grind
 grind
theorem zbZ{q:Rat}(h0:0<=q)(h1:q<=1)(hb:bigQ q=false):zaL q:=by
 unfold bigQ at hb;have hd:=q.den_pos;have bC:(q.den:Int)<=1000000000:=by simpa using hb
 rw[Rat.le_iff]at h0 h1;have h2:0<=q.num:=MdJ;have h3:q.num<=(q.den:Int):=McZ;exact⟨by omega,by omega⟩
structure Bd (out:Parts) (t:Rat):Prop where
 good:GoodParts out
 small:zaG out=false
 le:sumQ out<=t
theorem Bd.share{out:Parts}{t:Rat}(h:Bd out t)(ht:t<=1)(n:ByteArray):zaL (zag out n):=
 zbZ (zb7 h.good n) (by have:=zdz h.good n;have:=h.le;grind) (zcQ n h.small)
theorem Bd.set{out:Parts}{t g:Rat}(h:Bd out t)(n:ByteArray)(hg:0<=g):Bd (setP out n (zbi (zag out n+g))) (t+g):=by
 have hs:=zb7 h.good n;have h1:0<=zag out n+g:=McN;refine⟨zhK h.good (zcx h1),zet h.small (zg0 _),?_⟩;rw[zm5 h.good];have:=zhi h1;have:=h.le;grind
theorem Bd.gain{own:Rat}{out:Parts}{t:Rat}{p:ByteArray×Rat}{f:Bool}(h:Bd out t)(ho:0<=own)(hp:0<=p.2):Bd (zfe own p (out,f)).1 (t+own*p.2):=by
 have hm:0<=own*p.2:=Rat.mul_nonneg ho hp;have h1:=h.set p.1 (zcx hm);have h2:=zhi hm;exact⟨h1.good,h1.small,by have:=h1.le;grind [zfe]⟩
theorem znI{out:Parts}(h:GoodParts out){n:ByteArray}{g:Rat}(hg:0<=g)(hb:bigQ (zag out n+g)=false):setP out n (zbi (zag out n+g))=za5 out n g:=by
 rw[zfd hb,zip h hg]
theorem zli{n:ByteArray}{q:Rat}:∀ {l:Parts},GoodParts l->0<q->(n,zag l n+q)∈za5 l n q
 | [],_,hq=>by
   have:(q==0)=false:=by rw[beq_eq_false_iff_ne];grind
   simp[za5,this,zag,Rat.zero_add]
 |x::l,h,hq=>by
  have eJ:(q==0)=false:=by rw[beq_eq_false_iff_ne];grind
  have ht:GoodParts l:=⟨(List.pairwise_cons.1 h.asc).2,fun p hp=>h.pos p Mds⟩
  rw[za5,eJ];cases hl:zbr x.1 n
  ·cases hs:zaf x.1 n
   ·have aa:zbr n x.1=true:=by
     rcases zdx x.1 n with h1|h1|h1
     ·rw[hl]at h1;cases h1
     ·exact absurd h1 (zci.1 hs)
     ·exact h1
    have h0:zag (x::l) n=0:=(zdM fun p hp=>by
     rcases List.mem_cons.1 hp with rfl|hp
     ·exact(zcJ aa).symm
     ·exact(zcJ (zb3 aa ((List.pairwise_cons.1 h.asc).1 p hp))).symm).1
    simp[h0,Rat.zero_add]
   ·rw[zbv,hs];simp
  ·rw[zbv,zgx hl];simp only[Bool.false_eq_true,if_false,if_true];exact List.mem_cons_of_mem _ (zli ht hq)
theorem zfh{out:Parts}(h:GoodParts out)(hs:zaG out=false){n:ByteArray}{g:Rat}(hg:0<=g):zaG (za5 out n g)=bigQ (zag out n+g):=by
 by_cases h0:g=0
 ·subst h0;have:za5 out n 0=out:=by cases out<;>simp[za5]
  rw[this,hs,Rat.add_zero,zcQ n hs]
 ·cases hb:bigQ (zag out n+g)
  ·rw[<-zip h hg];exact zet hs hb
  ·unfold zaG;rw[List.any_eq_true];exact⟨_,zli h McN,hb⟩
theorem zit{own:Rat}(ho:0<=own):∀ {l out:Parts},(∀p∈l,0<=p.2)->GoodParts out->zaG out=false->
 (∀o,zb5 own l out=some o->zej own l (out,false)=(o,false))/\(zb5 own l out=none->(zej own l (out,false)).2=true)
 | [],out,_,_,_=>by
   refine⟨fun o h=>?_,fun h=>?_⟩
   ·rw[zb5]at h;cases h;rfl
   ·rw[zb5]at h;cases h
 |p::l,out,hp,hg,hs=>by
  have hm:0<=own*p.2:=Rat.mul_nonneg ho (hp p Mcv);rw[zb5];show(∀o,_=_->zej own l (zfe own p (out,false))=_)/\(_->(zej own l (zfe own p (out,false))).2=true);cases h1:bigQ (own*p.2)
  ·have dR:zbi (own*p.2)=own*p.2:=zfd h1;have cg:=zfh hg hs (n:=p.1) hm;rw[if_neg Mcv];cases h2:bigQ (zag out p.1+own*p.2)
   ·have e:zfe own p (out,false)=(za5 out p.1 (own*p.2),false):=by
     unfold zfe;simp only[dR,h1,h2,Bool.or_self];rw[znI hg hm h2]
    rw[cg,h2,if_neg Mcv,e];exact zit ho (fun q hq=>hp q MdE) (zbz hm hg) (by rw[cg,h2])
   ·rw[cg,h2,if_pos rfl];refine⟨fun o h=>by(cases h),fun _=>zfg ?_⟩;simp[zfe,dR,h2]
  ·rw[if_pos rfl];refine⟨fun o h=>by(cases h),fun _=>zfg ?_⟩;simp[zfe,h1]
theorem zm6{own:Rat}(ho:0<=own):∀ {l out:Parts} {f:Bool} {t:Rat},(∀p∈l,0<=p.2)->Bd out t->Bd (zej own l (out,f)).1 (t+own*sumQ l)
 | [],out,f,t,_,h=>by
   show Bd out (t+own*0);rw[Rat.mul_zero,Rat.add_zero];exact h
 |p::l,out,f,t,hp,h=>by
  have h1:=zm6 ho (l:=l) (f:=(zfe own p (out,f)).2) (fun q hq=>hp q MdE) (h.gain (f:=f) ho (hp p Mcv));have e:t+own*p.2+own*sumQ l=t+own*sumQ (p::l):=by rw[sumQ];grind
  rw[e]at h1;exact h1
def zcy(hs:Parts)(frm:ByteArray)(tl:Parts):Parts×Bool:=
 zej (zag hs frm) tl (setP hs frm (zbi (zag hs frm*(1-sumQ tl))),bigQ (zag hs frm*(1-sumQ tl)))
theorem zkk{hs tl:Parts}{frm:ByteArray}(hg:GoodParts hs)(hl:zaG hs=false)(hp:∀p∈tl,0<=p.2)(h1:sumQ tl<=1):
 (if bigQ (zag hs frm*(1-sumQ tl))then none else zb5 (zag hs frm) tl (za5 (zar hs frm) frm (zag hs frm*(1-sumQ tl))))=if(zcy hs frm tl).2 then none else some (zcy hs frm tl).1:=by
 have ho:=zb7 hg frm;have hk:0<=zag hs frm*(1-sumQ tl):=Rat.mul_nonneg ho McN;unfold zcy;cases hb:bigQ (zag hs frm*(1-sumQ tl))
 ·rw[zfd hb,if_neg Mcv];have e:setP hs frm (zag hs frm*(1-sumQ tl))=za5 (zar hs frm) frm (zag hs frm*(1-sumQ tl)):=by
   rw[ziq hg.asc];split
   ·rename_i h0
    have:zag hs frm*(1-sumQ tl)=0:=by simpa using h0
    rw[this];cases zar hs frm<;>simp[za5]
   ·rfl
  have aD:=zhK hg (n:=frm) hk;have tA:=zet (n:=frm) hl hb;obtain⟨g1,g2⟩:=zit ho hp aD tA;rw[e]at g1 g2⊢;cases hx:zb5 (zag hs frm) tl (za5 (zar hs frm) frm (zag hs frm*(1-sumQ tl)))with
  |none=>rw[g2 hx,if_pos rfl]
  |some o=>rw[g1 o hx,if_neg Mcv]
 ·rw[if_pos rfl,zfg rfl,if_pos rfl]
def zcU(n:ByteArray)(f:Rat)(x:Parts×Bool):Parts×Bool:=
 (setP x.1 n (zbi (zag x.1 n+f)),x.2||bigQ (zag x.1 n+f))
mutual
def zbG(part:Rat):List Tree->Parts×Bool->Parts×Bool
 | [],x=>x
 |t::l,x=>zbG part l (zdV part t x)
def zdV(part:Rat):Tree->Parts×Bool->Parts×Bool
 | .leaf n,x=>zcU n part x
 | .node l,x=>zbG (zbi (part*(1/(l.length:Rat)))) l (x.1,x.2||bigQ (part*(1/(l.length:Rat))))
end
def zcz(l:List Tree)(f:Rat)(x:Parts×Bool):Parts×Bool:=
 zbG (zbi (f*(1/(l.length:Rat)))) l (x.1,x.2||bigQ (f*(1/(l.length:Rat))))
theorem zov(part:Rat)(l:List Tree)(x:Parts×Bool):zdV part (.node l) x=zcz l part x:=by rw[zdV,zcz]
theorem zg1(part:Rat):∀(a b:List Tree) (x:Parts×Bool),zbG part (a++b) x=zbG part b (zbG part a x)
 | [],_,_=>by rw[List.nil_append,zbG]
 |t::a,b,x=>by rw[List.cons_append,zbG,zbG,zg1 part a b]
def zdi(s:St)(frm:ByteArray):Parts->Parts×Bool->Rat->(Parts×Bool)×Rat
 | [],x,rest=>(x,rest)
 |p::l,x,rest=>if zeb s p.1 frm then zdi s frm l (zcU p.1 p.2 x) (rest-p.2)else zdi s frm l x rest
def zcq(s:St)(n:ByteArray):ByteArray:=if zeb s (zaM s n) n then zaM s n else⟨#[]⟩
def zck(s:St)(law:Law)(n:ByteArray):Parts×Bool:=
 let y:=zdi s n (zbx s n) ([],false) 1
 let sp:=zcq s n
 let lines:=zb4 s law.stems n (zaW s) n
 if lines.isEmpty then zcU sp y.2 y.1 else
 if noB sp then zcz lines y.2 y.1 else
 zcz lines (y.2-y.2*Rat.divInt law.num law.den) (zcU sp (y.2*Rat.divInt law.num law.den) y.1)
mutual
theorem zf9{part:Rat}:∀ {l:List Tree} {x:Parts×Bool},x.2=true->(zbG part l x).2=true
 | [],x,h=>by rw[zbG];exact h
 |t::l,x,h=>by rw[zbG];exact zf9 (tree_mark h)
theorem tree_mark{part:Rat}:∀ {t:Tree} {x:Parts×Bool},x.2=true->(zdV part t x).2=true
 | .leaf n,x,h=>by rw[zdV];simp[zcU,h]
 | .node l,x,h=>by rw[zdV];exact zf9 (by simp[h])
end
theorem zg2{out:Parts}(h:GoodParts out){n:ByteArray}{f:Rat}(hf:0<=f)(hb:bigQ (zag out n+f)=false):zcU n f (out,false)=(za5 out n f,false):=by
 unfold zcU;simp only[hb,Bool.or_self];rw[znI h hf hb]
theorem zkl(a:Rat)(n:Nat):a*(1/(n:Rat))=a/(n:Rat):=by
 rw[Rat.div_def,Rat.div_def,Rat.one_mul]
theorem ze9{a:Rat}(h:0<=a)(n:Nat):0<=a*(1/(n:Rat)):=by
 rw[zkl];exact zcE h Rat.natCast_nonneg
mutual
theorem zhj{each:Rat}(he:0<=each):∀ {l:List Tree} {out:Parts},GoodParts out->zaG out=false->
 (∀o,zbB each l out=some o->zbG each l (out,false)=(o,false))/\(zbB each l out=none->(zbG each l (out,false)).2=true)
 | [],out,hg,hs=>by
   rw[zbB,zbG];exact MbA
 |t::l,out,hg,hs=>by
  obtain⟨h1,h2⟩:=tree_same he (t:=t) hg hs;rw[zbB,zbG];cases ht:zeo each t out with
  |none=>
   refine⟨fun o h=>by(cases h),fun _=>zf9 (h2 ht)⟩
  |some o1=>
   rw[h1 o1 ht];obtain⟨g1,g2⟩:=zih he hg hs ht;exact zhj he g1 g2
theorem tree_same{each:Rat}(he:0<=each):∀ {t:Tree} {out:Parts},GoodParts out->zaG out=false->
 (∀o,zeo each t out=some o->zdV each t (out,false)=(o,false))/\(zeo each t out=none->(zdV each t (out,false)).2=true)
 | .leaf n,out,hg,hs=>by
   rw[zeo,zdV,zfh hg hs he];cases hb:bigQ (zag out n+each)
   ·rw[if_neg Mcv,zg2 hg he hb];exact MbA
   ·rw[if_pos rfl];refine⟨fun o h=>by(cases h),fun _=>by simp[zcU,hb]⟩
 | .node l,out,hg,hs=>by
   rw[zeo,zdV,zkl];cases hb:bigQ (each/(l.length:Rat))
   ·rw[if_neg Mcv,zfd hb];exact zhj (zcE he Rat.natCast_nonneg) hg hs
   ·exact MbP
end
theorem zow(out:Parts)(n:ByteArray):za5 out n 0=out:=by cases out<;>simp[za5]
theorem zhk{out:Parts}(h:GoodParts out)(hs:zaG out=false)(n:ByteArray):zcU n 0 (out,false)=(out,false):=by
 rw[zg2 h Rat.le_refl (by rw[Rat.add_zero];exact zcQ n hs),zow]
theorem zg3(k:Nat):zbi (0*(1/(k:Rat)))=0/\bigQ (0*(1/(k:Rat)))=false:=by
 rw[Rat.zero_mul];exact⟨zfd Mcu,by decide⟩
mutual
theorem zhl:∀ {l:List Tree} {out:Parts},GoodParts out->zaG out=false->zbG 0 l (out,false)=(out,false)
 | [],out,_,_=>by rw[zbG]
 |t::l,out,hg,hs=>by rw[zbG,tree_zero hg hs,zhl hg hs]
theorem tree_zero:∀ {t:Tree} {out:Parts},GoodParts out->zaG out=false->zdV 0 t (out,false)=(out,false)
 | .leaf n,out,hg,hs=>by rw[zdV,zhk hg hs]
 | .node l,out,hg,hs=>by
   rw[zdV,(zg3 l.length).1,(zg3 l.length).2];exact zhl hg hs
end
theorem zgc{l:List Tree}{out:Parts}(hg:GoodParts out)(hs:zaG out=false):zcz l 0 (out,false)=(out,false):=by
 rw[zcz,(zg3 l.length).1,(zg3 l.length).2];exact zhl hg hs
theorem zg4{s:St}{frm:ByteArray}:∀ {l out:Parts} {rest:Rat},(∀p∈l,0<p.2)->(∀p∈l,IsN 720720 p.2)->GoodParts out->(∀p∈out,IsN 720720 p.2)->
 zdi s frm l (out,false) rest=(((zcu s frm l out rest).1,false),(zcu s frm l out rest).2)
 | [],out,rest,_,_,_,_=>rfl
 |p::l,out,rest,hp,hN,hg,hn=>by
  have hl:=fun q (hq:q∈l)=>hp q MdE
  have wG:=fun q (hq:q∈l)=>hN q MdE
  rw[zdi,zcu];split
  ·have h0:0<=p.2:=by have:=hp p Mcv;grind
   have aK:=zcF (nm:=p.1) (hN p Mcv) hn;have hb:bigQ (zag out p.1+p.2)=false:=by
    rw[<-zfh hg (zc5 Mcu Mcu hn) h0];exact zc5 Mcu Mcu aK
   rw[zg2 hg h0 hb];exact zg4 hl wG (zbz h0 hg) aK
  ·exact zg4 hl wG hg hn
theorem isN_law{law:Law}(hl:zaA 16 law.num law.den=true):(∃d:Nat,0<d/\d<=16/\IsN d (Rat.divInt law.num law.den))/\0<=Rat.divInt law.num law.den/\Rat.divInt law.num law.den<=1:=by
 refine⟨?_,(zbl hl).2.2⟩;have hd:=hl;exact M9
theorem zeu{n:Nat}(h0:0<n)(h1:n<=1000000000){q:Rat}(h:IsN n q):bigQ q=false:=by
 have:=zkf h0 h;unfold bigQ;simp;omega
theorem zgd{s:St}{law:Law}{n:ByteArray}(hw:WillOk (zbx s n))(hl:zaA 16 law.num law.den=true):
 (∀o,zcO s law n=some o->(zck s law n)=(o,false))/\(zcO s law n=none->(zck s law n).2=true):=by
 have jJ:=zg4 (s:=s) (frm:=n) (rest:=1) hw.pos hw.isN zdt Mcv;have hg:=zii (s:=s) (frm:=n) (out:=[]) (rest:=1) hw.pos hw.isN hw.le zdt Mcv (zhe _);unfold zcO zck zcq;rw[jJ];generalize zcu s n (zbx s n) [] 1=q at*;obtain⟨out,rest⟩:=q;dsimp only at*;obtain⟨g1,g2,g3,g4,g5⟩:=hg;have gs:zaG out=false:=zc5 Mcu Mcu g2;obtain⟨⟨ld,ld0,ld1,l1⟩,l2,l3⟩:=isN_law hl;generalize Rat.divInt law.num law.den=la at*;generalize(if zeb s (zaM s n) n=true then zaM s n else⟨#[]⟩)=sp at*;generalize zb4 s law.stems n (zaW s) n=tr at*;by_cases hr:rest=0
 ·subst hr;have hz:(0:Rat)-0=0:=McN;simp only[Rat.zero_mul,hz,beq_self_eq_true,if_true];refine⟨fun o h=>?_,fun h=>by cases h⟩;cases h;split
  ·exact zhk g1 gs sp
  ·split
   ·exact zgc g1 gs
   ·rw[zhk g1 gs,zgc g1 gs]
 ·have qy:(rest==0)=false:=by simpa using hr
  have pD:0<rest:=McN;simp only[qy,Bool.false_eq_true,if_false];cases he:tr.isEmpty
  ·simp only[Bool.false_eq_true,if_false];have xo:∀ {x:Parts} {r:Rat},GoodParts x->zaG x=false->0<=r->
    (∀o,(if bigQ (r/(tr.length:Rat))=true then none else zbB (r/(tr.length:Rat)) tr x)=some o->zcz tr r (x,false)=(o,false))/\((if bigQ (r/(tr.length:Rat))=true then none else zbB (r/(tr.length:Rat)) tr x)=none->(zcz tr r (x,false)).2=true):=fun {x r} hx bv cm=>by
    rw[zcz,zkl];cases hb:bigQ (r/(tr.length:Rat))
    ·rw[if_neg Mcv,zfd hb];exact zhj (zcE cm Rat.natCast_nonneg) hx bv
    ·exact MbP
   cases hn:noB sp
   ·simp only[Bool.false_eq_true,if_false];have j9:0<=rest*la:=Rat.mul_nonneg g4 l2;have lm:rest*la<=rest:=by
     have:=Rat.mul_nonneg g4 (show 0<=1-la by grind);grind
    have hb:bigQ (zag out sp+rest*la)=false:=by
     have h1:IsN (720720*ld) (zag out sp+rest*la):=by
      refine zkc (zld ?_) (zkd g3 l1);unfold zag;cases hf:out.find? (fun p=>zaf p.1 sp)with
      |none=>exact zke _
      |some p=>exact g2 p (List.mem_of_find?_eq_some hf)
     exact zeu Mcq Mcq h1
    rw[zg2 g1 j9 hb];have cz:=zbz (n:=sp) j9 g1;have bk:zaG (za5 out sp (rest*la))=false:=by rw[zfh g1 gs j9];exact hb
    by_cases hz:rest-rest*la=0
    ·rw[hz];simp only[beq_self_eq_true,if_true];exact⟨fun o h=>by cases h;exact zgc cz bk,fun h=>by cases h⟩
    ·have nz:(rest-rest*la==0)=false:=Mdz;simp only[nz,Bool.false_eq_true,if_false];exact xo cz bk McN
   ·simp only[if_true];have hz:rest-0=rest:=McN;simp only[hz,qy,Bool.false_eq_true,if_false];exact xo g1 gs g4
  ·simp only[if_true];have hb:bigQ (zag out sp+rest)=false:=by
    rw[<-zfh g1 gs g4];exact zc5 Mcu Mcu (zcF g3 g2)
   rw[zg2 g1 g4 hb];exact MbA
theorem zlj{l:Parts}(h:GoodParts l){n:ByteArray}{q:Rat}(m:ByteArray):zag (setP l n q) m=if zaf m n then q else zag l m:=by
 have hw:=zbE h (n:=n);have h0:zag (zar l n) n=0:=by rw[zdH,zce];rfl
 rw[ziq h.asc];by_cases hq:q==0
 ·rw[if_pos hq,zdH];have:q=0:=by simpa using hq
  rw[this]
 ·rw[if_neg hq,zio hw,h0,Rat.zero_add];cases hs:zaf m n
  ·simp only[Bool.false_eq_true,if_false];rw[zdH,hs];rfl
  ·rfl
theorem eqS_same(a b:ByteArray):eqS a b=zaf a b:=rfl
theorem zfi{V:Type}(k:ByteArray)(v:V)(n:ByteArray):∀m:List (ByteArray×V),mget eqS n (mput eqS k v m)=if zaf n k then some v else mget eqS n m
 | []=>rfl
 |x::m=>by
  rw[mput];have lk:eqS k x.1=zaf k x.1:=rfl;rw[lk];cases hk:zaf k x.1
  ·rw[if_neg Mcv,mget,mget,zfi k v n m];have jC:eqS n x.1=zaf n x.1:=rfl;rw[jC];cases hn:zaf n x.1
   ·simp
   ·have LY:zaf n k=false:=by
     rw[zci];intro e;rw[za3]at hn;rw[zci]at hk;exact hk (e▸hn)
    simp[LY]
  ·have lk:k=x.1:=za3.1 hk;rw[if_pos rfl,mget,mget];show(if zaf n k=true then _ else _)=_;cases hn:zaf n k
   ·have:eqS n x.1=false:=by rw[eqS_same,<-lk,hn]
    simp[this]
   ·simp
theorem zg5{V:Type}(k:ByteArray)(v:V):∀m:List (ByteArray×V),(m.map (·.1)).Nodup->((mput eqS k v m).map (·.1)).Nodup/\∀x∈(mput eqS k v m).map (·.1),x=k\/x∈m.map (·.1)
 | [],_=>by simp[mput]
 |x::m,h=>by
  rw[mput];have lk:eqS k x.1=zaf k x.1:=rfl;rw[lk];rw[List.map_cons,List.nodup_cons]at h;cases hk:zaf k x.1
  ·obtain⟨h1,h2⟩:=zg5 k v m h.2;rw[if_neg Mcv,List.map_cons];refine⟨List.nodup_cons.2 ⟨fun hx=>?_,h1⟩,fun y hy=>?_⟩
   ·rcases h2 _ hx with e|e
    ·rw[e,zce]at hk;cases hk
    ·exact h.1 e
   ·rcases List.mem_cons.1 hy with rfl|hy
    ·exact .inr Mcv
    ·rcases h2 y hy with e|e
     ·exact .inl e
     ·exact .inr (by simp[e])
  ·have e:k=x.1:=za3.1 hk;rw[if_pos rfl,List.map_cons];refine⟨List.nodup_cons.2 ⟨by rw[e];exact h.1,h.2⟩,fun y hy=>?_⟩;rcases List.mem_cons.1 hy with rfl|hy
   ·exact .inl rfl
   ·exact .inr (by simp[hy])
theorem zdc{V:Type}{n:ByteArray}{v:V}:∀ {m:List (ByteArray×V)},mget eqS n m=some v->(n,v)∈m
 | [],h=>by simp[mget]at h
 |x::m,h=>by
  rw[mget]at h;have jC:eqS n x.1=zaf n x.1:=rfl;rw[jC]at h;cases hn:zaf n x.1
  ·rw[hn,if_neg Mcv]at h;exact List.mem_cons_of_mem _ (zdc h)
  ·rw[hn,if_pos rfl]at h;have e:=za3.1 hn;simp only[Option.some.injEq]at h;rw[e,<-h];exact List.mem_cons_self
theorem zhL{V:Type}{n:ByteArray}{v:V}:∀ {m:List (ByteArray×V)},(m.map (·.1)).Nodup->(n,v)∈m->mget eqS n m=some v
 | [],_,h=>by simp at h
 |x::m,hd,h=>by
  rw[List.map_cons,List.nodup_cons]at hd;rw[mget];have jC:eqS n x.1=zaf n x.1:=rfl;rw[jC];rcases List.mem_cons.1 h with rfl|h
  ·rw[zce,if_pos rfl]
  ·have ag:zaf n x.1=false:=zci.2 fun e=>hd.1 (by rw[<-e];exact List.mem_map.2 ⟨_,h,rfl⟩)
   rw[ag,if_neg Mcv];exact zhL hd.2 h
