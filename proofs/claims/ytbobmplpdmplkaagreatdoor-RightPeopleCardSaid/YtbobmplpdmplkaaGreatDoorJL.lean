import Derived.Shelf.Small.Strs
import Derived.Shelf.SlicesE.Clone
import Derived.Shelf.SlicesE.Index
import Derived.Shelf.SlicesQ.Contains
import Derived.Test.YtbobmplpdmplkaaGreatDoorNA
import Derived.Test.YtbobmplpdmplkaaGreatDoorJ6
set_option linter.all false
set_option maxRecDepth 100000
set_option maxHeartbeats 4000000
namespace Go.Proofs.YtbobmplpdmplkaaGreatDoor
open Go.RowKit
attribute [local go_sem] World.cell?_alloc_mark zaf za4 zam za7 zaw zax zay zaz za0 za1 za2
attribute [local go_sem] zan zac
section
open Go.Shelf
def zoq:Go.Shelf.Ren:=⟨fun|106=>94|213=>127|265=>160|n=>n,fun|9=>9|3=>3|n=>n,fun|n=>n⟩
theorem cmpStr:Go.Proofs.Lays.n106 Tryz.prog zoq:= {
 mixed:=by kernel_rfl
 f106:=Tryz.func94.trans (congrArg some Mcz)
 f213:=Tryz.func127.trans (congrArg some Mcz)
 f265:=Tryz.func160.trans (congrArg some Mcz)
 t3:=Tryz.underlying3
 a3:=Tryz.isAgg3
 z3:=Tryz.sizeOf3
 v3:=Tryz.zeroValue3
 t9:=Tryz.underlying9
 a9:=Tryz.isAgg9
 z9:=Tryz.sizeOf9
 v9:=Tryz.zeroValue9}
def coStr_ren:Go.Shelf.Ren:=⟨fun|31=>52|29=>77|n=>n,fun|22=>36|23=>9|4=>4|3=>3|0=>0|n=>n,fun|n=>n⟩
theorem coStr:Go.Proofs.SlLaysE.n31 Tryz.prog coStr_ren:= {
 mixed:=by kernel_rfl
 f29:=⟨Tryz.f77.name,by decide,Tryz.func77.trans (congrArg some Mcz)⟩
 f31:=⟨Tryz.f52.name,by decide,Tryz.func52.trans (congrArg some Mcz)⟩
 t0:=Tryz.underlying0
 a0:=Tryz.isAgg0
 z0:=Tryz.sizeOf0
 v0:=Tryz.zeroValue0
 t3:=Tryz.underlying3
 a3:=Tryz.isAgg3
 z3:=Tryz.sizeOf3
 v3:=Tryz.zeroValue3
 t4:=Tryz.underlying4
 a4:=Tryz.isAgg4
 z4:=Tryz.sizeOf4
 v4:=Tryz.zeroValue4
 t22:=Tryz.underlying36
 a22:=Tryz.isAgg36
 z22:=Tryz.sizeOf36
 v22:=Tryz.zeroValue36
 a23:=Tryz.isAgg9
 z23:=Tryz.sizeOf9}
def zor:Go.Shelf.Ren:=⟨fun|7=>76|6=>111|n=>n,fun|22=>41|24=>107|4=>4|0=>0|3=>3|n=>n,fun|n=>n⟩
theorem coPair:Go.Proofs.SlLaysQ.n7 Tryz.prog zor:= {
 mixed:=by kernel_rfl
 f6:=⟨Tryz.f111.name,by decide,Tryz.func111.trans (congrArg some Mcz)⟩
 f7:=⟨Tryz.f76.name,by decide,Tryz.func76.trans (congrArg some Mcz)⟩
 t0:=Tryz.underlying0
 a0:=Tryz.isAgg0
 z0:=Tryz.sizeOf0
 v0:=Tryz.zeroValue0
 t3:=Tryz.underlying3
 a3:=Tryz.isAgg3
 z3:=Tryz.sizeOf3
 v3:=Tryz.zeroValue3
 t4:=Tryz.underlying4
 a4:=Tryz.isAgg4
 z4:=Tryz.sizeOf4
 v4:=Tryz.zeroValue4
 t22:=Tryz.underlying41
 a22:=Tryz.isAgg41
 z22:=Tryz.sizeOf41
 v22:=Tryz.zeroValue41}
def zos:Go.Shelf.Ren:=⟨fun|27=>79|28=>113|29=>114|n=>n,fun|25=>128|3=>3|27=>164|22=>166|4=>4|53=>195|0=>0|5=>5|54=>196|n=>n,fun|0=>1|1=>2|n=>n⟩
theorem tzBits:Go.Proofs.Lays7.n27 Tryz.prog zos:= {
 mixed:=by kernel_rfl
 f27:=Tryz.func79.trans (congrArg some Mcz)
 f28:=Tryz.func113.trans (congrArg some Mcz)
 f29:=Tryz.func114.trans (congrArg some Mcz)
 t0:=Tryz.underlying0
 a0:=Tryz.isAgg0
 z0:=Tryz.sizeOf0
 v0:=Tryz.zeroValue0
 i0:=by kernel_rfl
 t3:=Tryz.underlying3
 a3:=Tryz.isAgg3
 z3:=Tryz.sizeOf3
 v3:=Tryz.zeroValue3
 i3:=by kernel_rfl
 t4:=Tryz.underlying4
 a4:=Tryz.isAgg4
 z4:=Tryz.sizeOf4
 v4:=Tryz.zeroValue4
 i4:=by kernel_rfl
 t5:=Tryz.underlying5
 a5:=Tryz.isAgg5
 z5:=Tryz.sizeOf5
 v5:=Tryz.zeroValue5
 i5:=by kernel_rfl
 t22:=Tryz.underlying166
 a22:=Tryz.isAgg166
 z22:=Tryz.sizeOf166
 v22:=Tryz.zeroValue166
 i22:=by kernel_rfl
 t25:=Tryz.underlying128
 a25:=Tryz.isAgg128
 z25:=Tryz.sizeOf128
 v25:=Tryz.zeroValue128
 i25:=by kernel_rfl
 t27:=Tryz.underlying164
 a27:=Tryz.isAgg164
 z27:=Tryz.sizeOf164
 v27:=Tryz.zeroValue164
 i27:=by kernel_rfl
 t53:=Tryz.underlying195
 a53:=Tryz.isAgg195
 z53:=Tryz.sizeOf195
 v53:=Tryz.zeroValue195
 i53:=by kernel_rfl
 t54:=Tryz.underlying196
 a54:=Tryz.isAgg196
 z54:=Tryz.sizeOf196
 g0:=by kernel_rfl
 g1:=by kernel_rfl}
end
theorem name_one{d:Deed}(h:d.to.length=1):∃p,d.to=[p]/\zbf d=p.name:=by
 match hd:d.to,h with
 | [p],_=>exact⟨p,rfl,by unfold zbf;rw[hd];rfl⟩
theorem one_ne{d:Deed}(hd:OkD d)(h:d.kind=5\/d.kind=6\/d.kind=7):noB (zbf d)=false/\zbf d≠d.frm/\noB d.frm=false:=by
 obtain⟨h1,h2⟩:=hd.one h;obtain⟨p,hp,hn⟩:=name_one h1;have oP:=hd.names p (by rw[hp];simp);rw[hn];refine⟨zgf oP,?_,zgf (hd.frm Mcy)⟩;unfold zcC at h2;simp only[Bool.and_eq_true,List.all_eq_true,Bool.not_eq_true']at h2;exact zcn.1 (h2.1.2 p (by rw[hp];simp))
theorem zfJ(s:St)(f:ByteArray)(l:Parts)(n:ByteArray):zbw {s with wills:=s.wills++[(f,l)]} n=if zae f n then l else zbw s n:=by
 unfold zbw;rw[List.reverse_append,List.reverse_singleton,List.singleton_append,List.find?_cons];split
 ·rename_i h
  rw[if_pos h];rfl
 ·rename_i h
  rw[if_neg Mdl]
theorem zot{s s':St}{d:Deed}{last:Int}(h:GoodSt s last)(hd:OkD d)(hl:last<=d.day)(hk:d.kind=4)(ht:zgK s d=(s',0)):GoodSt s' d.day:=by
 have h:=h.later hl;unfold zgK at ht;split at ht
 ·simp at ht
 simp only[Prod.mk.injEq,and_true]at ht;rw[<-ht];obtain⟨nO,xQ⟩:=hd.parts (.inr (.inr hk));refine {h with wills:=fun n=>?_,willNames:=fun w hw p hp=>?_}
 ·rw[zfJ];split
  ·exact zj2 xQ
  ·exact h.wills n
 ·rcases List.mem_append.1 hw with hw|hw
  ·exact h.willNames w hw p hp
  ·rw[List.mem_singleton.1 hw]at hp;obtain⟨q,hq,rfl⟩:=List.mem_map.1 hp;exact zgf (hd.names q hq)
theorem zjk{s s':St}{d:Deed}{last:Int}(h:GoodSt s last)(hl:last<=d.day)(ht:zb7 s d=(s',0)):GoodSt s' d.day:=by
 have h:=h.later hl;unfold zb7 at ht;split at ht
 ·simp at ht
 split at ht
 ·simp at ht
 simp only[Prod.mk.injEq,and_true]at ht;rw[<-ht];exact {h with}
theorem zmu{s s':St}{d:Deed}{last:Int}(h:GoodSt s last)(hd:OkD d)(hl:last<=d.day)(hk:d.kind=7)(ht:zdq s d=(s',0)):GoodSt s' d.day:=by
 have h:=h.later hl;unfold zdq at ht;split at ht
 ·simp at ht
 split at ht
 ·simp at ht
 simp only[Prod.mk.injEq,and_true]at ht;rw[<-ht];obtain⟨h1,h2,h3⟩:=one_ne hd (.inr (.inr hk));refine {h with marr:=fun m hm=>?_};rcases List.mem_append.1 hm with hm|hm
 ·exact h.marr m hm
 ·rw[List.mem_singleton.1 hm];exact⟨h2.symm,h3,h1⟩
theorem zmv{s s':St}{d:Deed}{last:Int}(h:GoodSt s last)(hd:OkD d)(hl:last<=d.day)(hk:d.kind=6)(ht:zcE s d=(s',0)):GoodSt s' d.day:=by
 have h:=h.later hl;unfold zcE at ht;split at ht
 ·simp at ht
 split at ht
 ·simp at ht
 split at ht
 ·simp at ht
 rename_i hn
 have hn:¬Desc s (zbf d) d.frm:=by simpa using hn
 simp only[Prod.mk.injEq,and_true]at ht;rw[<-ht];obtain⟨h1,h2,h3⟩:=one_ne hd (.inr (.inl hk));refine {h with acyc:=zmr h.acyc hn h2.symm,kids:=fun c hc=>?_};rcases List.mem_append.1 hc with hc|hc
 ·exact h.kids c hc
 ·rw[List.mem_singleton.1 hc];exact⟨h3,h1⟩
theorem laws_go:∀ {l:List Law} {b:Option Int},zeP l b=0->∀x∈l,za8 16 x.num x.den=true
 |x::l,b,h,y,hy=>by
  unfold zeP at h;split at h
  ·rename_i hb
   simp[h]at hb
  ·rename_i hb
   rcases List.mem_cons.1 hy with rfl|hy
   ·unfold zhj at hb;split at hb
    ·simp at hb
    split at hb
    ·simp at hb
    ·rename_i hq
     simpa using hq
   ·exact laws_go h y hy
theorem zeW{laws:List Law}(h:zaD laws=0)(day:Int):za8 16 (zba laws day).num (zba laws day).den=true:=by
 unfold zaD at h;split at h
 ·simp at h
 unfold zba;cases hl:(laws.filter fun x=>decide (x.frm<=day)).getLast? with
 |none=>decide
 |some x=>
  have hm:=List.mem_of_getLast? hl;exact laws_go h x (List.mem_filter.1 hm).1
theorem zmw{s:St}{n:ByteArray}{day:Int}{bp:Option Parts}:∀ {l l':List Grave} {k:Nat},zb0 s n day bp k l=some l'->l'.length=l.length/\∀(i:Nat) g',l'[i]?=some g'->∃g,l[i]?=some g/\
 (g'=g/\zdr s n day (k+i) g=false\/zdr s n day (k+i) g=true/\∃h out,bp=some h/\zb6 (zag g.holders n) h (zas g.holders n)=some out/\g'= {g with holders:=out,died:=g.died++[n]})
 | [],l',k,h=>by
   unfold zb0 at h;cases h;exact⟨rfl,fun i g' hg=>by simp at hg⟩
 |g::l,l',k,h=>by
  unfold zb0 at h;have step:∀ {r:List Grave} {g':Grave},zb0 s n day bp (k+1) l=some r->l'=g'::r->(g'=g/\zdr s n day k g=false\/zdr s n day k g=true/\∃h out,bp=some h/\zb6 (zag g.holders n) h (zas g.holders n)=some out/\g'= {g with holders:=out,died:=g.died++[n]})->
   l'.length=(g::l).length/\∀(i:Nat) g',l'[i]?=some g'->∃x,(g::l)[i]?=some x/\(g'=x/\zdr s n day (k+i) x=false\/zdr s n day (k+i) x=true/\∃h out,bp=some h/\zb6 (zag x.holders n) h (zas x.holders n)=some out/\g'= {x with holders:=out,died:=x.died++[n]}):=by
   intro r g' hr he hc;obtain⟨i1,i2⟩:=zmw hr;subst he;refine⟨by simp[i1],fun i x hx=>?_⟩;cases i with
   |zero=>
    simp only[List.getElem?_cons_zero,Option.some.injEq]at hx;subst hx;exact⟨g,rfl,hc⟩
   |succ i=>
    obtain⟨y,y1,y2⟩:=i2 i x (by simpa using hx);exact⟨y,by simpa using y1,by rw[show k+(i+1)=k+1+i by omega];exact y2⟩
  split at h
  ·rename_i hh
   cases bp with
   |none=>simp at h
   |some hs=>
    dsimp only at h;rw[Option.bind_eq_some_iff]at h;obtain⟨out,h1,h2⟩:=h;rw[Option.map_eq_some_iff]at h2;obtain⟨r,h3,h4⟩:=h2;exact step h3 h4.symm (.inr ⟨hh,hs,out,rfl,h1,rfl⟩)
  ·rename_i hh
   rw[Option.map_eq_some_iff]at h;obtain⟨r,h3,h4⟩:=h;exact step h3 h4.symm (.inl ⟨rfl,by simpa using hh⟩)
theorem zmx{laws:List Law}{s s':St}{d:Deed}{last:Int}(h:GoodSt s last)(hd:OkD d)(hl:last<=d.day)(hk:d.kind=8)(bz:zaD laws=0)(ht:zdH laws s d=(s',0)):GoodSt s' d.day:=by
 have h:=h.later hl;unfold zdH at ht;split at ht
 ·simp at ht
 split at ht
 ·simp at ht
 rename_i gs aI
 simp only[Prod.mk.injEq,and_true]at ht;rw[<-ht];obtain⟨ag,gT⟩:=zmw aI;have one:∀(i:Nat) g',gs[i]?=some g'->∃g,s.graves[i]?=some g/\GoodG g'/\g'.place=g.place/\∀e,zaV g' e=true->zaV g e=true:=by
  intro i g' fB;obtain⟨g,g1,g2⟩:=gT i g' fB;have bf:=h.graves g (List.mem_of_getElem? g1);rcases g2 with⟨rfl,_⟩|⟨hh,hs,out,e1,e2,rfl⟩
  ·exact⟨g',g1,bf,rfl,fun _=>id⟩
  ·unfold zdr at hh;rw[Bool.and_eq_true]at hh;have aw:zag g.holders d.frm≠0:=by simpa using hh.1
   obtain⟨k1,k2,k3⟩:=ze3 (h.wills d.frm) (zeW bz d.day) e1;exact⟨g,g1,zkZ bf aw k1 k2 e2,rfl,fun e=>ze4 (zdm aw)⟩
 refine {h with graves:=fun x hx=>?_,force:=fun a b ga gb ha hb iN e he f1 f2=>?_,dead:=fun n hn=>?_}
 ·obtain⟨i,hi⟩:=List.mem_iff_getElem?.1 hx;exact(one i x hi).elim fun _ hg=>hg.2.1
 ·obtain⟨ga',a1,_,a2,a3⟩:=one a ga ha;obtain⟨gb',b1,_,b2,b3⟩:=one b gb hb;exact h.force a b ga' gb' a1 b1 (by rw[<-a2,<-b2,iN]) e he (a3 e f1) (b3 e f2)
 ·rcases List.mem_append.1 hn with hn|hn
  ·exact h.dead n hn
  ·rw[List.mem_singleton.1 hn];exact zgf (hd.frm Mcy)
theorem zgT{laws:List Law}{s s':St}{d:Deed}{last:Int}(h:GoodSt s last)(hd:OkD d)(hl:last<=d.day)(bz:zaD laws=0)(ht:zbq laws s d=(s',0)):GoodSt s' d.day:=by
 have hk:=hd.kind;unfold zbq at ht;split at ht
 ·rename_i k;exact zms h hd hl MeC ht
 split at ht
 ·rename_i k;exact zjj h hd hl MeC ht
 split at ht
 ·exact zih h hl ht
 split at ht
 ·exact zmt h hl ht
 split at ht
 ·rename_i k;exact zot h hd hl MeC ht
 split at ht
 ·exact zjk h hl ht
 split at ht
 ·rename_i k;exact zmv h hd hl MeC ht
 split at ht
 ·rename_i k;exact zmu h hd hl MeC ht
 ·rename_i k0 k1 k2 k3 k4 k5 k6 k7
  simp only[beq_iff_eq]at k0 k1 k2 k3 k4 k5 k6 k7;exact zmx h hd hl Mcy bz ht
theorem zbs(x:ByteArray×Rat)(l:Parts)(n:ByteArray):zag (x::l) n=if zae x.1 n then x.2 else zag l n:=by
 unfold zag;rw[List.find?_cons];split
 ·rename_i h;rw[if_pos h];rfl
 ·rename_i h;rw[if_neg Mdl]
theorem zij{n:ByteArray}{q:Rat}:∀ {l:Parts},GoodParts l->∀m,zag (za3 l n q) m=if zae m n then zag l n+q else zag l m
 | [],_,m=>by
   unfold za3;split
   ·exact Mbj
   ·rw[zbs];by_cases hs:m=n
    ·rw[if_pos (zau.2 hs.symm),if_pos (zau.2 hs)];show q=zag [] n+q;have:zag [] n=0:=rfl;grind
    ·rw[if_neg (by rw[zau];exact fun e=>hs e.symm),if_neg (by rw[zau];exact hs)]
 |x::r,⟨h1,h2⟩,m=>by
  have hr:GoodParts r:=⟨(List.pairwise_cons.1 h1).2,fun p hp=>h2 p Mdw⟩
  have hx:=(List.pairwise_cons.1 h1).1;unfold za3;split
  ·exact Mbj
  ·split
   ·rename_i hl
    have ai:=zc5 hl;have ih:=zij (n:=n) (q:=q) hr m;rw[zbs,ih,zbs,zbs];by_cases hs:m=n
    ·subst hs;rw[if_neg (by rw[zau];exact ai),if_pos (zb8 m),if_pos (zb8 m),if_neg (by rw[zau];exact ai)]
    ·rw[if_neg (c:=zae m n=true) (by rw[zau];exact hs),if_neg (c:=zae m n=true) (by rw[zau];exact hs)]
   ·split
    ·rename_i hs
     have e:=zau.1 hs;rw[zbs,zbs,zbs];by_cases hm:m=n
     ·subst hm;rw[if_pos (zb8 m),if_pos (zb8 m),if_pos hs]
     ·rw[if_neg (by rw[zau];exact fun k=>hm k.symm),if_neg MdH,if_neg (by rw[zau,e];exact fun k=>hm k.symm)]
    ·rename_i hl hs
     have jv:∀p∈x::r,p.1≠n:=by
      intro p hp e;rcases List.mem_cons.1 hp with rfl|hp
      ·exact hs (zau.2 e)
      ·rcases zda x.1 n with k|k|k
       ·exact hl k
       ·exact hs (zau.2 k)
       ·have:=zb1 k (hx p hp);rw[e,zeR]at this;cases this
     have h0:=(zdD jv).1;rw[zbs];by_cases hm:m=n
     ·subst hm;rw[if_pos (zb8 m),if_pos (zb8 m),h0];grind
     ·rw[if_neg (by rw[zau];exact fun k=>hm k.symm),if_neg MdH]
theorem zd9{n m:ByteArray}:∀ {l:Parts},zag (zas l n) m=if zae m n then 0 else zag l m
 | []=>by
   have e:zag (zas [] n) m=0:=rfl;have e2:zag [] m=0:=rfl;rw[e,e2];split<;>rfl
 |x::r=>by
  have ih:=zd9 (n:=n) (m:=m) (l:=r);by_cases hx:x.1=n
  ·have e:zas (x::r) n=zas r n:=by
    unfold zas;rw[List.filter_cons,zau.2 hx];rfl
   rw[e,ih,zbs];by_cases hm:m=n
   ·rw[if_pos (zau.2 hm),if_pos (zau.2 hm)]
   ·rw[if_neg MdH,if_neg MdH,if_neg (by rw[zau,hx];exact fun k=>hm k.symm)]
  ·have e:zas (x::r) n=x::zas r n:=by
    unfold zas;rw[List.filter_cons,zcn.2 hx];rfl
   rw[e,zbs,ih,zbs];by_cases hm:m=n
   ·rw[if_pos (c:=zae m n=true) (zau.2 hm),if_pos (c:=zae m n=true) (zau.2 hm),if_neg (by rw[zau,hm];exact hx)]
   ·rw[if_neg (c:=zae m n=true) MdH,if_neg (c:=zae m n=true) MdH]
theorem share_mem{l:Parts}(h:GoodParts l){p:ByteArray×Rat}(hp:p∈l):zag l p.1=p.2:=by
 induction l with
 |nil=>cases hp
 |cons x r ih=>
  obtain⟨h1,h2⟩:=h;have hr:GoodParts r:=⟨(List.pairwise_cons.1 h1).2,fun p hp=>h2 p Mdw⟩
  have hx:=(List.pairwise_cons.1 h1).1;rw[zbs];rcases List.mem_cons.1 hp with rfl|hp
  ·rw[if_pos (zb8 _)]
  ·rw[if_neg (by rw[zau];exact zc5 (hx p hp)),ih hr hp]
theorem zhm:∀(a b:List UInt8),decide (Lib.compareBytes a b<0)=Op.bytesLess a b
 | [],[]=>by simp[Lib.compareBytes,Op.bytesLess]
 | [],_::_=>by simp[Lib.compareBytes,Op.bytesLess]
 |_::_,[]=>by simp[Lib.compareBytes,Op.bytesLess]
 |a::xs,b::ys=>by
  have ih:=zhm xs ys;unfold Lib.compareBytes Op.bytesLess;by_cases he:a=b
  ·subst he;simp[UInt8.lt_irrefl,ih]
  ·by_cases h1:a<b
   ·simp[h1]
   ·have h2:b<a:=(UInt8.lt_or_lt_of_ne he).resolve_left h1;simp[h1,h2,he]
theorem zgh:∀(a b:List UInt8),(Lib.compareBytes a b==0)=(a==b)
 | [],[]=>by simp[Lib.compareBytes]
 | [],_::_=>by simp[Lib.compareBytes]
 |_::_,[]=>by simp[Lib.compareBytes]
 |a::xs,b::ys=>by
  have ih:=zgh xs ys;unfold Lib.compareBytes;by_cases he:a=b
  ·subst he;simpa[UInt8.lt_irrefl]using ih
  ·by_cases h1:a<b
   ·simp[h1,he]
   ·have h2:b<a:=(UInt8.lt_or_lt_of_ne he).resolve_left h1;simp[h1,h2,he]
def cmpN(a b:ByteArray):Int:=Lib.compareBytes a.data.toList b.data.toList
theorem zn8(a b:ByteArray):decide (cmpN a b<0)=zbh a b:=by
 unfold cmpN zbh;rw[zhm,ByteArray.toList_eq,ByteArray.toList_eq]
theorem cmpN_zero(a b:ByteArray):(cmpN a b==0)=zae a b:=by
 unfold cmpN zae;rw[zgh,ByteArray.toList_eq,ByteArray.toList_eq]
def AscP(l:Parts):Prop:=l.Pairwise fun a b=>zbh a.1 b.1=true
theorem less_up{a b n:ByteArray}(cI:zbh a b=true)(h:zbh a n=false):zbh b n=false:=by
 cases hb:zbh b n
 ·rfl
 ·rw[zb1 cI hb]at h;cases h
def zdL:Parts->ByteArray->Bool
 | [],_=>false
 |p::_,n=>zae p.1 n
def setP:Parts->ByteArray->Rat->Parts
 | [],n,q=>if q==0 then[]else[(n,q)]
 |p::r,n,q=>if zbh p.1 n then p::setP r n q else if zae p.1 n then(if q==0 then r else(n,q)::r)else if q==0 then p::r else(n,q)::p::r
theorem zem{n:ByteArray}{q:Rat}:∀ {A B:Parts},(∀p∈A,zbh p.1 n=true)->setP (A++B) n q=A++setP B n q
 | [],B,_=>rfl
 |a::A,B,h=>by
  rw[List.cons_append,setP,if_pos (h a McB),zem fun p hp=>h p Mdw];rfl
theorem zgi{a b:ByteArray}(h:zbh a b=true):zae a b=false:=zcn.2 (zc5 h)
theorem zfK{n:ByteArray}:∀ {A B:Parts},(∀p∈A,zbh p.1 n=true)->zag (A++B) n=zag B n
 | [],B,_=>rfl
 |a::A,B,h=>by
  rw[List.cons_append,zbs,zgi (h a McB),if_neg McB,zfK fun p hp=>h p Mdw]
theorem zh7{A B:Parts}(h:AscP (A++B)):AscP B:=(List.pairwise_append.1 h).2.1
theorem zn9{n:ByteArray}:∀ {B:Parts},(∀p∈B,zbh p.1 n=false)->AscP B->zdL B n=false->zag B n=0
 | [],_,_,_=>rfl
 |b::B,h,ha,hh=>by
  have jc:=List.pairwise_cons.1 ha;have hb:b.1≠n:=zcn.1 hh;have fS:zbh n b.1=true:=by
   rcases zda b.1 n with h1|h1|h1
   ·rw[h b McB]at h1;cases h1
   ·exact absurd h1 hb
   ·exact h1
  exact(zdD fun p hp=>by
   rcases List.mem_cons.1 hp with rfl|hp
   ·exact hb
   ·exact(zc5 (zb1 fS (jc.1 p hp))).symm).1
theorem zfL{n:ByteArray}{q:Rat}:∀ {A B:Parts},(∀p∈A,zbh p.1 n=true)->za3 (A++B) n q=A++za3 B n q
 | [],B,_=>rfl
 |a::A,B,h=>by
  rw[List.cons_append,za3];by_cases hq:q==0
  ·rw[if_pos hq];have:za3 B n q=B:=by
    cases B with
    |nil=>simp[za3,hq]
    |cons b B=>simp[za3,hq]
   rw[this];rfl
  ·rw[if_neg hq,if_pos (h a McB),zfL fun p hp=>h p Mdw];rfl
theorem zh8(l:Parts)(h:AscP l)(n:ByteArray):∃A B,l=A++B/\(∀p∈A,zbh p.1 n=true)/\(∀p∈B,zbh p.1 n=false):=by
 induction l with
 |nil=>exact⟨[],[],rfl,by simp,by simp⟩
 |cons p l ih=>
  have hp:=List.pairwise_cons.1 h;cases hl:zbh p.1 n
  ·refine⟨[],p::l,rfl,by simp,fun x hx=>?_⟩;rcases List.mem_cons.1 hx with rfl|hx
   ·exact hl
   ·exact less_up (hp.1 x hx) hl
  ·obtain⟨A,B,rfl,h1,h2⟩:=ih hp.2;refine⟨p::A,B,rfl,fun x hx=>?_,h2⟩;rcases List.mem_cons.1 hx with rfl|hx
   ·exact hl
   ·exact h1 x hx
theorem zik{l:Parts}(h:GoodParts l){n:ByteArray}{q:Rat}(hq:0<=q):setP l n (zag l n+q)=za3 l n q:=by
 obtain⟨A,B,rfl,h1,h2⟩:=zh8 l h.1 n;rw[zem h1,zfK h1,zfL h1];congr 1
 have hB:=zh7 h.1;cases B with
 |nil=>
  show(if(0:Rat)+q==0 then[]else[(n,0+q)])=if q==0 then[]else[(n,q)];rw[Rat.zero_add]
 |cons b B=>
  have hb:=h2 b McB;have JT:0<b.2:=h.2 b McB;cases hs:zae b.1 n
  ·have h0:zag (b::B) n=0:=zn9 h2 hB hs;rw[h0,Rat.zero_add,setP,za3,hb,hs];simp
  ·rw[zbs,hs,if_pos rfl,setP,za3,hb,hs];have ai:(b.2+q==0)=false:=by
    rw[beq_eq_false_iff_ne];intro e;grind
   rw[ai];by_cases hz:q==0
   ·have:q=0:=by simpa using hz
    subst this;have gU:b.1=n:=zau.1 hs;simp[Rat.add_zero,<-gU]
   ·simp[hz]
theorem zh9{l:Parts}(h:AscP l)(n:ByteArray):setP l n 0=zas l n:=by
 obtain⟨A,B,rfl,h1,h2⟩:=zh8 l h n;rw[zem h1];unfold zas;rw[List.filter_append,List.filter_eq_self.2 fun p hp=>by rw[zgi (h1 p hp)];rfl];congr 1
 have hB:=zh7 h;cases B with
 |nil=>rfl
 |cons b B=>
  have hb:=h2 b McB;have cJ:=List.pairwise_cons.1 hB;rw[setP,hb];cases hs:zae b.1 n
  ·have fS:zbh n b.1=true:=by
    rcases zda b.1 n with h3|h3|h3
    ·rw[hb]at h3;cases h3
    ·exact absurd h3 (zcn.1 hs)
    ·exact h3
   have e:(b::B).filter (fun p=>!zae p.1 n)=b::B:=List.filter_eq_self.2 fun p hp=>by
    rcases List.mem_cons.1 hp with rfl|hp
    ·rw[hs];rfl
    ·rw[zcn.2 (zc5 (zb1 fS (cJ.1 p hp))).symm];rfl
   rw[e];simp
  ·have gU:b.1=n:=zau.1 hs;have e:(b::B).filter (fun p=>!zae p.1 n)=B:=by
    rw[List.filter_cons,hs,if_neg McB];exact List.filter_eq_self.2 fun p hp=>by rw[zcn.2 (gU▸(zc5 (cJ.1 p hp)).symm)];rfl
   rw[e];simp
theorem zil{l:Parts}(h:AscP l)(n:ByteArray)(q:Rat):setP l n q=if q==0 then zas l n else za3 (zas l n) n q:=by
 by_cases hq:q==0
 ·rw[if_pos hq];have:q=0:=by simpa using hq
  rw[this];exact zh9 h n
 ·rw[if_neg hq];obtain⟨A,B,rfl,h1,h2⟩:=zh8 l h n;rw[zem h1];have hA:zas (A++B) n=A++zas B n:=by
   unfold zas;rw[List.filter_append,List.filter_eq_self.2 fun p hp=>by rw[zgi (h1 p hp)];rfl]
  rw[hA,zfL h1];congr 1
  have hB:=zh7 h;rw[<-zh9 hB n];cases B with
  |nil=>simp[setP,za3,hq]
  |cons b B=>
   have hb:=h2 b McB;have cJ:=List.pairwise_cons.1 hB;have fu:(q==0)=false:=by simpa using hq
   have e0:setP (b::B) n 0=if zae b.1 n then B else b::B:=by rw[setP,hb];simp
   have e1:setP (b::B) n q=if zae b.1 n then(n,q)::B else(n,q)::b::B:=by rw[setP,hb,fu];simp
   rw[e0,e1];cases hs:zae b.1 n
   ·simp only[Bool.false_eq_true,if_false];rw[za3,fu,hb,hs];simp
   ·have gU:b.1=n:=zau.1 hs;simp only[if_true];cases B with
    |nil=>rw[za3,fu];simp
    |cons c B=>
     have hc:zbh n c.1=true:=gU▸cJ.1 c McB;rw[za3,fu,zgM hc,zcn.2 (zc5 hc).symm];simp
theorem zkh{n:ByteArray}{q:Rat}:∀ {l:Parts} {p:ByteArray×Rat},p∈setP l n q->p=(n,q)\/p∈l
 | [],p,h=>by
   unfold setP at h;split at h
   ·simp at h
   ·exact .inl Mdl
 |x::l,p,h=>by
  unfold setP at h;split at h
  ·rcases List.mem_cons.1 h with rfl|h
   ·exact .inr McB
   ·rcases zkh h with h|h
    ·exact .inl h
    ·exact .inr (by simp[h])
  ·split at h
   ·split at h
    ·exact .inr (by simp[h])
    ·rcases List.mem_cons.1 h with rfl|h
     ·exact .inl rfl
     ·exact .inr (by simp[h])
   ·split at h
    ·exact .inr h
    ·rcases List.mem_cons.1 h with rfl|h
     ·exact .inl rfl
     ·exact .inr h
theorem set_asc{l:Parts}(h:AscP l)(n:ByteArray)(q:Rat):AscP (setP l n q):=by
 obtain⟨A,B,rfl,h1,h2⟩:=zh8 l h n;rw[zem h1];obtain⟨hA,hB,tA⟩:=List.pairwise_append.1 h;have eB:∀b∈B,zae b.1 n=false->zbh n b.1=true:=fun b hb hs=>by
  rcases zda b.1 n with h3|h3|h3
  ·rw[h2 b hb]at h3;cases h3
  ·exact absurd h3 (zcn.1 hs)
  ·exact h3
 cases B with
 |nil=>
  rw[setP];split
  ·rw[List.append_nil];exact hA
  ·exact List.pairwise_append.2 ⟨hA,List.pairwise_singleton _ _,fun a ha b hb=>by
    rw[List.mem_singleton.1 hb];exact h1 a ha⟩
 |cons b B=>
  have cJ:=List.pairwise_cons.1 hB;rw[setP,h2 b McB,if_neg McB];cases hs:zae b.1 n
  ·rw[if_neg McB];split
   ·exact h
   ·refine List.pairwise_append.2 ⟨hA,List.pairwise_cons.2 ⟨fun x hx=>?_,hB⟩,fun a ha x hx=>?_⟩
    ·rcases List.mem_cons.1 hx with rfl|hx
     ·exact eB _ McB hs
     ·exact zb1 (eB b McB hs) (cJ.1 x hx)
    ·rcases List.mem_cons.1 hx with rfl|hx
     ·exact h1 a ha
     ·exact tA a ha x hx
  ·have gU:b.1=n:=zau.1 hs;rw[if_pos rfl];split
   ·exact List.pairwise_append.2 ⟨hA,cJ.2,fun a ha x hx=>tA a ha x (by simp[hx])⟩
   ·refine List.pairwise_append.2 ⟨hA,List.pairwise_cons.2 ⟨fun x hx=>?_,cJ.2⟩,fun a ha x hx=>?_⟩
    ·exact gU▸cJ.1 x hx
    ·rcases List.mem_cons.1 hx with rfl|hx
     ·exact h1 a ha
     ·exact tA a ha x (by simp[hx])
structure Found (s:St) (nm:ByteArray) (out xs:List ByteArray):Prop where
 nd:out.Nodup
 desc:∀n∈out,Desc s nm n
 from':∀x∈xs,x=nm\/x∈out
 seen:∀x,(x=nm\/x∈out)->x∈xs\/∀c∈zai s x,c∈out
structure Look (s:St) (nm x:ByteArray) (j:Nat) (out xs:List ByteArray):Prop where
 nd:out.Nodup
 desc:∀n∈out,Desc s nm n
 from':∀x∈xs,x=nm\/x∈out
 seen:∀y,(y=nm\/y∈out)->y∈xs\/y=x\/∀c∈zai s y,c∈out
 mine:x=nm\/x∈out
 done:∀c∈(zai s x).take j,c∈out
theorem zmy(s:St)(nm:ByteArray):Found s nm [] [nm]:=⟨List.nodup_nil,by simp,by simp,fun x hx=> .inl (by simpa using hx)⟩
theorem found_pop{s:St}{nm x:ByteArray}{out xs:List ByteArray}(h:Found s nm out (x::xs)):Look s nm x 0 out xs:=
 ⟨h.nd,h.desc,fun y hy=>h.from' y (by simp[hy]),fun y hy=>by
   rcases h.seen y hy with h1|h1
   ·rcases List.mem_cons.1 h1 with rfl|h1
    ·exact .inr (.inl rfl)
    ·exact .inl h1
   ·exact .inr (.inr h1),h.from' x McB,by simp⟩
theorem look_end{s:St}{nm x:ByteArray}{out xs:List ByteArray}(h:Look s nm x (zai s x).length out xs):Found s nm out xs:=
 ⟨h.nd,h.desc,h.from',fun y hy=>by
   rcases h.seen y hy with h1|rfl|h1
   ·exact .inl h1
   ·exact .inr fun c hc=>h.done c Meh
   ·exact .inr h1⟩
theorem look_old{s:St}{nm x:ByteArray}{j:Nat}{out xs:List ByteArray}(h:Look s nm x j out xs)(hj:j<(zai s x).length)(hc:(zai s x)[j]∈out):Look s nm x (j+1) out xs:=
 ⟨h.nd,h.desc,h.from',h.seen,h.mine,fun c aN=>by
   rw[List.take_succ_eq_append_getElem hj]at aN;rcases List.mem_append.1 aN with h1|h1
   ·exact h.done c h1
   ·rw[List.mem_singleton.1 h1];exact hc⟩
theorem znA{s:St}{nm x:ByteArray}{j:Nat}{out xs:List ByteArray}(h:Look s nm x j out xs)(hj:j<(zai s x).length)(hc:(zai s x)[j]∉out):Look s nm x (j+1) (out++[(zai s x)[j]]) (xs++[(zai s x)[j]]):=by
 have bD:(zai s x)[j]∈zai s x:=List.getElem_mem _;refine⟨?_,fun n hn=>?_,fun y hy=>?_,fun y hy=>?_,?_,fun c aN=>?_⟩
 ·exact List.nodup_append.2 ⟨h.nd,by simp,fun a ha b hb e=>by rw[List.mem_singleton.1 hb]at e;exact hc (e▸ha)⟩
 ·rcases List.mem_append.1 hn with h1|h1
  ·exact h.desc n h1
  ·rw[List.mem_singleton.1 h1];rcases h.mine with rfl|hm
   ·exact zfr bD
   ·exact zhV (h.desc x hm) bD
 ·rcases List.mem_append.1 hy with h1|h1
  ·rcases h.from' y h1 with h2|h2
   ·exact .inl h2
   ·exact .inr (by simp[h2])
  ·exact .inr (by simp[List.mem_singleton.1 h1])
 ·rcases hy with hy|hy
  ·rcases h.seen y (.inl hy)with h1|h1|h1
   ·exact .inl (by simp[h1])
   ·exact .inr (.inl h1)
   ·exact .inr (.inr fun c hc=>by simp[h1 c hc])
  ·rcases List.mem_append.1 hy with h1|h1
   ·rcases h.seen y (.inr h1)with h2|h2|h2
    ·exact .inl (by simp[h2])
    ·exact .inr (.inl h2)
    ·exact .inr (.inr fun c hc=>by simp[h2 c hc])
   ·exact .inl (by simp[List.mem_singleton.1 h1])
 ·rcases h.mine with h1|h1
  ·exact .inl h1
  ·exact .inr (by simp[h1])
 ·rw[List.take_succ_eq_append_getElem hj]at aN;rcases List.mem_append.1 aN with h1|h1
  ·simp[h.done c h1]
  ·simp[List.mem_singleton.1 h1]
theorem zla{s:St}{nm:ByteArray}{out:List ByteArray}(h:Found s nm out []):∀n,n∈out↔Desc s nm n:=fun n=>by
 refine⟨h.desc n,fun hd=>zhU (out:=fun x=>x∈out) ?_ ?_ hd⟩
 ·intro c hc;rcases h.seen nm (.inl rfl)with h1|h1
  ·simp at h1
  ·exact h1 c hc
 ·intro x hx c hc;rcases h.seen x (.inr hx)with h1|h1
  ·simp at h1
  ·exact h1 c hc
theorem zki{α:Type}[DecidableEq α]:∀ {a b:List α},a.Nodup->(∀x∈a,x∈b)->a.length<=b.length
 | [],_,_,_=>Nat.zero_le _
 |x::a,b,h,hs=>by
  have h':=List.nodup_cons.1 h;have hx:x∈b:=hs x McB;have h1:a.length<=(b.erase x).length:=zki h'.2 fun y hy=>by
   have ai:y≠x:=fun e=>h'.1 (e▸hy)
   exact(List.mem_erase_of_ne ai).2 (hs y (by simp[hy]))
  have h2:=List.length_erase_of_mem hx;have h3:0<b.length:=List.length_pos_of_mem hx;simp only[List.length_cons];omega
theorem zkj{s:St}{nm:ByteArray}{out:List ByteArray}(hn:out.Nodup)(hd:∀n∈out,Desc s nm n):out.length<=s.children.length:=by
 have Du:∀n∈out,n∈s.children.map (·.2):=fun n KM=>by
  have:∃y,(y,n)∈s.children:=by
   cases hd n KM with
   |single h=>exact⟨nm,zds.1 h⟩
   |tail _ h=>exact⟨_,zds.1 h⟩
  obtain⟨y,hy⟩:=this;exact List.mem_map.2 ⟨(y,n),hy,rfl⟩
 haveI:DecidableEq ByteArray:=fun a b=>Classical.propDecidable _
 have:=zki hn Du;simpa using this
theorem zdu{y:Int}(h:0<=y):zeQ y=y/4-y/100+y/400:=by
 unfold zeQ;rw[Int.tdiv_eq_ediv_of_nonneg h,Int.tdiv_eq_ediv_of_nonneg h,Int.tdiv_eq_ediv_of_nonneg h]
theorem znB{y:Int}(h:0<=y):zgJ y=((y%4==0&&y%100 != 0)||y%400==0):=by
 unfold zgJ;rw[Int.tmod_eq_emod_of_nonneg h,Int.tmod_eq_emod_of_nonneg h,Int.tmod_eq_emod_of_nonneg h]
def leapQ(y:Int):Bool:=y.tmod 4==0&&(y.tmod 100 != 0||y.tmod 400==0)
theorem leapQ_eq{y:Int}(h:0<=y):leapQ y=zgJ y:=by
 rw[znB h];unfold leapQ;rw[Int.tmod_eq_emod_of_nonneg h,Int.tmod_eq_emod_of_nonneg h,Int.tmod_eq_emod_of_nonneg h,Bool.eq_iff_iff];simp only[Bool.and_eq_true,Bool.or_eq_true,beq_iff_eq,bne_iff_ne];omega
def begP(y:Int):Int:=365*(y-1800)+zeQ (y-1)-436
theorem zbE(y:Int):zaC y 1=begP y:=by
 unfold zaC begP;simp[zez]
theorem beg_up{y:Int}(h:1800<=y):begP (y+1)=begP y+365+(if zgJ y then 1 else 0):=by
 unfold begP;rw[zdu Mcy,zdu Mcy,znB Mcy];have e:y+1-1=y:=Mcy;rw[e];split
 ·exact MbI
 ·exact MbI
theorem beg_low{day:Int}(h0:0<=day)(h1:day<=200000):begP (1800+day.tdiv 366)<=day:=by
 unfold begP;rw[Int.tdiv_eq_ediv_of_nonneg h0,zdu Mcy];omega
theorem znC{day:Int}(h0:0<=day)(h1:day<=200000):day<begP (1800+day.tdiv 366+10+1):=by
 unfold begP;rw[Int.tdiv_eq_ediv_of_nonneg h0,zdu Mcy];omega
theorem znD(y:Int){m:Nat}(h1:1<=m)(h2:m<=12):za6 y m=if(m:Int)==2&&zgJ y then 29 else[31,28,31,30,31,30,31,31,30,31,30,31].getD (m-1) 0:=by
 unfold za6;have:m=1\/m=2\/m=3\/m=4\/m=5\/m=6\/m=7\/m=8\/m=9\/m=10\/m=11\/m=12:=by omega
 rcases this with rfl|rfl|rfl|rfl|rfl|rfl|rfl|rfl|rfl|rfl|rfl|rfl<;>rfl
theorem zdA(y:Int){m:Nat}(h1:1<=m)(h2:m<=12):28<=za6 y m/\za6 y m<=31:=by
 rw[znD y h1 h2];have:m=1\/m=2\/m=3\/m=4\/m=5\/m=6\/m=7\/m=8\/m=9\/m=10\/m=11\/m=12:=by omega
 rcases this with rfl|rfl|rfl|rfl|rfl|rfl|rfl|rfl|rfl|rfl|rfl|rfl<;>simp<;>split<;>simp
theorem zfx(y:Int){m:Nat}(h:1<=m):zaC y (m+1)=zaC y m+za6 y m:=by
 obtain⟨k,rfl⟩:∃k,m=k+1:=⟨m-1,by omega⟩
 unfold zaC;simp only[Nat.add_sub_cancel,zez];have:((k+1:Nat):Int)=(k:Int)+1:=by omega
 rw[this];omega
theorem zj4{y:Int}(h:1800<=y):zaC (y+1) 1=zaC y 12+za6 y 12:=by
 rw[zbE,beg_up h,<-zbE,show(12:Int)=((12:Nat):Int) by rfl,<-zfx y Mcy];unfold zaC;have e:zez y (12+1-1)=365+(if zgJ y then 1 else 0):=by
  simp only[zez,za6,lensP];cases zgJ y<;>simp
 rw[e];simp[zez];omega
structure DateIs (day y:Int) (m:Nat):Prop where
 y0:1800<=y
 y1:y<=2400
 m0:1<=m
 m1:m<=12
 lo:zaC y m<=day
 hi:day<zaC y m+za6 y m
theorem zlb{day:Int}{f:Nat}{y:Int}(h:zaC (y+1) 1<=day):zeh day (f+1) y=zeh day f (y+1):=by
 rw[zeh,if_pos Mdl]
theorem zlc{day:Int}{y:Int}(h:¬zaC (y+1) 1<=day):∀f,zeh day f y=y
 |0=>rfl
 |f+1=>by rw[zeh,if_neg Mdl]
theorem zj5{day y:Int}{f m:Nat}(hm:m<12)(h:zaC y (m+1)<=day):zdj day y (f+1) m=zdj day y f (m+1):=by
 rw[zdj,if_pos (by simp[hm,h])]
theorem zj6{day y:Int}{m:Nat}(h:¬(m<12/\zaC y (m+1)<=day)):∀f,zdj day y f m=m
 |0=>rfl
 |f+1=>by rw[zdj,if_neg Mdl]
section
open Go.Shelf
def zgj:List Int:=[31,28,31,30,31,30,31,31,30,31,30,31]
def LensIn(w:World):Prop:=4<w.heap.size/\∀(k:Nat) (n:Int),zgj[k]?=some n->w.cell? ⟨4,k,none⟩=some (.int .i64 n)
theorem LensIn.keep{w W:World}{n:Nat}(h:LensIn w)(hB:Below n w W)(hn:w.heap.size<=n:=by first|exact Nat.le_refl _|omega):LensIn W:=
 ⟨Nat.lt_of_lt_of_le h.1 hB.size,fun k x hx=>(hB.cell (p:=⟨4,_,none⟩) (Nat.lt_of_lt_of_le h.1 hn)).trans (h.2 k x hx)⟩
theorem ze6(n lo hi:Int)(w:World):Calls Tryz.prog 193 #[.int .i64 n,.int .i64 lo,.int .i64 hi] w (Ret0 w (.bool (inR n lo hi))):=by
 go_enter Tryz.func193,Tryz.ntmps193
 go_wp2_with fail
 all_goals go_ret
 all_goals exact⟨by first|(simp_all[inR];done)|(simp_all[inR];omega),rfl⟩
theorem zgU(n:Int)(w:World):Calls Tryz.prog 192 #[.int .i64 n] w (Ret0 w (.bool (zbn n))):=by
 go_enter Tryz.func192,Tryz.ntmps192
 go_wp2_with (go_at_call 193;refine(ze6 _ _ _ _).mono ?_;rintro e wq ⟨rfl,rfl⟩)
 go_ret
 exact⟨rfl,rfl⟩
theorem zou(y:Int)(w:World)(h0:0<=y)(h1:y<=100000):Calls Tryz.prog 221 #[.int .i64 y] w (Ret0 w (.bool (zgJ y))):=by
 rw[<-leapQ_eq h0];have w1:wrap64 (y.tmod 4)=y.tmod 4:=McY;have w2:wrap64 (y.tmod 100)=y.tmod 100:=McY;have w3:wrap64 (y.tmod 400)=y.tmod 400:=McY;have v1:IntKind.i64.wrap (y.tmod 4)=y.tmod 4:=McT;have v2:IntKind.i64.wrap (y.tmod 100)=y.tmod 100:=McT;have v3:IntKind.i64.wrap (y.tmod 400)=y.tmod 400:=McT;go_enter Tryz.func221,Tryz.ntmps221
 go_wp2_with fail
 all_goals go_ret
 all_goals exact⟨by simp[leapQ,Int.tmod_eq_emod_of_nonneg h0, *],rfl⟩
theorem zfy(y:Int)(m:Nat)(w:World)(hL:LensIn w)(h0:0<=y)(h1:y<=100000)(cd:1<=m)(cF:m<=12):Calls Tryz.prog 208 #[.int .i64 y,.int .i64 m] w (Ret0 w (.int .i64 (za6 y m))):=by
 have hd:=znD y cd cF;have ae:m-1<zgj.length:=by simp[zgj];omega
 have hc:=hL.2 (m-1) _ (List.getElem?_eq_getElem ae);have hg:zgj.getD (m-1) 0=zgj[m-1]:=Mdm;have cy:[31,28,31,30,31,30,31,31,30,31,30,31].getD (m-1) 0=zgj[m-1]:=hg;rw[cy]at hd;generalize zgj[m-1]=len at hc hd;have hw:IntKind.i64.wrap ((m:Int)-1)=(m:Int)-1:=IntWalk.i64_in _ Mcy;have tZ:(0:Int)<=(m:Int)-1:=Mcy;have cC:(m:Int)-1<12:=Mcy;have fI:((m:Int)-1).toNat=m-1:=Mcy;have HD:=zHi hd;clear hd hg cy hL ae;by_cases h2:m=2
 ·subst h2;cases hl:zgJ y
  ·exact Mav
  ·exact Mav
 ·have hb:((m:Int)==2)=false:=Mes;have bs:¬(m:Int)=2:=Mcy;go_enter Tryz.func208,Tryz.ntmps208
  go_wp2_with fail
  go_ret
  exact⟨by rw[HD.o,hb];simp,rfl⟩
theorem zim(y:Int)(w:World)(h0:1800<=y)(h1:y<=100000):Calls Tryz.prog 220 #[.int .i64 y] w (Ret0 w (.int .i64 (begP y))):=by
 have hp:0<=y-1:=Mcy;have e1:(y-1).tdiv 4=(y-1)/4:=Int.tdiv_eq_ediv_of_nonneg hp;have e2:(y-1).tdiv 100=(y-1)/100:=Int.tdiv_eq_ediv_of_nonneg hp;have e3:(y-1).tdiv 400=(y-1)/400:=Int.tdiv_eq_ediv_of_nonneg hp;have hv:begP y=365*(y-1800)+(y-1)/4-(y-1)/100+(y-1)/400-436:=by unfold begP;rw[zdu hp];omega
 have HV:=zHi hv;clear hv;have k0:IntKind.i64.wrap (y-1)=y-1:=IntWalk.i64_in _ Mcy;have k1:IntKind.i64.wrap (y-1800)=y-1800:=IntWalk.i64_in _ Mcy;have k2:IntKind.i64.wrap (365*(y-1800))=365*(y-1800):=IntWalk.i64_in _ Mcy;go_enter Tryz.func220,Tryz.ntmps220
 exact MbP
theorem zbW{y:Int}{m:Nat}(h0:1800<=y)(h1:y<=2500)(cd:1<=m)(cF:m<=13):0<=zaC y m/\zaC y m<=1000000:=by
 have hb:begP y=365*(y-1800)+(y-1)/4-(y-1)/100+(y-1)/400-436:=by unfold begP;rw[zdu Mcy];omega
 have h:∀k:Nat,k<=12->begP y<=zaC y (k+1)/\zaC y (k+1)<=begP y+31*k:=fun k=>by
  induction k with
  |zero=>intro _;rw[zbE];omega
  |succ k ih=>
   intro hk;have:=ih Mcy;have h2:=zfx y (show 1<=k+1 by omega);have h3:=zdA y (show 1<=k+1 by omega) (show k+1<=12 by omega);omega
 obtain⟨k,rfl⟩:∃k,m=k+1:=⟨m-1,by omega⟩
 have:=h k Mcy;omega
theorem dayOf_any(y:Int)(m:Nat)(d:Int)(w:World)(hL:LensIn w)(h0:1800<=y)(h1:y<=2500)(cd:1<=m)(cF:m<=12)(cf:0<=d)(dU:d<=1000):
 Calls Tryz.prog 207 #[.int .i64 y,.int .i64 m,.int .i64 d] w (Ret0 w (.int .i64 (zaC y m+d-1))):=by
 have jh:=zbW (m:=1) h0 h1 Mcy Mcy;rw[zbE]at jh;have k0:IntKind.i64.wrap (begP y+d)=begP y+d:=IntWalk.i64_in _ Mcy;have k1:IntKind.i64.wrap (begP y+d-1)=begP y+d-1:=IntWalk.i64_in _ Mcy;go_enter Tryz.func207,Tryz.ntmps207
 go_wp2_with (go_at_call 220;refine(zim _ _ h0 Mcy).mono ?_;rintro e wq ⟨rfl,rfl⟩)
 go_loop [7,8] (fun n i=>∃k:Nat,1<=k/\k<=m/\i=.int .i64 k/\n=.int .i64 (zaC y k+d-1)) (fun _ i=>m-(intOf i).toNat)
 case atStart=>exact⟨1,by omega,cd,rfl,by rw[zbE]⟩
 case round=>
  obtain⟨k,fQ,pN,rfl,rfl⟩:=hrel;by_cases ae:k<m
  ·have hb:=zbW (m:=k) h0 h1 fQ Mcy;have eR:=zdA y fQ (show k<=12 by omega);have hu:=zfx y fQ;have HU:=zHi hu;have k2:IntKind.i64.wrap (zaC y k+d-1+za6 y k)=zaC y k+d-1+za6 y k:=IntWalk.i64_in _ Mcy;have br:(k:Int)<(m:Int):=Mcy;clear hu;go_wp2_with (go_at_call 208;refine(zfy y k _ hL Mcy Mcy fQ Mcy).mono ?_;rintro e wq ⟨rfl,rfl⟩)
   go_round
   case rel=>exact⟨k+1,by omega,by omega,by go_num,by rw[HU.o];exact zb5 Mcy⟩
   case measure=>simp[intOf];omega
  ·exact Mcs
def zmz(y m d:Int):Value:=.agg #[.int .i64 y,.int .i64 m,.int .i64 d]
theorem zld{fn:Func}{p:Tmp}(h:fn.results= #[.cell p 237])(tmps:Array Value)(w:World)(B:Nat)(x y z:Int)(hp:tmps.getD p undef=.pointer (some ⟨B,0,none⟩))
 (h0:w.cell? ⟨B,0,none⟩=some (.int .i64 x))(h1:w.cell? ⟨B,1,none⟩=some (.int .i64 y))(h2:w.cell? ⟨B,2,none⟩=some (.int .i64 z)):(results fn tmps).run Tryz.prog w=.ok (zmz x y z) w:=by
 rw[zdC h,hp];unfold zmz;go_simp
theorem J_set3{w:World}{g:Nat}{z0 z1 z2 a b c:Value}{t:TypeId}{fr:Nat×Nat}(h:w.heap[g]?=some (.cells #[z0,z1,z2] t fr)):(((w.setCell ⟨g,0,none⟩ a).setCell ⟨g,1,none⟩ b).setCell ⟨g,2,none⟩ c).heap[g]?=some (.cells #[a,b,c] t fr):=by
 have:=Joins.block_setCell (i:=2) (Joins.block_setCell (i:=1) (Joins.block_setCell (i:=0) h a) b) c;simpa using this
theorem zov(day:Int)(w:World)(hL:LensIn w)(h0:0<=day)(h1:day<=200000):
 Calls Tryz.prog 206 #[.int .i64 day] w (fun e w'=>DateIs day (zbQ day) (zbe day)/\Ret w (zmz (zbQ day) (zbe day) (day-zaC (zbQ day) (zbe day)+1)) e w'):=by
 have dM:=beg_low h0 h1;have eU:=znC h0 h1;have wS:day.tdiv 366=day/366:=Int.tdiv_eq_ediv_of_nonneg h0;have gC:0<=day/366:=Mcy;have cL:day/366<=546:=Mcy;rw[wS]at dM eU;have yC:zbQ day=zeh day 10 (1800+day/366):=by unfold zbQ;rw[wS]
 obtain⟨HY,HH⟩:=yH2 yC eU;clear yC eU;go_enter Tryz.func206,Tryz.ntmps206
 go_wp2_with fail
 go_loopg [] 10 (fun gg wr=>∃(f:Nat) (y:Int),f<=gg/\y+f=1800+day/366+10/\1800<=y/\y<=2400/\Hid (zbQ day=zeh day f y)/\Hid (begP y<=day)/\Below w.heap.size w wr/\wr.heap[w.heap.size]?=some (.cells #[.int .i64 0,.int .i64 0,.int .i64 0] 237)/\wr.heap[w.heap.size+1]?=some (.cells #[.int .i64 y,.int .i64 1,.int .i64 0] 237))
 case atStart=>exact⟨10,1800+day/366,Nat.le_refl _,by omega,by omega,by omega,HY.o,dM,Bw,zal (zar _ _ _ rfl),zar _ _ _ McB⟩
 case round=>
  obtain⟨f,y,hf,Lp,ll,Lo,vz,fx,hB,g0,g1⟩:=hrel;have a0:wr.cell? ⟨w.heap.size+1,0,none⟩=some (.int .i64 y):=McE;have a1:wr.cell? ⟨w.heap.size+1,1,none⟩=some (.int .i64 1):=McE;have a2:wr.cell? ⟨w.heap.size+1,2,none⟩=some (.int .i64 0):=McE;have z0:wr.frozen? ⟨w.heap.size+1,0,none⟩=false:=McM;have z1:wr.frozen? ⟨w.heap.size+1,1,none⟩=false:=McM;have z2:wr.frozen? ⟨w.heap.size+1,2,none⟩=false:=McM;have b0:wr.cell? ⟨w.heap.size,0,none⟩=some (.int .i64 0):=McC;have b1:wr.cell? ⟨w.heap.size,1,none⟩=some (.int .i64 0):=McC;have b2:wr.cell? ⟨w.heap.size,2,none⟩=some (.int .i64 0):=McC;have x0:wr.frozen? ⟨w.heap.size,0,none⟩=false:=McL;have x1:wr.frozen? ⟨w.heap.size,1,none⟩=false:=McL;have x2:wr.frozen? ⟨w.heap.size,2,none⟩=false:=McL;have e1:w.heap.size+1<wr.heap.size:=zab g1;have e0:w.heap.size<wr.heap.size:=zab g0;have hLr:=hL.keep hB;have k0:IntKind.i64.wrap (y+1)=y+1:=IntWalk.i64_in _ Mcy;by_cases hc:begP (y+1)<=day
  ·have K2:f≠0:=by
    exact MbN
   obtain⟨f',rfl⟩:∃f',f=f'+1:=⟨f-1,by omega⟩
   have HN:Hid (zbQ day=zeh day f' (y+1)):=by
    show _=_;rw[vz.o,zlb Mei]
   have HC:=zHi hc;go_wp2_with (go_at_call 220;refine(zim _ _ Mcy Mcy).mono ?_;rintro e wq ⟨rfl,rfl⟩)
   exact MT
  ·have HN:Hid (zbQ day=y):=by
    show _=_;rw[vz.o,zlc Mei]
   have rZ:=zbW (m:=1) ll Mcy Mcy Mcy;rw[zbE]at rZ;have k1:IntKind.i64.wrap (day-begP y)=day-begP y:=IntWalk.i64_in _ Mcy;have xC:zbe day=zdj day y 12 1:=by unfold zbe;rw[HN.o]
   have kL:=zHi xC;have yD:day<zaC y 12+za6 y 12:=by
    rw[<-zj4 ll,zbE];omega
   have BB:=zHi yD;have lD:=fx.o;have aj:Hid (zaC y 1<=day):=by show _<=_;rw[zbE];exact lD
   clear xC yD lD;obtain⟨G0,G1⟩:=yH2 g0 g1;go_upto_region 5 with(go_at_call 220;refine(zim _ _ Mcy Mcy).mono ?_;rintro e wq ⟨rfl,rfl⟩)
   clear a0 a1 a2 z0 z1 z2 b0 b1 b2 x0 x1 x2 g0 g1;go_loopg [0] 12 (fun gg v wm=>∃(m:Nat),1<=m/\m<=12/\12-m<=gg/\v=.int .i64 (day-zaC y m)/\Hid (zbe day=zdj day y (13-m) m)/\Hid (zaC y m<=day)/\Below w.heap.size w wm/\wm.heap[w.heap.size]?=some (.cells #[.int .i64 0,.int .i64 0,.int .i64 0] 237)/\wm.heap[w.heap.size+1]?=some (.cells #[.int .i64 y,.int .i64 m,.int .i64 0] 237))
   case atStart=>exact⟨1,by omega,by omega,by omega,by rw[zbE],kL.o,aj.o,hB,G0.o,G1.o⟩
   case round=>
    obtain⟨m,cd,cF,sb,rfl,HM,qy,EM,g0,g1⟩:=hrel;have a0:wr.cell? ⟨w.heap.size+1,0,none⟩=some (.int .i64 y):=McE;have a1:wr.cell? ⟨w.heap.size+1,1,none⟩=some (.int .i64 m):=McE;have a2:wr.cell? ⟨w.heap.size+1,2,none⟩=some (.int .i64 0):=McE;have z0:wr.frozen? ⟨w.heap.size+1,0,none⟩=false:=McM;have z1:wr.frozen? ⟨w.heap.size+1,1,none⟩=false:=McM;have z2:wr.frozen? ⟨w.heap.size+1,2,none⟩=false:=McM;have b0:wr.cell? ⟨w.heap.size,0,none⟩=some (.int .i64 0):=McC;have b1:wr.cell? ⟨w.heap.size,1,none⟩=some (.int .i64 0):=McC;have b2:wr.cell? ⟨w.heap.size,2,none⟩=some (.int .i64 0):=McC;have x0:wr.frozen? ⟨w.heap.size,0,none⟩=false:=McL;have x1:wr.frozen? ⟨w.heap.size,1,none⟩=false:=McL;have x2:wr.frozen? ⟨w.heap.size,2,none⟩=false:=McL;have e1:w.heap.size+1<wr.heap.size:=zab g1;have e0:w.heap.size<wr.heap.size:=zab g0;have F7:=hL.keep EM;have eR:=zdA y cd cF;have oE:=zbW (m:=m) ll Mcy cd Mcy;have hu:=zfx y cd;have HU:=zHi hu;have cV:=qy.o;have k2:IntKind.i64.wrap (day-zaC y m-za6 y m)=day-zaC y m-za6 y m:=IntWalk.i64_in _ Mcy;have k3:IntKind.i64.wrap ((m:Int)+1)=(m:Int)+1:=IntWalk.i64_in _ Mcy;have k4:IntKind.i64.wrap (day-zaC y m+1)=day-zaC y m+1:=IntWalk.i64_in _ Mcy;by_cases cx:za6 y m<=day-zaC y m
    ·have sx:m<12:=by
      rcases Nat.lt_or_ge m 12 with h|h
      ·exact h
      ·have:=BB.o;obtain rfl:m=12:=by omega
       rw[show((12:Nat):Int)=12 from rfl]at cx;omega
     have kM:Hid (zbe day=zdj day y (13-(m+1)) (m+1)):=by
      show _=_;rw[HM.o,show 13-m=(13-(m+1))+1 by omega,zj5 sx (by rw[hu];omega)]
     have xt:zaC y (m+1)<=day:=by rw[hu];omega
     have fX:=zHi xt;clear hu cV xt;go_wp2_with (go_at_call 208;refine(zfy y m _ F7 Mcy Mcy cd cF).mono ?_;rintro e wq ⟨rfl,rfl⟩)
     go_roundg (12-(m+1))
     case measure=>omega
     case rel=>
      refine⟨m+1,by omega,by omega,Nat.le_refl _,by rw[HU.o];exact zb5 Mcy,kM,fX.o,by repeat(first|exact B_refl|exact Below.refl _ _|assumption|with_reducible refine zad ?_ _|with_reducible refine zbv ?_ _|with_reducible refine zaK ?_|with_reducible refine zd3 ?_ _|with_reducible refine zaP ?_ Mdu _),J_ne Mcy g0,?_⟩;exact MbT
    ·have kM:Hid (zbe day=m):=by
      show _=_;rw[HM.o,zj6 (by rw[hu];omega)]
     have HD:Hid (DateIs day (zbQ day) (zbe day)):=by
      show DateIs _ _ _;rw[HN.o,kM.o];exact⟨ll,by omega,cd,cF,cV,by omega⟩
     clear hu cV;go_wp2_with (go_at_call 208;refine(zfy y m _ F7 Mcy Mcy cd cF).mono ?_;rintro e wq ⟨rfl,rfl⟩)
     exact Mw
theorem zow(day mo:Int)(w:World)(hL:LensIn w)(h0:0<=day)(h1:day<=200000)(nK: -12000<=mo)(cd:mo<=12000):
 Calls Tryz.prog 194 #[.int .i64 day,.int .i64 mo] w (fun e w'=>∃n:Int,∃ok:Bool,(ok=true->zbR day mo=n/\0<=n)/\(ok=false->zbR day mo= -1)/\Ret w (.tuple #[.int .i64 n,.bool ok]) e w'):=by
 have hA:zbR day mo=if !inR ((zbQ day*12+zbe day-1+mo)/12) 1800 2347 then-1 else
  if zbn (zaC ((zbQ day*12+zbe day-1+mo)/12) ((zbQ day*12+zbe day-1+mo)%12+1).toNat+min (day-zaC (zbQ day) (zbe day)+1) (za6 ((zbQ day*12+zbe day-1+mo)/12) ((zbQ day*12+zbe day-1+mo)%12+1))-1)then
   zaC ((zbQ day*12+zbe day-1+mo)/12) ((zbQ day*12+zbe day-1+mo)%12+1).toNat+min (day-zaC (zbQ day) (zbe day)+1) (za6 ((zbQ day*12+zbe day-1+mo)/12) ((zbQ day*12+zbe day-1+mo)%12+1))-1 else-1:=rfl
 have HA:=zHi hA;clear hA;have HD:=zHi (fun W h=>zov day W h h0 h1);generalize zbQ day=y at*;generalize zbe day=m at*;generalize zbR day mo=R at*;go_enter Tryz.func194,Tryz.ntmps194
 go_upto_region 2 with(go_at_call 206;refine(HD.o _ hL).mono ?_;rintro e wq ⟨CC,rfl,z,rfl⟩;simp only[zmz])
 obtain⟨d1,d2,d3,d4,d5,d6⟩:=CC;obtain⟨f1,f2⟩:=zdA y d3 d4;obtain⟨X,hX⟩:∃X,X=day-zaC y m+1:=⟨_,rfl⟩
 obtain⟨N,hN⟩:∃N,N=12*y+m-1+mo:=⟨_,rfl⟩
 have sW:Hid (R=if !inR (N/12) 1800 2347 then-1 else if zbn (zaC (N/12) (N%12+1).toNat+min X (za6 (N/12) (N%12+1))-1)then zaC (N/12) (N%12+1).toNat+min X (za6 (N/12) (N%12+1))-1 else-1):=by
  show _=_;rw[HA.o,hX,hN,show y*12+(m:Int)-1+mo=12*y+m-1+mo by omega]
 have JK:1<=X:=Mcy;have zI:X<=31:=Mcy;rw[<-hX];have k1:IntKind.i64.wrap (12*y)=12*y:=IntWalk.i64_in _ Mcy;have k2:IntKind.i64.wrap (12*y+m)=12*y+m:=IntWalk.i64_in _ Mcy;have k3:IntKind.i64.wrap (12*y+m-1)=12*y+m-1:=IntWalk.i64_in _ Mcy;have k4:IntKind.i64.wrap (12*y+m-1+mo)=N:=by rw[hN];exact IntWalk.i64_in _ Mcy
 have C2: -20000<=N/\N<=100000:=Mcy;obtain⟨ri,C3⟩:=C2;clear HA hX hN HD d5 d6 f1 f2;by_cases hN0:N<0
 ·have C0:inR (N/12) 1800 2347=false:=by simp[inR];omega
  have HR:Hid (R= -1):=by show _=_;rw[sW.o,C0];rfl
  clear C0;go_wp2_with fail
  go_ret2
  exact⟨0,false,by simp,fun _=>HR.o,Ret.of rfl Bw⟩
 ·have C0:0<=N:=Mcy;have gC:0<=N/12:=Mcy;obtain⟨mm,bO⟩:∃mm:Nat,(mm:Int)=N%12+1:=⟨(N%12+1).toNat,by omega⟩
  have dr:1<=mm:=Mcy;have ju:mm<=12:=Mcy;have ht:(N%12+1).toNat=mm:=Mcy;have cH:Hid (R=if !inR (N/12) 1800 2347 then-1 else if zbn (zaC (N/12) mm+min X (za6 (N/12) mm)-1)then zaC (N/12) mm+min X (za6 (N/12) mm)-1 else-1):=by
   show _=_;rw[sW.o,ht,<-bO]
  have k5:IntKind.i64.wrap (N%12+1)=(mm:Int):=by rw[bO];exact IntWalk.i64_in _ Mcy
  obtain⟨Y,hY⟩:∃Y,N/12=Y:=⟨_,rfl⟩
  rw[hY]at cH;have wt:Y<=10000:=Mcy;have cL:0<=Y:=Mcy;clear sW ht;have pg:=zHi bO;clear bO;cases aH:inR Y 1800 2347
  ·have HR:Hid (R= -1):=MdV;go_wp2_with (go_at_call 193;refine(ze6 _ _ _ _).mono ?_;rintro e wq ⟨rfl,rfl⟩;rw[aH])
   all_goals go_ret2
   all_goals exact⟨0,false,by simp,fun _=>HR.o,Ret.of rfl Bw⟩
  ·have wu:1800<=Y/\Y<=2347:=by simpa[inR]using aH
   obtain⟨f1,f2⟩:=zdA Y dr ju;have rZ:=zbW (m:=mm) wu.1 Mcy dr Mcy;have HR:Hid (R=if zbn (zaC Y mm+min X (za6 Y mm)-1)then zaC Y mm+min X (za6 Y mm)-1 else-1):=MdV;have ew:Hid (∀W,Below w.heap.size w W->LensIn W):=fun W h=>hL.keep h
   clear cH hL;go_upto_region 6 with(go_at_call 193;refine(ze6 _ _ _ _).mono ?_;rintro e wq ⟨rfl,rfl⟩;rw[aH])
   obtain⟨uQ,uA⟩:=yH2 (fun W (hW:Below w.heap.size w W)=>zfy Y mm W (ew.o _ hW) cL Mcy dr ju) (fun d W (hW:Below w.heap.size w W) (ik:0<=d) (cf:d<=1000)=>dayOf_any Y mm d W (ew.o _ hW) wu.1 Mcy dr ju ik cf);generalize za6 Y mm=L at*;clear rZ;refine zaj Mcz Mcz ?_;repeat(first|go_big_quiet_skip|(go_big_quiet_want;go_big_quiet_op;first|go_big_quiet_on|(apply Exists.intro;refine⟨fun _=>?_,?_⟩;(first|(go_at_call 208;exact zhQ (uQ.o _ Bw))|(go_at_call 207;exact zhQ (uA.o _ _ Bw Mcy Mcy)));go_big_quiet_on)))
   refine wpQuiet_nil ?_;rintro _ ⟨zq,rfl⟩;generalize hO:zaC Y mm+min X L-1=out at*;have HO:=zHi hO;clear hO uQ uA ew;cases hd:zbn out
   ·have jB:=zHi hd;go_wp2_with (go_at_call 192;refine(zgU _ _).mono ?_;rintro e wq ⟨rfl,rfl⟩;rw[hd])
    exact MbQ
   ·have jB:=zHi hd;go_wp2_with (go_at_call 192;refine(zgU _ _).mono ?_;rintro e wq ⟨rfl,rfl⟩;rw[hd])
    exact MaZ
theorem zkk(day mo:Int)(w:World)(hL:LensIn w)(h0:0<=day)(h1:day<=200000)(nK:0<=mo)(cd:mo<=12000):
 Calls Tryz.prog 176 #[.int .i64 day,.int .i64 mo] w (fun e w'=>∃n er:Int,(er=0->zbR day mo=n/\0<=n)/\(er≠0->zbR day mo= -1)/\Ret w (.tuple #[.int .i64 n,.int .i64 er]) e w'):=by
 have cf:inR day 0 200000=true:=by simp[inR];omega
 have dU:inR mo (-12000) 12000=true:=by simp[inR];omega
 have HL:=zHi (zow day mo w hL h0 h1 Mcy cd);go_enter Tryz.func176,Tryz.ntmps176
 go_wp2_with (first
  |(go_at_call 192;refine(zgU _ _).mono ?_;rintro e wq ⟨rfl,rfl⟩;unfold zbn;rw[cf])
  |(go_at_call 193;refine(ze6 _ _ _ _).mono ?_;rintro e wq ⟨rfl,rfl⟩;rw[dU])
  |(go_at_call 194;refine(HL.o).mono ?_;rintro e wq ⟨n,ok,h1,h2,rfl,z,rfl⟩;obtain⟨H1,H2⟩:=yH2 h1 h2;clear h1 h2;cases ok))
 all_goals go_ret2
 all_goals first
  |exact⟨0,2,by simp,fun _=>H2.o trivial,Ret.of rfl Bw⟩
  |exact⟨n,0,fun _=>H1.o trivial,by simp,Ret.of rfl Bw⟩
theorem zj7(day ys:Int)(w:World)(hL:LensIn w)(h0:0<=day)(h1:day<=200000)(nK:0<=ys)(cd:ys<=99):
 Calls Tryz.prog 151 #[.int .i64 day,.int .i64 ys] w (Ret w (.int .i64 (zcd day ys))):=by
 have HL:=zHi (zkk day (12*ys) w hL h0 h1 Mcy Mcy);go_enter Tryz.func151,Tryz.ntmps151
 go_wp2_with (go_at_call 176;refine(HL.o).mono ?_;rintro e wq ⟨n,er,k1,k2,rfl,z,rfl⟩;obtain⟨H1,H2⟩:=yH2 k1 k2;clear k1 k2;by_cases kX:er=0)
 all_goals go_ret
 all_goals first
  |exact Ret.of (zb5 (by unfold zcd;exact(H1.o (by first|trivial|exact kX)).1.symm)) Bw
  |exact Ret.of (zb5 (by unfold zcd;exact(H2.o (by first|trivial|exact kX)).symm)) Bw
end
def zbg(q:Rat):Rat:=if bigQ q then 0 else q
theorem zgk(q:Rat):bigQ (zbg q)=false:=by
 unfold zbg;cases h:bigQ q
 ·simpa using h
 ·simp[bigQ]
theorem zcu{q:Rat}(h:0<=q):0<=zbg q:=by
 unfold zbg;split
 ·exact Rat.le_refl
 ·exact h
theorem zgV{q:Rat}(h:0<=q):zbg q<=q:=by
 unfold zbg;split
 ·exact h
 ·exact Rat.le_refl
theorem zeX{q:Rat}(h:bigQ q=false):zbg q=q:=by simp[zbg,h]
def zeY(own:Rat)(p:ByteArray×Rat)(x:Parts×Bool):Parts×Bool:=
 (setP x.1 p.1 (zbg (zag x.1 p.1+zbg (own*p.2))),x.2||bigQ (own*p.2)||bigQ (zag x.1 p.1+zbg (own*p.2)))
def zec(own:Rat):Parts->Parts×Bool->Parts×Bool
 | [],x=>x
 |p::l,x=>zec own l (zeY own p x)
theorem zeZ(own:Rat):∀(a b:Parts) (x:Parts×Bool),zec own (a++b) x=zec own b (zec own a x)
 | [],_,_=>rfl
 |p::a,b,x=>zeZ own a b _
theorem zfa{own:Rat}:∀ {l:Parts} {x:Parts×Bool},x.2=true->(zec own l x).2=true
 | [],_,h=>h
 |p::l,x,h=>zfa (l:=l) (by simp[zeY,h])
theorem zhA{l:Parts}(h:GoodParts l){n:ByteArray}{q:Rat}(hq:0<=q):GoodParts (setP l n q):=by
 by_cases h0:q=0
 ·subst h0;rw[zh9 h.asc];exact zbK h
 ·refine⟨set_asc h.asc n q,fun p hp=>?_⟩;rcases zkh hp with rfl|hp
  ·show 0<q;grind
  ·exact h.pos p hp
theorem zm0{l:Parts}(h:GoodParts l)(n:ByteArray)(q:Rat):sumQ (setP l n q)=sumQ l-zag l n+q:=by
 have hw:=zcg (n:=n) h;rw[zil h.asc];by_cases hq:q==0
 ·rw[if_pos hq];have:q=0:=by simpa using hq
  subst this;grind
 ·rw[if_neg hq,zbV];grind
theorem zen{l:Parts}{n:ByteArray}{q:Rat}(h:zaE l=false)(hq:bigQ q=false):zaE (setP l n q)=false:=by
 unfold zaE at*;rw[List.any_eq_false]at*;intro p hp;rcases zkh hp with rfl|hp
 ·simpa using hq
 ·exact h p hp
theorem zin{n:ByteArray}{q:Rat}:∀ {l:Parts},(setP l n q).length<=l.length+1
 | []=>by unfold setP;split<;>simp
 |x::l=>by
  unfold setP;have:=zin (n:=n) (q:=q) (l:=l);split
  ·simpa using this
  ·split
   ·split<;>simp<;>omega
   ·split<;>simp
theorem zcL{l:Parts}(n:ByteArray)(h:zaE l=false):bigQ (zag l n)=false:=by
 unfold zag;cases hf:l.find? (fun p=>zae p.1 n)with
 |none=>simp[bigQ]
 |some p=>
  unfold zaE at h;rw[List.any_eq_false]at h;simpa using h p (List.mem_of_find?_eq_some hf)
theorem zdv{l:Parts}(h:GoodParts l)(n:ByteArray):zag l n<=sumQ l:=by
 have h1:=zcg (n:=n) h;have h2:=zbr (l:=zas l n) fun p hp=>by have:=(zbK h (n:=n)).pos p hp;grind
 grind
theorem zbZ{q:Rat}(h0:0<=q)(h1:q<=1)(hb:bigQ q=false):zaI q:=by
 unfold bigQ at hb;have hd:=q.den_pos;have bs:(q.den:Int)<=1000000000:=by simpa using hb
 rw[Rat.le_iff]at h0 h1;have h2:0<=q.num:=MdC;have h3:q.num<=(q.den:Int):=Mc4;exact⟨by omega,by omega⟩
structure Bd (out:Parts) (t:Rat):Prop where
 good:GoodParts out
 small:zaE out=false
 le:sumQ out<=t
theorem Bd.share{out:Parts}{t:Rat}(h:Bd out t)(ht:t<=1)(n:ByteArray):zaI (zag out n):=
 zbZ (zb9 h.good n) (by have:=zdv h.good n;have:=h.le;grind) (zcL n h.small)
theorem Bd.set{out:Parts}{t g:Rat}(h:Bd out t)(n:ByteArray)(hg:0<=g):Bd (setP out n (zbg (zag out n+g))) (t+g):=by
 have hs:=zb9 h.good n;have h1:0<=zag out n+g:=Mc0;refine⟨zhA h.good (zcu h1),zen h.small (zgk _),?_⟩;rw[zm0 h.good];have:=zgV h1;have:=h.le;grind
theorem Bd.gain{own:Rat}{out:Parts}{t:Rat}{p:ByteArray×Rat}{f:Bool}(h:Bd out t)(ho:0<=own)(hp:0<=p.2):Bd (zeY own p (out,f)).1 (t+own*p.2):=by
 have hm:0<=own*p.2:=Rat.mul_nonneg ho hp;have h1:=h.set p.1 (zcu hm);have h2:=zgV hm;exact⟨h1.good,h1.small,by have:=h1.le;grind [zeY]⟩
theorem znE{out:Parts}(h:GoodParts out){n:ByteArray}{g:Rat}(hg:0<=g)(hb:bigQ (zag out n+g)=false):setP out n (zbg (zag out n+g))=za3 out n g:=by
 rw[zeX hb,zik h hg]
theorem zle{n:ByteArray}{q:Rat}:∀ {l:Parts},GoodParts l->0<q->(n,zag l n+q)∈za3 l n q
 | [],_,hq=>by
   have:(q==0)=false:=by rw[beq_eq_false_iff_ne];grind
   simp[za3,this,zag,Rat.zero_add]
 |x::l,h,hq=>by
  have gC:(q==0)=false:=by rw[beq_eq_false_iff_ne];grind
  have ht:GoodParts l:=⟨(List.pairwise_cons.1 h.asc).2,fun p hp=>h.pos p Mdw⟩
  rw[za3,gC];cases hl:zbh x.1 n
  ·cases hs:zae x.1 n
   ·have ae:zbh n x.1=true:=by
     rcases zda x.1 n with h1|h1|h1
     ·rw[hl]at h1;cases h1
     ·exact absurd h1 (zcn.1 hs)
     ·exact h1
    have h0:zag (x::l) n=0:=(zdD fun p hp=>by
     rcases List.mem_cons.1 hp with rfl|hp
     ·exact(zc5 ae).symm
     ·exact(zc5 (zb1 ae ((List.pairwise_cons.1 h.asc).1 p hp))).symm).1
    simp[h0,Rat.zero_add]
   ·rw[zbs,hs];simp
  ·rw[zbs,zgi hl];simp only[Bool.false_eq_true,if_false,if_true];exact List.mem_cons_of_mem _ (zle ht hq)
theorem zfb{out:Parts}(h:GoodParts out)(hs:zaE out=false){n:ByteArray}{g:Rat}(hg:0<=g):zaE (za3 out n g)=bigQ (zag out n+g):=by
 by_cases h0:g=0
 ·subst h0;have:za3 out n 0=out:=by cases out<;>simp[za3]
  rw[this,hs,Rat.add_zero,zcL n hs]
 ·cases hb:bigQ (zag out n+g)
  ·rw[<-zik h hg];exact zen hs hb
  ·unfold zaE;rw[List.any_eq_true];exact⟨_,zle h Mc0,hb⟩
theorem zio{own:Rat}(ho:0<=own):∀ {l out:Parts},(∀p∈l,0<=p.2)->GoodParts out->zaE out=false->
 (∀o,zb6 own l out=some o->zec own l (out,false)=(o,false))/\(zb6 own l out=none->(zec own l (out,false)).2=true)
 | [],out,_,_,_=>by
   refine⟨fun o h=>?_,fun h=>?_⟩
   ·rw[zb6]at h;cases h;rfl
   ·rw[zb6]at h;cases h
 |p::l,out,hp,hg,hs=>by
  have hm:0<=own*p.2:=Rat.mul_nonneg ho (hp p McB);rw[zb6];show(∀o,_=_->zec own l (zeY own p (out,false))=_)/\(_->(zec own l (zeY own p (out,false))).2=true);cases h1:bigQ (own*p.2)
  ·have dw:zbg (own*p.2)=own*p.2:=zeX h1;have cz:=zfb hg hs (n:=p.1) hm;rw[if_neg McB];cases h2:bigQ (zag out p.1+own*p.2)
   ·have e:zeY own p (out,false)=(za3 out p.1 (own*p.2),false):=by
     unfold zeY;simp only[dw,h1,h2,Bool.or_self];rw[znE hg hm h2]
    rw[cz,h2,if_neg McB,e];exact zio ho (fun q hq=>hp q MdN) (zbx hm hg) (by rw[cz,h2])
   ·rw[cz,h2,if_pos rfl];refine⟨fun o h=>by(cases h),fun _=>zfa ?_⟩;simp[zeY,dw,h2]
  ·rw[if_pos rfl];refine⟨fun o h=>by(cases h),fun _=>zfa ?_⟩;simp[zeY,h1]
theorem zm1{own:Rat}(ho:0<=own):∀ {l out:Parts} {f:Bool} {t:Rat},(∀p∈l,0<=p.2)->Bd out t->Bd (zec own l (out,f)).1 (t+own*sumQ l)
 | [],out,f,t,_,h=>by
   show Bd out (t+own*0);rw[Rat.mul_zero,Rat.add_zero];exact h
 |p::l,out,f,t,hp,h=>by
  have h1:=zm1 ho (l:=l) (f:=(zeY own p (out,f)).2) (fun q hq=>hp q MdN) (h.gain (f:=f) ho (hp p McB));have e:t+own*p.2+own*sumQ l=t+own*sumQ (p::l):=by rw[sumQ];grind
  rw[e]at h1;exact h1
def zcv(hs:Parts)(frm:ByteArray)(tl:Parts):Parts×Bool:=
 zec (zag hs frm) tl (setP hs frm (zbg (zag hs frm*(1-sumQ tl))),bigQ (zag hs frm*(1-sumQ tl)))
theorem zkl{hs tl:Parts}{frm:ByteArray}(hg:GoodParts hs)(hl:zaE hs=false)(hp:∀p∈tl,0<=p.2)(h1:sumQ tl<=1):
 (if bigQ (zag hs frm*(1-sumQ tl))then none else zb6 (zag hs frm) tl (za3 (zas hs frm) frm (zag hs frm*(1-sumQ tl))))=if(zcv hs frm tl).2 then none else some (zcv hs frm tl).1:=by
 have ho:=zb9 hg frm;have hk:0<=zag hs frm*(1-sumQ tl):=Rat.mul_nonneg ho Mc0;unfold zcv;cases hb:bigQ (zag hs frm*(1-sumQ tl))
 ·rw[zeX hb,if_neg McB];have e:setP hs frm (zag hs frm*(1-sumQ tl))=za3 (zas hs frm) frm (zag hs frm*(1-sumQ tl)):=by
   rw[zil hg.asc];split
   ·rename_i h0
    have:zag hs frm*(1-sumQ tl)=0:=by simpa using h0
    rw[this];cases zas hs frm<;>simp[za3]
   ·rfl
  have aI:=zhA hg (n:=frm) hk;have nM:=zen (n:=frm) hl hb;obtain⟨g1,g2⟩:=zio ho hp aI nM;rw[e]at g1 g2⊢;cases hx:zb6 (zag hs frm) tl (za3 (zas hs frm) frm (zag hs frm*(1-sumQ tl)))with
  |none=>rw[g2 hx,if_pos rfl]
  |some o=>rw[g1 o hx,if_neg McB]
 ·rw[if_pos rfl,zfa rfl,if_pos rfl]
def zcR(n:ByteArray)(f:Rat)(x:Parts×Bool):Parts×Bool:=
 (setP x.1 n (zbg (zag x.1 n+f)),x.2||bigQ (zag x.1 n+f))
mutual
def zbL(part:Rat):List Tree->Parts×Bool->Parts×Bool
 | [],x=>x
 |t::l,x=>zbL part l (zdM part t x)
def zdM(part:Rat):Tree->Parts×Bool->Parts×Bool
 | .leaf n,x=>zcR n part x
 | .node l,x=>zbL (zbg (part*(1/(l.length:Rat)))) l (x.1,x.2||bigQ (part*(1/(l.length:Rat))))
end
def zcw(l:List Tree)(f:Rat)(x:Parts×Bool):Parts×Bool:=
 zbL (zbg (f*(1/(l.length:Rat)))) l (x.1,x.2||bigQ (f*(1/(l.length:Rat))))
theorem zox(part:Rat)(l:List Tree)(x:Parts×Bool):zdM part (.node l) x=zcw l part x:=by rw[zdM,zcw]
theorem zgl(part:Rat):∀(a b:List Tree) (x:Parts×Bool),zbL part (a++b) x=zbL part b (zbL part a x)
 | [],_,_=>by rw[List.nil_append,zbL]
 |t::a,b,x=>by rw[List.cons_append,zbL,zbL,zgl part a b]
def zdh(s:St)(frm:ByteArray):Parts->Parts×Bool->Rat->(Parts×Bool)×Rat
 | [],x,rest=>(x,rest)
 |p::l,x,rest=>if zdT s p.1 frm then zdh s frm l (zcR p.1 p.2 x) (rest-p.2)else zdh s frm l x rest
def zcm(s:St)(n:ByteArray):ByteArray:=if zdT s (zaG s n) n then zaG s n else⟨#[]⟩
def zch(s:St)(law:Law)(n:ByteArray):Parts×Bool:=
 let y:=zdh s n (zbw s n) ([],false) 1
 let sp:=zcm s n
 let lines:=zb2 s law.stems n (zaW s) n
 if lines.isEmpty then zcR sp y.2 y.1 else
 if noB sp then zcw lines y.2 y.1 else
 zcw lines (y.2-y.2*Rat.divInt law.num law.den) (zcR sp (y.2*Rat.divInt law.num law.den) y.1)
mutual
theorem zfz{part:Rat}:∀ {l:List Tree} {x:Parts×Bool},x.2=true->(zbL part l x).2=true
 | [],x,h=>by rw[zbL];exact h
 |t::l,x,h=>by rw[zbL];exact zfz (tree_mark h)
theorem tree_mark{part:Rat}:∀ {t:Tree} {x:Parts×Bool},x.2=true->(zdM part t x).2=true
 | .leaf n,x,h=>by rw[zdM];simp[zcR,h]
 | .node l,x,h=>by rw[zdM];exact zfz (by simp[h])
end
theorem zgm{out:Parts}(h:GoodParts out){n:ByteArray}{f:Rat}(hf:0<=f)(hb:bigQ (zag out n+f)=false):zcR n f (out,false)=(za3 out n f,false):=by
 unfold zcR;simp only[hb,Bool.or_self];rw[znE h hf hb]
theorem zkm(a:Rat)(n:Nat):a*(1/(n:Rat))=a/(n:Rat):=by
 rw[Rat.div_def,Rat.div_def,Rat.one_mul]
theorem ze7{a:Rat}(h:0<=a)(n:Nat):0<=a*(1/(n:Rat)):=by
 rw[zkm];exact zcF h Rat.natCast_nonneg
mutual
theorem zgW{each:Rat}(he:0<=each):∀ {l:List Tree} {out:Parts},GoodParts out->zaE out=false->
 (∀o,zbG each l out=some o->zbL each l (out,false)=(o,false))/\(zbG each l out=none->(zbL each l (out,false)).2=true)
 | [],out,hg,hs=>by
   rw[zbG,zbL];exact MbF
 |t::l,out,hg,hs=>by
  obtain⟨h1,h2⟩:=tree_same he (t:=t) hg hs;rw[zbG,zbL];cases ht:zeg each t out with
  |none=>
   refine⟨fun o h=>by(cases h),fun _=>zfz (h2 ht)⟩
  |some o1=>
   rw[h1 o1 ht];obtain⟨g1,g2⟩:=zhZ he hg hs ht;exact zgW he g1 g2
theorem tree_same{each:Rat}(he:0<=each):∀ {t:Tree} {out:Parts},GoodParts out->zaE out=false->
 (∀o,zeg each t out=some o->zdM each t (out,false)=(o,false))/\(zeg each t out=none->(zdM each t (out,false)).2=true)
 | .leaf n,out,hg,hs=>by
   rw[zeg,zdM,zfb hg hs he];cases hb:bigQ (zag out n+each)
   ·rw[if_neg McB,zgm hg he hb];exact MbF
   ·rw[if_pos rfl];refine⟨fun o h=>by(cases h),fun _=>by simp[zcR,hb]⟩
 | .node l,out,hg,hs=>by
   rw[zeg,zdM,zkm];cases hb:bigQ (each/(l.length:Rat))
   ·rw[if_neg McB,zeX hb];exact zgW (zcF he Rat.natCast_nonneg) hg hs
   ·exact MbZ
end
theorem zoy(out:Parts)(n:ByteArray):za3 out n 0=out:=by cases out<;>simp[za3]
theorem zgX{out:Parts}(h:GoodParts out)(hs:zaE out=false)(n:ByteArray):zcR n 0 (out,false)=(out,false):=by
 rw[zgm h Rat.le_refl (by rw[Rat.add_zero];exact zcL n hs),zoy]
theorem zgn(k:Nat):zbg (0*(1/(k:Rat)))=0/\bigQ (0*(1/(k:Rat)))=false:=by
 rw[Rat.zero_mul];exact⟨zeX McA,by decide⟩
mutual
theorem zgY:∀ {l:List Tree} {out:Parts},GoodParts out->zaE out=false->zbL 0 l (out,false)=(out,false)
 | [],out,_,_=>by rw[zbL]
 |t::l,out,hg,hs=>by rw[zbL,tree_zero hg hs,zgY hg hs]
theorem tree_zero:∀ {t:Tree} {out:Parts},GoodParts out->zaE out=false->zdM 0 t (out,false)=(out,false)
 | .leaf n,out,hg,hs=>by rw[zdM,zgX hg hs]
 | .node l,out,hg,hs=>by
   rw[zdM,(zgn l.length).1,(zgn l.length).2];exact zgY hg hs
end
theorem zfM{l:List Tree}{out:Parts}(hg:GoodParts out)(hs:zaE out=false):zcw l 0 (out,false)=(out,false):=by
 rw[zcw,(zgn l.length).1,(zgn l.length).2];exact zgY hg hs
theorem zgo{s:St}{frm:ByteArray}:∀ {l out:Parts} {rest:Rat},(∀p∈l,0<p.2)->(∀p∈l,IsN 720720 p.2)->GoodParts out->(∀p∈out,IsN 720720 p.2)->
 zdh s frm l (out,false) rest=(((zcp s frm l out rest).1,false),(zcp s frm l out rest).2)
 | [],out,rest,_,_,_,_=>rfl
 |p::l,out,rest,hp,hN,hg,hn=>by
  have hl:=fun q (hq:q∈l)=>hp q MdN
  have vR:=fun q (hq:q∈l)=>hN q MdN
  rw[zdh,zcp];split
  ·have h0:0<=p.2:=by have:=hp p McB;grind
   have aO:=zcG (nm:=p.1) (hN p McB) hn;have hb:bigQ (zag out p.1+p.2)=false:=by
    rw[<-zfb hg (zc6 McA McA hn) h0];exact zc6 McA McA aO
   rw[zgm hg h0 hb];exact zgo hl vR (zbx h0 hg) aO
  ·exact zgo hl vR hg hn
theorem isN_law{law:Law}(hl:za8 16 law.num law.den=true):(∃d:Nat,0<d/\d<=16/\IsN d (Rat.divInt law.num law.den))/\0<=Rat.divInt law.num law.den/\Rat.divInt law.num law.den<=1:=by
 refine⟨?_,(zbm hl).2.2⟩;have hd:=hl;exact M4
theorem zeo{n:Nat}(h0:0<n)(h1:n<=1000000000){q:Rat}(h:IsN n q):bigQ q=false:=by
 have:=zke h0 h;unfold bigQ;simp;omega
theorem zfN{s:St}{law:Law}{n:ByteArray}(hw:WillOk (zbw s n))(hl:za8 16 law.num law.den=true):
 (∀o,zcK s law n=some o->(zch s law n)=(o,false))/\(zcK s law n=none->(zch s law n).2=true):=by
 have iR:=zgo (s:=s) (frm:=n) (rest:=1) hw.pos hw.isN zd6 McB;have hg:=zid (s:=s) (frm:=n) (out:=[]) (rest:=1) hw.pos hw.isN hw.le zd6 McB (zgR _);unfold zcK zch zcm;rw[iR];generalize zcp s n (zbw s n) [] 1=q at*;obtain⟨out,rest⟩:=q;dsimp only at*;obtain⟨g1,g2,g3,g4,g5⟩:=hg;have gs:zaE out=false:=zc6 McA McA g2;obtain⟨⟨ld,ld0,ld1,l1⟩,l2,l3⟩:=isN_law hl;generalize Rat.divInt law.num law.den=la at*;generalize(if zdT s (zaG s n) n=true then zaG s n else⟨#[]⟩)=sp at*;generalize zb2 s law.stems n (zaW s) n=tr at*;by_cases hr:rest=0
 ·subst hr;have hz:(0:Rat)-0=0:=Mc0;simp only[Rat.zero_mul,hz,beq_self_eq_true,if_true];refine⟨fun o h=>?_,fun h=>by cases h⟩;cases h;split
  ·exact zgX g1 gs sp
  ·split
   ·exact zfM g1 gs
   ·rw[zgX g1 gs,zfM g1 gs]
 ·have pW:(rest==0)=false:=by simpa using hr
  have ua:0<rest:=Mc0;simp only[pW,Bool.false_eq_true,if_false];cases he:tr.isEmpty
  ·simp only[Bool.false_eq_true,if_false];have wP:∀ {x:Parts} {r:Rat},GoodParts x->zaE x=false->0<=r->
    (∀o,(if bigQ (r/(tr.length:Rat))=true then none else zbG (r/(tr.length:Rat)) tr x)=some o->zcw tr r (x,false)=(o,false))/\((if bigQ (r/(tr.length:Rat))=true then none else zbG (r/(tr.length:Rat)) tr x)=none->(zcw tr r (x,false)).2=true):=fun {x r} hx bv cq=>by
    rw[zcw,zkm];cases hb:bigQ (r/(tr.length:Rat))
    ·rw[if_neg McB,zeX hb];exact zgW (zcF cq Rat.natCast_nonneg) hx bv
    ·exact MbZ
   cases hn:noB sp
   ·simp only[Bool.false_eq_true,if_false];have iJ:0<=rest*la:=Rat.mul_nonneg g4 l2;have l9:rest*la<=rest:=by
     have:=Rat.mul_nonneg g4 (show 0<=1-la by grind);grind
    have hb:bigQ (zag out sp+rest*la)=false:=by
     have h1:IsN (720720*ld) (zag out sp+rest*la):=by
      refine zkb (zkY ?_) (zkc g3 l1);unfold zag;cases hf:out.find? (fun p=>zae p.1 sp)with
      |none=>exact zkd _
      |some p=>exact g2 p (List.mem_of_find?_eq_some hf)
     exact zeo Mcy Mcy h1
    rw[zgm g1 iJ hb];have cy:=zbx (n:=sp) iJ g1;have bn:zaE (za3 out sp (rest*la))=false:=by rw[zfb g1 gs iJ];exact hb
    by_cases hz:rest-rest*la=0
    ·rw[hz];simp only[beq_self_eq_true,if_true];exact⟨fun o h=>by cases h;exact zfM cy bn,fun h=>by cases h⟩
    ·have iT:(rest-rest*la==0)=false:=MdD;simp only[iT,Bool.false_eq_true,if_false];exact wP cy bn Mc0
   ·simp only[if_true];have hz:rest-0=rest:=Mc0;simp only[hz,pW,Bool.false_eq_true,if_false];exact wP g1 gs g4
  ·simp only[if_true];have hb:bigQ (zag out sp+rest)=false:=by
    rw[<-zfb g1 gs g4];exact zc6 McA McA (zcG g3 g2)
   rw[zgm g1 g4 hb];exact MbF
theorem zlf{l:Parts}(h:GoodParts l){n:ByteArray}{q:Rat}(m:ByteArray):zag (setP l n q) m=if zae m n then q else zag l m:=by
 have hw:=zbK h (n:=n);have h0:zag (zas l n) n=0:=by rw[zd9,zb8];rfl
 rw[zil h.asc];by_cases hq:q==0
 ·rw[if_pos hq,zd9];have:q=0:=by simpa using hq
  rw[this]
 ·rw[if_neg hq,zij hw,h0,Rat.zero_add];cases hs:zae m n
  ·simp only[Bool.false_eq_true,if_false];rw[zd9,hs];rfl
  ·rfl
theorem eqS_same(a b:ByteArray):eqS a b=zae a b:=rfl
theorem zep{V:Type}(k:ByteArray)(v:V)(n:ByteArray):∀m:List (ByteArray×V),mget eqS n (mput eqS k v m)=if zae n k then some v else mget eqS n m
 | []=>rfl
 |x::m=>by
  rw[mput];have l7:eqS k x.1=zae k x.1:=rfl;rw[l7];cases hk:zae k x.1
  ·rw[if_neg McB,mget,mget,zep k v n m];have jv:eqS n x.1=zae n x.1:=rfl;rw[jv];cases hn:zae n x.1
   ·simp
   ·have KP:zae n k=false:=by
     rw[zcn];intro e;rw[zau]at hn;rw[zcn]at hk;exact hk (e▸hn)
    simp[KP]
  ·have l7:k=x.1:=zau.1 hk;rw[if_pos rfl,mget,mget];show(if zae n k=true then _ else _)=_;cases hn:zae n k
   ·have:eqS n x.1=false:=by rw[eqS_same,<-l7,hn]
    simp[this]
   ·simp
theorem zfc{V:Type}(k:ByteArray)(v:V):∀m:List (ByteArray×V),(m.map (·.1)).Nodup->((mput eqS k v m).map (·.1)).Nodup/\∀x∈(mput eqS k v m).map (·.1),x=k\/x∈m.map (·.1)
 | [],_=>by simp[mput]
 |x::m,h=>by
  rw[mput];have l7:eqS k x.1=zae k x.1:=rfl;rw[l7];rw[List.map_cons,List.nodup_cons]at h;cases hk:zae k x.1
  ·obtain⟨h1,h2⟩:=zfc k v m h.2;rw[if_neg McB,List.map_cons];refine⟨List.nodup_cons.2 ⟨fun hx=>?_,h1⟩,fun y hy=>?_⟩
   ·rcases h2 _ hx with e|e
    ·rw[e,zb8]at hk;cases hk
    ·exact h.1 e
   ·rcases List.mem_cons.1 hy with rfl|hy
    ·exact .inr McB
    ·rcases h2 y hy with e|e
     ·exact .inl e
     ·exact .inr (by simp[e])
  ·have e:k=x.1:=zau.1 hk;rw[if_pos rfl,List.map_cons];refine⟨List.nodup_cons.2 ⟨by rw[e];exact h.1,h.2⟩,fun y hy=>?_⟩;rcases List.mem_cons.1 hy with rfl|hy
   ·exact .inl rfl
   ·exact .inr (by simp[hy])
theorem zcH{V:Type}{n:ByteArray}{v:V}:∀ {m:List (ByteArray×V)},mget eqS n m=some v->(n,v)∈m
 | [],h=>by simp[mget]at h
 |x::m,h=>by
  rw[mget]at h;have jv:eqS n x.1=zae n x.1:=rfl;rw[jv]at h;cases hn:zae n x.1
  ·rw[hn,if_neg McB]at h;exact List.mem_cons_of_mem _ (zcH h)
  ·rw[hn,if_pos rfl]at h;have e:=zau.1 hn;simp only[Option.some.injEq]at h;rw[e,<-h];exact List.mem_cons_self
theorem zgp{V:Type}{n:ByteArray}{v:V}:∀ {m:List (ByteArray×V)},(m.map (·.1)).Nodup->(n,v)∈m->mget eqS n m=some v
 | [],_,h=>by simp at h
 |x::m,hd,h=>by
  rw[List.map_cons,List.nodup_cons]at hd;rw[mget];have jv:eqS n x.1=zae n x.1:=rfl;rw[jv];rcases List.mem_cons.1 h with rfl|h
  ·rw[zb8,if_pos rfl]
  ·have ai:zae n x.1=false:=zcn.2 fun e=>hd.1 (by rw[<-e];exact List.mem_map.2 ⟨_,h,rfl⟩)
   rw[ai,if_neg McB];exact zgp hd.2 h
noncomputable def zfd (laws:List Law) (upto:Int):List Deed->St->Nat->Int->St×Nat×Int
 | [],s,k,_=>(s,k,0)
 |d::l,s,k,last=>
  if zaH d==0&&decide (upto<d.day)then(s,k+(d::l).length,0)else
  if(zck laws s k last d).2 != 0 then(s,k,(zck laws s k last d).2)else zfd laws upto l (zck laws s k last d).1 (k+1) d.day
theorem zeq{laws:List Law}{s:St}{k:Nat}{last:Int}{d:Deed}(h:(zck laws s k last d).2=0):zaH d=0/\k<60/\last<=d.day/\zck laws s k last d=zbq laws s d:=by
 unfold zck at h⊢;split at h
 ·rename_i hc
  have h:zaH d=0:=h;rw[h]at hc;exact absurd hc McA
 rename_i hc
 split at h
 ·simp at h
 rename_i hk
 split at h
 ·simp at h
 rename_i hl
 rw[if_neg hc,if_neg hk,if_neg hl];simp at hc hk hl;exact⟨hc,hk,hl,rfl⟩
theorem zj8{laws:List Law}{upto:Int}:∀ {ds:List Deed} {s told:St} {k:Nat} {last:Int},(zaX laws upto ds s told k last).2.2=0->upto<last->(zaX laws upto ds s told k last).1=told
 | [],s,told,k,last,_,_=>rfl
 |d::l,s,told,k,last,h,hl=>by
  rw[zaX]at h⊢;split at h
  ·exact MaH
  ·rename_i hc
   rw[if_neg hc];have hn:=zeq (show(zck laws s k last d).2=0 by simpa using hc);have hd:¬decide (d.day<=upto)=true:=McD;rw[if_neg hd]at h⊢;exact zj8 h Mcy
theorem zlg{laws:List Law}{upto:Int}:∀ {ds:List Deed} {s:St} {k:Nat} {last:Int},(zaX laws upto ds s s k last).2.2=0->
 (zfd laws upto ds s k last).1=(zaX laws upto ds s s k last).1/\(zfd laws upto ds s k last).2.2=0
 | [],s,k,last,_=>⟨rfl,rfl⟩
 |d::l,s,k,last,h=>by
  rw[zaX]at h⊢;split at h
  ·exact MaH
  ·rename_i hc
   rw[if_neg hc];have h0:(zck laws s k last d).2=0:=Meh;have hn:=zeq h0;rw[zfd];by_cases hd:d.day<=upto
   ·have e1:decide (d.day<=upto)=true:=by simpa using hd
    have e2:¬(zaH d==0&&decide (upto<d.day))=true:=McD;rw[if_pos e1]at h⊢;rw[if_neg e2,if_neg hc];exact zlg h
   ·have e1:¬decide (d.day<=upto)=true:=by simpa using hd
    have e2:(zaH d==0&&decide (upto<d.day))=true:=by simp[hn.1];omega
    rw[if_neg e1]at h⊢;rw[if_pos e2];exact⟨(zj8 h Mcy).symm,rfl⟩
theorem znF{laws:List Law}{upto:Int}(hu:200000<=upto):∀ {ds:List Deed} {s:St} {k:Nat} {last:Int},
 (zfd laws upto ds s k last).2=(zaX laws upto ds s s k last).2
 | [],s,k,last=>rfl
 |d::l,s,k,last=>by
  rw[zfd,zaX];have h1:¬(zaH d==0&&decide (upto<d.day))=true:=by
   intro h;simp only[Bool.and_eq_true,beq_iff_eq,decide_eq_true_eq]at h;have:=(zeU h.1).day;omega
  rw[if_neg h1];split
  ·rfl
  ·rename_i hc
   have hn:=zeq (show(zck laws s k last d).2=0 by simpa using hc);have:=(zeU hn.1).day;rw[if_pos McD];exact znF hu
