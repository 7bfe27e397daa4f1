/- Plain: the day of the last deed. -/
import Derived.Shelf.Small.Strs
import Derived.Shelf.SlicesE.Clone
import Derived.Shelf.SlicesE.Index
import Derived.Shelf.SlicesQ.Contains
import Derived.Shelf.Spec.TrailingZeros
import Derived.Test.YtjhbofabmpfniaaGreatDoorNA
import Derived.Test.YtjhbofabmpfniaaGreatDoorJ5
set_option linter.unusedSimpArgs false
set_option linter.unusedVariables false
set_option maxRecDepth 100000
set_option maxHeartbeats 4000000
namespace Go.Proofs.YtjhbofabmpfniaaGreatDoor
open Go.RowKit Go.Shelf
def zon:Go.Shelf.Ren:=⟨fun|106=>154|213=>212|265=>254|n=>n,fun|9=>9|3=>3|n=>n,fun|n=>n⟩
theorem cmpStr:Go.Proofs.Lays.n106 Tryz.prog zon:= {
 mixed:=by kernel_rfl
 f106:=Tryz.func154.trans (congrArg some Mco)
 f213:=Tryz.func212.trans (congrArg some Mco)
 f265:=Tryz.func254.trans (congrArg some Mco)
 t3:=Tryz.underlying3
 a3:=Tryz.isAgg3
 z3:=Tryz.sizeOf3
 v3:=Tryz.zeroValue3
 t9:=Tryz.underlying9
 a9:=Tryz.isAgg9
 z9:=Tryz.sizeOf9
 v9:=Tryz.zeroValue9}
def coStr_ren:Go.Shelf.Ren:=⟨fun|31=>106|29=>162|n=>n,fun|22=>33|23=>9|4=>4|3=>3|0=>0|n=>n,fun|n=>n⟩
theorem coStr:Go.Proofs.SlLaysE.n31 Tryz.prog coStr_ren:= {
 mixed:=by kernel_rfl
 f29:=⟨Tryz.f162.name,by decide,Tryz.func162.trans (congrArg some Mco)⟩
 f31:=⟨Tryz.f106.name,by decide,Tryz.func106.trans (congrArg some Mco)⟩
 t0:=Tryz.underlying0
 a0:=Tryz.isAgg0
 z0:=Tryz.sizeOf0
 v0:=Tryz.zeroValue0
 t3:=Tryz.underlying3
 a3:=Tryz.isAgg3
 z3:=Tryz.sizeOf3
 v3:=Tryz.zeroValue3
 t4:=Tryz.underlying4
 a4:=Tryz.isAgg4
 z4:=Tryz.sizeOf4
 v4:=Tryz.zeroValue4
 t22:=Tryz.underlying33
 a22:=Tryz.isAgg33
 z22:=Tryz.sizeOf33
 v22:=Tryz.zeroValue33
 a23:=Tryz.isAgg9
 z23:=Tryz.sizeOf9}
def zoo:Go.Shelf.Ren:=⟨fun|7=>161|6=>226|n=>n,fun|22=>32|24=>163|4=>4|0=>0|3=>3|n=>n,fun|n=>n⟩
theorem coPair:Go.Proofs.SlLaysQ.n7 Tryz.prog zoo:= {
 mixed:=by kernel_rfl
 f6:=⟨Tryz.f226.name,by decide,Tryz.func226.trans (congrArg some Mco)⟩
 f7:=⟨Tryz.f161.name,by decide,Tryz.func161.trans (congrArg some Mco)⟩
 t0:=Tryz.underlying0
 a0:=Tryz.isAgg0
 z0:=Tryz.sizeOf0
 v0:=Tryz.zeroValue0
 t3:=Tryz.underlying3
 a3:=Tryz.isAgg3
 z3:=Tryz.sizeOf3
 v3:=Tryz.zeroValue3
 t4:=Tryz.underlying4
 a4:=Tryz.isAgg4
 z4:=Tryz.sizeOf4
 v4:=Tryz.zeroValue4
 t22:=Tryz.underlying32
 a22:=Tryz.isAgg32
 z22:=Tryz.sizeOf32
 v22:=Tryz.zeroValue32}
def zop:Go.Shelf.Ren:=⟨fun|27=>169|28=>230|29=>231|n=>n,fun|25=>190|3=>3|27=>239|22=>241|4=>4|53=>277|0=>0|5=>5|54=>278|n=>n,fun|0=>3|1=>4|n=>n⟩
theorem tzBits:Go.Proofs.Lays7.n27 Tryz.prog zop:= {
 mixed:=by kernel_rfl
 f27:=Tryz.func169.trans (congrArg some Mco)
 f28:=Tryz.func230.trans (congrArg some Mco)
 f29:=Tryz.func231.trans (congrArg some Mco)
 t0:=Tryz.underlying0
 a0:=Tryz.isAgg0
 z0:=Tryz.sizeOf0
 v0:=Tryz.zeroValue0
 i0:=by kernel_rfl
 t3:=Tryz.underlying3
 a3:=Tryz.isAgg3
 z3:=Tryz.sizeOf3
 v3:=Tryz.zeroValue3
 i3:=by kernel_rfl
 t4:=Tryz.underlying4
 a4:=Tryz.isAgg4
 z4:=Tryz.sizeOf4
 v4:=Tryz.zeroValue4
 i4:=by kernel_rfl
 t5:=Tryz.underlying5
 a5:=Tryz.isAgg5
 z5:=Tryz.sizeOf5
 v5:=Tryz.zeroValue5
 i5:=by kernel_rfl
 t22:=Tryz.underlying241
 a22:=Tryz.isAgg241
 z22:=Tryz.sizeOf241
 v22:=Tryz.zeroValue241
 i22:=by kernel_rfl
 t25:=Tryz.underlying190
 a25:=Tryz.isAgg190
 z25:=Tryz.sizeOf190
 v25:=Tryz.zeroValue190
 i25:=by kernel_rfl
 t27:=Tryz.underlying239
 a27:=Tryz.isAgg239
 z27:=Tryz.sizeOf239
 v27:=Tryz.zeroValue239
 i27:=by kernel_rfl
 t53:=Tryz.underlying277
 a53:=Tryz.isAgg277
 z53:=Tryz.sizeOf277
 v53:=Tryz.zeroValue277
 i53:=by kernel_rfl
 t54:=Tryz.underlying278
 a54:=Tryz.isAgg278
 z54:=Tryz.sizeOf278
 g0:=by kernel_rfl
 g1:=by kernel_rfl}
end Go.Proofs.YtjhbofabmpfniaaGreatDoor
namespace Go.Proofs.YtjhbofabmpfniaaGreatDoor
open Go.RowKit
theorem name_one {d:Deed} (h:d.to.length=1): ∃p,d.to=[p]/\zbf d=p.name:=by
 match hd:d.to,h with
 | [p],_=>exact⟨p,rfl,by unfold zbf;rw[hd];rfl⟩
theorem one_ne {d:Deed} (hd:OkD d) (h:d.kind=5\/d.kind=6\/d.kind=7):noB (zbf d)=false/\zbf d≠d.frm/\noB d.frm=false:=by
 obtain⟨h1,h2⟩:=hd.one h;obtain⟨p,hp,hn⟩:=name_one h1;have oH:=hd.names p (by rw[hp];simp);rw[hn];refine⟨zgp oH,?_,zgp (hd.frm Mcn)⟩;unfold zcB at h2;simp only[Bool.and_eq_true,List.all_eq_true,Bool.not_eq_true']at h2;exact zcn.1 (h2.1.2 p (by rw[hp];simp))
theorem zfV (s:St) (f:ByteArray) (l:Parts) (n:ByteArray):zbs {s with wills:=s.wills++[(f,l)]} n=if zaf f n then l else zbs s n:=by
 unfold zbs;rw[List.reverse_append,List.reverse_singleton,List.singleton_append,List.find?_cons];split
 ·rename_i h
  rw[if_pos h];rfl
 ·rename_i h
  rw[if_neg Mde]
theorem zoq {s s':St} {d:Deed} {last:Int} (h:GoodSt s last) (hd:OkD d) (hl:last<=d.day) (hk:d.kind=4) (ht:zgT s d=(s',0)):GoodSt s' d.day:=by
 have h:=h.later hl;unfold zgT at ht;split at ht
 ·simp at ht
 simp only[Prod.mk.injEq,and_true]at ht;rw[<-ht];obtain⟨nH,xN⟩:=hd.parts (.inr (.inr hk));refine {h with wills:=fun n=> ?_,willNames:=fun w hw p hp=> ?_}
 ·rw[zfV];split
  ·exact zj6 xN
  ·exact h.wills n
 ·rcases List.mem_append.1 hw with hw|hw
  ·exact h.willNames w hw p hp
  ·rw[List.mem_singleton.1 hw]at hp;obtain⟨q,hq,rfl⟩:=List.mem_map.1 hp;exact zgp (hd.names q hq)
theorem zjm {s s':St} {d:Deed} {last:Int} (h:GoodSt s last) (hl:last<=d.day) (ht:zb9 s d=(s',0)):GoodSt s' d.day:=by
 have h:=h.later hl;unfold zb9 at ht;split at ht
 ·simp at ht
 split at ht
 ·simp at ht
 simp only[Prod.mk.injEq,and_true]at ht;rw[<-ht];exact {h with}
theorem zm4 {s s':St} {d:Deed} {last:Int} (h:GoodSt s last) (hd:OkD d) (hl:last<=d.day) (hk:d.kind=7) (ht:zdr s d=(s',0)):GoodSt s' d.day:=by
 have h:=h.later hl;unfold zdr at ht;split at ht
 ·simp at ht
 split at ht
 ·simp at ht
 simp only[Prod.mk.injEq,and_true]at ht;rw[<-ht];obtain⟨h1,h2,h3⟩:=one_ne hd (.inr (.inr hk));refine {h with marr:=fun m hm=> ?_};rcases List.mem_append.1 hm with hm|hm
 ·exact h.marr m hm
 ·rw[List.mem_singleton.1 hm];exact⟨h2.symm,h3,h1⟩
theorem zm5 {s s':St} {d:Deed} {last:Int} (h:GoodSt s last) (hd:OkD d) (hl:last<=d.day) (hk:d.kind=6) (ht:zcD s d=(s',0)):GoodSt s' d.day:=by
 have h:=h.later hl;unfold zcD at ht;split at ht
 ·simp at ht
 split at ht
 ·simp at ht
 split at ht
 ·simp at ht
 rename_i hn
 have hn: ¬Desc s (zbf d) d.frm:=by simpa using hn
 simp only[Prod.mk.injEq,and_true]at ht;rw[<-ht];obtain⟨h1,h2,h3⟩:=one_ne hd (.inr (.inl hk));refine {h with acyc:=zmx h.acyc hn h2.symm,kids:=fun c hc=> ?_};rcases List.mem_append.1 hc with hc|hc
 ·exact h.kids c hc
 ·rw[List.mem_singleton.1 hc];exact⟨h3,h1⟩
theorem laws_go: ∀ {l:List Law} {b:Option Int},zeZ l b=0-> ∀x∈l,za9 16 x.num x.den=true
 |x::l,b,h,y,hy=>by
  unfold zeZ at h;split at h
  ·rename_i hb
   simp[h]at hb
  ·rename_i hb
   rcases List.mem_cons.1 hy with rfl|hy
   ·unfold zhq at hb;split at hb
    ·simp at hb
    split at hb
    ·simp at hb
    ·rename_i hq
     simpa using hq
   ·exact laws_go h y hy
theorem zes {laws:List Law} (h:za8 laws=0) (day:Int):za9 16 (zaY laws day).num (zaY laws day).den=true:=by
 unfold za8 at h;split at h
 ·simp at h
 unfold zaY;cases hl:(laws.filter fun x=>decide (x.frm<=day)).getLast? with
 |none=>decide
 |some x=>
  have hm:=List.mem_of_getLast? hl;exact laws_go h x (List.mem_filter.1 hm).1
theorem zm6 {s:St} {n:ByteArray} {day:Int} {bD:Option Parts}: ∀ {l l':List Grave} {k:Nat},zby s n day bD k l=some l'->l'.length=l.length/\ ∀(i:Nat) g',l'[i]?=some g'-> ∃g,l[i]?=some g/\
 (g'=g/\zds s n day (k+i) g=false\/zds s n day (k+i) g=true/\ ∃h out,bD=some h/\zb8 (zag g.holders n) h (za0 g.holders n)=some out/\g'= {g with holders:=out,died:=g.died++[n]})
 | [],l',k,h=>by
   unfold zby at h;cases h;exact⟨rfl,fun i g' hg=>by simp at hg⟩
 |g::l,l',k,h=>by
  unfold zby at h;have step: ∀ {r:List Grave} {g':Grave},zby s n day bD (k+1) l=some r->l'=g'::r->(g'=g/\zds s n day k g=false\/zds s n day k g=true/\ ∃h out,bD=some h/\zb8 (zag g.holders n) h (za0 g.holders n)=some out/\g'= {g with holders:=out,died:=g.died++[n]})->
   l'.length=(g::l).length/\ ∀(i:Nat) g',l'[i]?=some g'-> ∃x,(g::l)[i]?=some x/\(g'=x/\zds s n day (k+i) x=false\/zds s n day (k+i) x=true/\ ∃h out,bD=some h/\zb8 (zag x.holders n) h (za0 x.holders n)=some out/\g'= {x with holders:=out,died:=x.died++[n]}):=by
   intro r g' hr he hc;obtain⟨i1,i2⟩:=zm6 hr;subst he;refine⟨by simp[i1],fun i x hx=> ?_⟩;cases i with
   |zero=>
    simp only[List.getElem?_cons_zero,Option.some.injEq]at hx;subst hx;exact⟨g,rfl,hc⟩
   |succ i=>
    obtain⟨y,y1,y2⟩:=i2 i x (by simpa using hx);exact⟨y,by simpa using y1,by rw[show k+(i+1)=k+1+i by omega];exact y2⟩
  split at h
  ·rename_i hh
   cases bD with
   |none=>simp at h
   |some hs=>
    dsimp only at h;rw[Option.bind_eq_some_iff]at h;obtain⟨out,h1,h2⟩:=h;rw[Option.map_eq_some_iff]at h2;obtain⟨r,h3,h4⟩:=h2;exact step h3 h4.symm (.inr ⟨hh,hs,out,rfl,h1,rfl⟩)
  ·rename_i hh
   rw[Option.map_eq_some_iff]at h;obtain⟨r,h3,h4⟩:=h;exact step h3 h4.symm (.inl ⟨rfl,by simpa using hh⟩)
theorem zm7 {laws:List Law} {s s':St} {d:Deed} {last:Int} (h:GoodSt s last) (hd:OkD d) (hl:last<=d.day) (hk:d.kind=8) (aU:za8 laws=0) (ht:zdL laws s d=(s',0)):GoodSt s' d.day:=by
 have h:=h.later hl;unfold zdL at ht;split at ht
 ·simp at ht
 split at ht
 ·simp at ht
 rename_i gs aK
 simp only[Prod.mk.injEq,and_true]at ht;rw[<-ht];obtain⟨ag,gW⟩:=zm6 aK;have one: ∀(i:Nat) g',gs[i]?=some g'-> ∃g,s.graves[i]?=some g/\GoodG g'/\g'.place=g.place/\ ∀e,zaU g' e=true->zaU g e=true:=by
  intro i g' eu;obtain⟨g,g1,g2⟩:=gW i g' eu;have ba:=h.graves g (List.mem_of_getElem? g1);rcases g2 with⟨rfl,_⟩|⟨hh,hs,out,e1,e2,rfl⟩
  ·exact⟨g',g1,ba,rfl,fun _=>id⟩
  ·unfold zds at hh;rw[Bool.and_eq_true]at hh;have aw:zag g.holders d.frm≠0:=by simpa using hh.1
   obtain⟨k1,k2,k3⟩:=ze6 (h.wills d.frm) (zes aU d.day) e1;exact⟨g,g1,zlf ba aw k1 k2 e2,rfl,fun e=>ze8 (zdm aw)⟩
 refine {h with graves:=fun x hx=> ?_,force:=fun a b ga gb ha hb pT e he f1 f2=> ?_,dead:=fun n hn=> ?_}
 ·obtain⟨i,hi⟩:=List.mem_iff_getElem?.1 hx;exact(one i x hi).elim fun _ hg=>hg.2.1
 ·obtain⟨ga',a1,_,a2,a3⟩:=one a ga ha;obtain⟨gb',b1,_,b2,b3⟩:=one b gb hb;exact h.force a b ga' gb' a1 b1 (by rw[<-a2,<-b2,pT]) e he (a3 e f1) (b3 e f2)
 ·rcases List.mem_append.1 hn with hn|hn
  ·exact h.dead n hn
  ·rw[List.mem_singleton.1 hn];exact zgp (hd.frm Mcn)
theorem zf7 {laws:List Law} {s s':St} {d:Deed} {last:Int} (h:GoodSt s last) (hd:OkD d) (hl:last<=d.day) (aU:za8 laws=0) (ht:zbm laws s d=(s',0)):GoodSt s' d.day:=by
 have hk:=hd.kind;unfold zbm at ht;split at ht
 ·rename_i k;exact zm0 h hd hl Mex ht
 split at ht
 ·rename_i k;exact zjl h hd hl Mex ht
 split at ht
 ·exact zip h hl ht
 split at ht
 ·exact zm1 h hl ht
 split at ht
 ·rename_i k;exact zoq h hd hl Mex ht
 split at ht
 ·exact zjm h hl ht
 split at ht
 ·rename_i k;exact zm5 h hd hl Mex ht
 split at ht
 ·rename_i k;exact zm4 h hd hl Mex ht
 ·rename_i k0 k1 k2 k3 k4 k5 k6 k7
  simp only[beq_iff_eq]at k0 k1 k2 k3 k4 k5 k6 k7;exact zm7 h hd hl Mcn aU ht
theorem zbq (x:ByteArray×Rat) (l:Parts) (n:ByteArray):zag (x::l) n=if zaf x.1 n then x.2 else zag l n:=by
 unfold zag;rw[List.find?_cons];split
 ·rename_i h;rw[if_pos h];rfl
 ·rename_i h;rw[if_neg Mde]
theorem ziq {n:ByteArray} {q:Rat}: ∀ {l:Parts},GoodParts l-> ∀m,zag (za4 l n q) m=if zaf m n then zag l n+q else zag l m
 | [],_,m=>by
   unfold za4;split
   ·exact Mbh
   ·rw[zbq];by_cases hs:m=n
    ·rw[if_pos (za2.2 hs.symm),if_pos (za2.2 hs)];show q=zag [] n+q;have:zag [] n=0:=rfl;grind
    ·rw[if_neg (by rw[za2];exact fun e=>hs e.symm),if_neg (by rw[za2];exact hs)]
 |x::r,⟨h1,h2⟩,m=>by
  have hr:GoodParts r:=⟨(List.pairwise_cons.1 h1).2,fun p hp=>h2 p Mdo⟩
  have hx:=(List.pairwise_cons.1 h1).1;unfold za4;split
  ·exact Mbh
  ·split
   ·rename_i hl
    have ai:=zcH hl;have ih:=ziq (n:=n) (q:=q) hr m;rw[zbq,ih,zbq,zbq];by_cases hs:m=n
    ·subst hs;rw[if_neg (by rw[za2];exact ai),if_pos (zbY m),if_pos (zbY m),if_neg (by rw[za2];exact ai)]
    ·rw[if_neg (c:=zaf m n=true) (by rw[za2];exact hs),if_neg (c:=zaf m n=true) (by rw[za2];exact hs)]
   ·split
    ·rename_i hs
     have e:=za2.1 hs;rw[zbq,zbq,zbq];by_cases hm:m=n
     ·subst hm;rw[if_pos (zbY m),if_pos (zbY m),if_pos hs]
     ·rw[if_neg (by rw[za2];exact fun k=>hm k.symm),if_neg MdA,if_neg (by rw[za2,e];exact fun k=>hm k.symm)]
    ·rename_i hl hs
     have jG: ∀p∈x::r,p.1≠n:=by
      intro p hp e;rcases List.mem_cons.1 hp with rfl|hp
      ·exact hs (za2.2 e)
      ·rcases zdu x.1 n with k|k|k
       ·exact hl k
       ·exact hs (za2.2 k)
       ·have:=zb4 k (hx p hp);rw[e,zfd]at this;cases this
     have h0:=(zdG jG).1;rw[zbq];by_cases hm:m=n
     ·subst hm;rw[if_pos (zbY m),if_pos (zbY m),h0];grind
     ·rw[if_neg (by rw[za2];exact fun k=>hm k.symm),if_neg MdA]
theorem zdA {n m:ByteArray}: ∀ {l:Parts},zag (za0 l n) m=if zaf m n then 0 else zag l m
 | []=>by
   have e:zag (za0 [] n) m=0:=rfl;have e2:zag [] m=0:=rfl;rw[e,e2];split<;>rfl
 |x::r=>by
  have ih:=zdA (n:=n) (m:=m) (l:=r);by_cases hx:x.1=n
  ·have e:za0 (x::r) n=za0 r n:=by
    unfold za0;rw[List.filter_cons,za2.2 hx];rfl
   rw[e,ih,zbq];by_cases hm:m=n
   ·rw[if_pos (za2.2 hm),if_pos (za2.2 hm)]
   ·rw[if_neg MdA,if_neg MdA,if_neg (by rw[za2,hx];exact fun k=>hm k.symm)]
  ·have e:za0 (x::r) n=x::za0 r n:=by
    unfold za0;rw[List.filter_cons,zcn.2 hx];rfl
   rw[e,zbq,ih,zbq];by_cases hm:m=n
   ·rw[if_pos (c:=zaf m n=true) (za2.2 hm),if_pos (c:=zaf m n=true) (za2.2 hm),if_neg (by rw[za2,hm];exact hx)]
   ·rw[if_neg (c:=zaf m n=true) MdA,if_neg (c:=zaf m n=true) MdA]
theorem share_mem {l:Parts} (h:GoodParts l) {p:ByteArray×Rat} (hp:p∈l):zag l p.1=p.2:=by
 induction l with
 |nil=>cases hp
 |cons x r ih=>
  obtain⟨h1,h2⟩:=h;have hr:GoodParts r:=⟨(List.pairwise_cons.1 h1).2,fun p hp=>h2 p Mdo⟩
  have hx:=(List.pairwise_cons.1 h1).1;rw[zbq];rcases List.mem_cons.1 hp with rfl|hp
  ·rw[if_pos (zbY _)]
  ·rw[if_neg (by rw[za2];exact zcH (hx p hp)),ih hr hp]
theorem zhu: ∀(a b:List UInt8),decide (Lib.compareBytes a b<0)=Op.bytesLess a b
 | [],[]=>by simp[Lib.compareBytes,Op.bytesLess]
 | [],_::_=>by simp[Lib.compareBytes,Op.bytesLess]
 |_::_,[]=>by simp[Lib.compareBytes,Op.bytesLess]
 |a::xs,b::ys=>by
  have ih:=zhu xs ys;unfold Lib.compareBytes Op.bytesLess;by_cases he:a=b
  ·subst he;simp[UInt8.lt_irrefl,ih]
  ·by_cases h1:a<b
   ·simp[h1]
   ·have h2:b<a:=(UInt8.lt_or_lt_of_ne he).resolve_left h1;simp[h1,h2,he]
theorem zgr: ∀(a b:List UInt8),(Lib.compareBytes a b==0)=(a==b)
 | [],[]=>by simp[Lib.compareBytes]
 | [],_::_=>by simp[Lib.compareBytes]
 |_::_,[]=>by simp[Lib.compareBytes]
 |a::xs,b::ys=>by
  have ih:=zgr xs ys;unfold Lib.compareBytes;by_cases he:a=b
  ·subst he;simpa[UInt8.lt_irrefl]using ih
  ·by_cases h1:a<b
   ·simp[h1,he]
   ·have h2:b<a:=(UInt8.lt_or_lt_of_ne he).resolve_left h1;simp[h1,h2,he]
def cmpN (a b:ByteArray):Int:=Lib.compareBytes a.data.toList b.data.toList
theorem znF (a b:ByteArray):decide (cmpN a b<0)=zbn a b:=by
 unfold cmpN zbn;rw[zhu,ByteArray.toList_eq,ByteArray.toList_eq]
theorem cmpN_zero (a b:ByteArray):(cmpN a b==0)=zaf a b:=by
 unfold cmpN zaf;rw[zgr,ByteArray.toList_eq,ByteArray.toList_eq]
def AscP (l:Parts):Prop:=l.Pairwise fun a b=>zbn a.1 b.1=true
theorem less_up {a b n:ByteArray} (cG:zbn a b=true) (h:zbn a n=false):zbn b n=false:=by
 cases hb:zbn b n
 ·rfl
 ·rw[zb4 cG hb]at h;cases h
def zdR:Parts->ByteArray->Bool
 | [],_=>false
 |p::_,n=>zaf p.1 n
def setP:Parts->ByteArray->Rat->Parts
 | [],n,q=>if q==0 then[]else[(n,q)]
 |p::r,n,q=>if zbn p.1 n then p::setP r n q else if zaf p.1 n then(if q==0 then r else(n,q)::r)else if q==0 then p::r else(n,q)::p::r
theorem zet {n:ByteArray} {q:Rat}: ∀ {A B:Parts},(∀p∈A,zbn p.1 n=true)->setP (A++B) n q=A++setP B n q
 | [],B,_=>rfl
 |a::A,B,h=>by
  rw[List.cons_append,setP,if_pos (h a Mcq),zet fun p hp=>h p Mdo];rfl
theorem zgs {a b:ByteArray} (h:zbn a b=true):zaf a b=false:=zcn.2 (zcH h)
theorem zfW {n:ByteArray}: ∀ {A B:Parts},(∀p∈A,zbn p.1 n=true)->zag (A++B) n=zag B n
 | [],B,_=>rfl
 |a::A,B,h=>by
  rw[List.cons_append,zbq,zgs (h a Mcq),if_neg Mcq,zfW fun p hp=>h p Mdo]
theorem zhE {A B:Parts} (h:AscP (A++B)):AscP B:=(List.pairwise_append.1 h).2.1
theorem znG {n:ByteArray}: ∀ {B:Parts},(∀p∈B,zbn p.1 n=false)->AscP B->zdR B n=false->zag B n=0
 | [],_,_,_=>rfl
 |b::B,h,ha,hh=>by
  have kT:=List.pairwise_cons.1 ha;have hb:b.1≠n:=zcn.1 hh;have fU:zbn n b.1=true:=by
   rcases zdu b.1 n with h1|h1|h1
   ·rw[h b Mcq]at h1;cases h1
   ·exact absurd h1 hb
   ·exact h1
  exact(zdG fun p hp=>by
   rcases List.mem_cons.1 hp with rfl|hp
   ·exact hb
   ·exact(zcH (zb4 fU (kT.1 p hp))).symm).1
theorem zfX {n:ByteArray} {q:Rat}: ∀ {A B:Parts},(∀p∈A,zbn p.1 n=true)->za4 (A++B) n q=A++za4 B n q
 | [],B,_=>rfl
 |a::A,B,h=>by
  rw[List.cons_append,za4];by_cases hq:q==0
  ·rw[if_pos hq];have:za4 B n q=B:=by
    cases B with
    |nil=>simp[za4,hq]
    |cons b B=>simp[za4,hq]
   rw[this];rfl
  ·rw[if_neg hq,if_pos (h a Mcq),zfX fun p hp=>h p Mdo];rfl
theorem zhF (l:Parts) (h:AscP l) (n:ByteArray): ∃A B,l=A++B/\(∀p∈A,zbn p.1 n=true)/\(∀p∈B,zbn p.1 n=false):=by
 induction l with
 |nil=>exact⟨[],[],rfl,by simp,by simp⟩
 |cons p l ih=>
  have hp:=List.pairwise_cons.1 h;cases hl:zbn p.1 n
  ·refine⟨[],p::l,rfl,by simp,fun x hx=> ?_⟩;rcases List.mem_cons.1 hx with rfl|hx
   ·exact hl
   ·exact less_up (hp.1 x hx) hl
  ·obtain⟨A,B,rfl,h1,h2⟩:=ih hp.2;refine⟨p::A,B,rfl,fun x hx=> ?_,h2⟩;rcases List.mem_cons.1 hx with rfl|hx
   ·exact hl
   ·exact h1 x hx
theorem zir {l:Parts} (h:GoodParts l) {n:ByteArray} {q:Rat} (hq:0<=q):setP l n (zag l n+q)=za4 l n q:=by
 obtain⟨A,B,rfl,h1,h2⟩:=zhF l h.1 n;rw[zet h1,zfW h1,zfX h1];congr 1
 have hB:=zhE h.1;cases B with
 |nil=>
  show(if(0:Rat)+q==0 then[]else[(n,0+q)])=if q==0 then[]else[(n,q)];rw[Rat.zero_add]
 |cons b B=>
  have hb:=h2 b Mcq;have JM:0<b.2:=h.2 b Mcq;cases hs:zaf b.1 n
  ·have h0:zag (b::B) n=0:=znG h2 hB hs;rw[h0,Rat.zero_add,setP,za4,hb,hs];simp
  ·rw[zbq,hs,if_pos rfl,setP,za4,hb,hs];have ai:(b.2+q==0)=false:=by
    rw[beq_eq_false_iff_ne];intro e;grind
   rw[ai];by_cases hz:q==0
   ·have:q=0:=by simpa using hz
    subst this;have gX:b.1=n:=za2.1 hs;simp[Rat.add_zero,<-gX]
   ·simp[hz]
theorem zhG {l:Parts} (h:AscP l) (n:ByteArray):setP l n 0=za0 l n:=by
 obtain⟨A,B,rfl,h1,h2⟩:=zhF l h n;rw[zet h1];unfold za0;rw[List.filter_append,List.filter_eq_self.2 fun p hp=>by rw[zgs (h1 p hp)];rfl];congr 1
 have hB:=zhE h;cases B with
 |nil=>rfl
 |cons b B=>
  have hb:=h2 b Mcq;have cJ:=List.pairwise_cons.1 hB;rw[setP,hb];cases hs:zaf b.1 n
  ·have fU:zbn n b.1=true:=by
    rcases zdu b.1 n with h3|h3|h3
    ·rw[hb]at h3;cases h3
    ·exact absurd h3 (zcn.1 hs)
    ·exact h3
   have e:(b::B).filter (fun p=>!zaf p.1 n)=b::B:=List.filter_eq_self.2 fun p hp=>by
    rcases List.mem_cons.1 hp with rfl|hp
    ·rw[hs];rfl
    ·rw[zcn.2 (zcH (zb4 fU (cJ.1 p hp))).symm];rfl
   rw[e];simp
  ·have gX:b.1=n:=za2.1 hs;have e:(b::B).filter (fun p=>!zaf p.1 n)=B:=by
    rw[List.filter_cons,hs,if_neg Mcq];exact List.filter_eq_self.2 fun p hp=>by rw[zcn.2 (gX▸(zcH (cJ.1 p hp)).symm)];rfl
   rw[e];simp
theorem zis {l:Parts} (h:AscP l) (n:ByteArray) (q:Rat):setP l n q=if q==0 then za0 l n else za4 (za0 l n) n q:=by
 by_cases hq:q==0
 ·rw[if_pos hq];have:q=0:=by simpa using hq
  rw[this];exact zhG h n
 ·rw[if_neg hq];obtain⟨A,B,rfl,h1,h2⟩:=zhF l h n;rw[zet h1];have hA:za0 (A++B) n=A++za0 B n:=by
   unfold za0;rw[List.filter_append,List.filter_eq_self.2 fun p hp=>by rw[zgs (h1 p hp)];rfl]
  rw[hA,zfX h1];congr 1
  have hB:=zhE h;rw[<-zhG hB n];cases B with
  |nil=>simp[setP,za4,hq]
  |cons b B=>
   have hb:=h2 b Mcq;have cJ:=List.pairwise_cons.1 hB;have gN:(q==0)=false:=by simpa using hq
   have e0:setP (b::B) n 0=if zaf b.1 n then B else b::B:=by rw[setP,hb];simp
   have e1:setP (b::B) n q=if zaf b.1 n then(n,q)::B else(n,q)::b::B:=by rw[setP,hb,gN];simp
   rw[e0,e1];cases hs:zaf b.1 n
   ·simp only[Bool.false_eq_true,if_false];rw[za4,gN,hb,hs];simp
   ·have gX:b.1=n:=za2.1 hs;simp only[if_true];cases B with
    |nil=>rw[za4,gN];simp
    |cons c B=>
     have hc:zbn n c.1=true:=gX▸cJ.1 c Mcq;rw[za4,gN,zj1 hc,zcn.2 (zcH hc).symm];simp
theorem zkr {n:ByteArray} {q:Rat}: ∀ {l:Parts} {p:ByteArray×Rat},p∈setP l n q->p=(n,q)\/p∈l
 | [],p,h=>by
   unfold setP at h;split at h
   ·simp at h
   ·exact .inl Mde
 |x::l,p,h=>by
  unfold setP at h;split at h
  ·rcases List.mem_cons.1 h with rfl|h
   ·exact .inr Mcq
   ·rcases zkr h with h|h
    ·exact .inl h
    ·exact .inr (by simp[h])
  ·split at h
   ·split at h
    ·exact .inr (by simp[h])
    ·rcases List.mem_cons.1 h with rfl|h
     ·exact .inl rfl
     ·exact .inr (by simp[h])
   ·split at h
    ·exact .inr h
    ·rcases List.mem_cons.1 h with rfl|h
     ·exact .inl rfl
     ·exact .inr h
theorem set_asc {l:Parts} (h:AscP l) (n:ByteArray) (q:Rat):AscP (setP l n q):=by
 obtain⟨A,B,rfl,h1,h2⟩:=zhF l h n;rw[zet h1];obtain⟨hA,hB,tk⟩:=List.pairwise_append.1 h;have eI: ∀b∈B,zaf b.1 n=false->zbn n b.1=true:=fun b hb hs=>by
  rcases zdu b.1 n with h3|h3|h3
  ·rw[h2 b hb]at h3;cases h3
  ·exact absurd h3 (zcn.1 hs)
  ·exact h3
 cases B with
 |nil=>
  rw[setP];split
  ·rw[List.append_nil];exact hA
  ·exact List.pairwise_append.2 ⟨hA,List.pairwise_singleton _ _,fun a ha b hb=>by
    rw[List.mem_singleton.1 hb];exact h1 a ha⟩
 |cons b B=>
  have cJ:=List.pairwise_cons.1 hB;rw[setP,h2 b Mcq,if_neg Mcq];cases hs:zaf b.1 n
  ·rw[if_neg Mcq];split
   ·exact h
   ·refine List.pairwise_append.2 ⟨hA,List.pairwise_cons.2 ⟨fun x hx=> ?_,hB⟩,fun a ha x hx=> ?_⟩
    ·rcases List.mem_cons.1 hx with rfl|hx
     ·exact eI _ Mcq hs
     ·exact zb4 (eI b Mcq hs) (cJ.1 x hx)
    ·rcases List.mem_cons.1 hx with rfl|hx
     ·exact h1 a ha
     ·exact tk a ha x hx
  ·have gX:b.1=n:=za2.1 hs;rw[if_pos rfl];split
   ·exact List.pairwise_append.2 ⟨hA,cJ.2,fun a ha x hx=>tk a ha x (by simp[hx])⟩
   ·refine List.pairwise_append.2 ⟨hA,List.pairwise_cons.2 ⟨fun x hx=> ?_,cJ.2⟩,fun a ha x hx=> ?_⟩
    ·exact gX▸cJ.1 x hx
    ·rcases List.mem_cons.1 hx with rfl|hx
     ·exact h1 a ha
     ·exact tk a ha x (by simp[hx])
theorem zdw {y:Int} (h:0<=y):zfa y=y/4-y/100+y/400:=by
 unfold zfa;rw[Int.tdiv_eq_ediv_of_nonneg h,Int.tdiv_eq_ediv_of_nonneg h,Int.tdiv_eq_ediv_of_nonneg h]
theorem znH {y:Int} (h:0<=y):zgS y=((y%4==0&&y%100 != 0)||y%400==0):=by
 unfold zgS;rw[Int.tmod_eq_emod_of_nonneg h,Int.tmod_eq_emod_of_nonneg h,Int.tmod_eq_emod_of_nonneg h]
def leapQ (y:Int):Bool:=y.tmod 4==0&&(y.tmod 100 != 0||y.tmod 400==0)
theorem leapQ_eq {y:Int} (h:0<=y):leapQ y=zgS y:=by
 rw[znH h];unfold leapQ;rw[Int.tmod_eq_emod_of_nonneg h,Int.tmod_eq_emod_of_nonneg h,Int.tmod_eq_emod_of_nonneg h,Bool.eq_iff_iff];simp only[Bool.and_eq_true,Bool.or_eq_true,beq_iff_eq,bne_iff_ne];omega
def begP (y:Int):Int:=365*(y-1800)+zfa (y-1)-436
theorem zbC (y:Int):zaE y 1=begP y:=by
 unfold zaE begP;simp[ze2]
theorem beg_up {y:Int} (h:1800<=y):begP (y+1)=begP y+365+(if zgS y then 1 else 0):=by
 unfold begP;rw[zdw Mcn,zdw Mcn,znH Mcn];have e:y+1-1=y:=Mcn;rw[e];split
 ·exact Mbz
 ·exact Mbz
theorem beg_low {day:Int} (h0:0<=day) (h1:day<=200000):begP (1800+day.tdiv 366)<=day:=by
 unfold begP;rw[Int.tdiv_eq_ediv_of_nonneg h0,zdw Mcn];omega
theorem znI {day:Int} (h0:0<=day) (h1:day<=200000):day<begP (1800+day.tdiv 366+10+1):=by
 unfold begP;rw[Int.tdiv_eq_ediv_of_nonneg h0,zdw Mcn];omega
theorem znJ (y:Int) {m:Nat} (h1:1<=m) (h2:m<=12):za7 y m=if(m:Int)==2&&zgS y then 29 else[31,28,31,30,31,30,31,31,30,31,30,31].getD (m-1) 0:=by
 unfold za7;have:m=1\/m=2\/m=3\/m=4\/m=5\/m=6\/m=7\/m=8\/m=9\/m=10\/m=11\/m=12:=by omega
 rcases this with rfl|rfl|rfl|rfl|rfl|rfl|rfl|rfl|rfl|rfl|rfl|rfl<;>rfl
theorem zdB (y:Int) {m:Nat} (h1:1<=m) (h2:m<=12):28<=za7 y m/\za7 y m<=31:=by
 rw[znJ y h1 h2];have:m=1\/m=2\/m=3\/m=4\/m=5\/m=6\/m=7\/m=8\/m=9\/m=10\/m=11\/m=12:=by omega
 rcases this with rfl|rfl|rfl|rfl|rfl|rfl|rfl|rfl|rfl|rfl|rfl|rfl<;>simp<;>split<;>simp
theorem zf8 (y:Int) {m:Nat} (h:1<=m):zaE y (m+1)=zaE y m+za7 y m:=by
 obtain⟨k,rfl⟩: ∃k,m=k+1:=⟨m-1,by omega⟩
 unfold zaE;simp only[Nat.add_sub_cancel,ze2];have:((k+1:Nat):Int)=(k:Int)+1:=by omega
 rw[this];omega
theorem zj9 {y:Int} (h:1800<=y):zaE (y+1) 1=zaE y 12+za7 y 12:=by
 rw[zbC,beg_up h,<-zbC,show(12:Int)=((12:Nat):Int) by rfl,<-zf8 y Mcn];unfold zaE;have e:ze2 y (12+1-1)=365+(if zgS y then 1 else 0):=by
  simp only[ze2,za7,lensP];cases zgS y<;>simp
 rw[e];simp[ze2];omega
structure DateIs (day y:Int) (m:Nat):Prop where
 y0:1800<=y
 y1:y<=2400
 m0:1<=m
 m1:m<=12
 lo:zaE y m<=day
 hi:day<zaE y m+za7 y m
theorem zlk {day:Int} {f:Nat} {y:Int} (h:zaE (y+1) 1<=day):zen day (f+1) y=zen day f (y+1):=by
 rw[zen,if_pos Mde]
theorem zll {day:Int} {y:Int} (h: ¬zaE (y+1) 1<=day): ∀f,zen day f y=y
 |0=>rfl
 |f+1=>by rw[zen,if_neg Mde]
theorem zjA {day y:Int} {f m:Nat} (hm:m<12) (h:zaE y (m+1)<=day):zdl day y (f+1) m=zdl day y f (m+1):=by
 rw[zdl,if_pos (by simp[hm,h])]
theorem zjB {day y:Int} {m:Nat} (h: ¬(m<12/\zaE y (m+1)<=day)): ∀f,zdl day y f m=m
 |0=>rfl
 |f+1=>by rw[zdl,if_neg Mde]
def zbg (q:Rat):Rat:=if bigQ q then 0 else q
theorem zgt (q:Rat):bigQ (zbg q)=false:=by
 unfold zbg;cases h:bigQ q
 ·simpa using h
 ·simp[bigQ]
theorem zcv {q:Rat} (h:0<=q):0<=zbg q:=by
 unfold zbg;split
 ·exact Rat.le_refl
 ·exact h
theorem zhc {q:Rat} (h:0<=q):zbg q<=q:=by
 unfold zbg;split
 ·exact h
 ·exact Rat.le_refl
theorem zfg {q:Rat} (h:bigQ q=false):zbg q=q:=by simp[zbg,h]
def zfh (own:Rat) (p:ByteArray×Rat) (x:Parts×Bool):Parts×Bool:=
 (setP x.1 p.1 (zbg (zag x.1 p.1+zbg (own*p.2))),x.2||bigQ (own*p.2)||bigQ (zag x.1 p.1+zbg (own*p.2)))
def zei (own:Rat):Parts->Parts×Bool->Parts×Bool
 | [],x=>x
 |p::l,x=>zei own l (zfh own p x)
theorem zfi (own:Rat): ∀(a b:Parts) (x:Parts×Bool),zei own (a++b) x=zei own b (zei own a x)
 | [],_,_=>rfl
 |p::a,b,x=>zfi own a b _
theorem zfj {own:Rat}: ∀ {l:Parts} {x:Parts×Bool},x.2=true->(zei own l x).2=true
 | [],_,h=>h
 |p::l,x,h=>zfj (l:=l) (by simp[zfh,h])
theorem zhH {l:Parts} (h:GoodParts l) {n:ByteArray} {q:Rat} (hq:0<=q):GoodParts (setP l n q):=by
 by_cases h0:q=0
 ·subst h0;rw[zhG h.asc];exact zbI h
 ·refine⟨set_asc h.asc n q,fun p hp=> ?_⟩;rcases zkr hp with rfl|hp
  ·show 0<q;grind
  ·exact h.pos p hp
theorem zm8 {l:Parts} (h:GoodParts l) (n:ByteArray) (q:Rat):sumQ (setP l n q)=sumQ l-zag l n+q:=by
 have hw:=zch (n:=n) h;rw[zis h.asc];by_cases hq:q==0
 ·rw[if_pos hq];have:q=0:=by simpa using hq
  subst this;grind
 ·rw[if_neg hq,zbZ];grind
theorem zeu {l:Parts} {n:ByteArray} {q:Rat} (h:zaF l=false) (hq:bigQ q=false):zaF (setP l n q)=false:=by
 unfold zaF at*;rw[List.any_eq_false]at*;intro p hp;rcases zkr hp with rfl|hp
 ·simpa using hq
 ·exact h p hp
theorem zit {n:ByteArray} {q:Rat}: ∀ {l:Parts},(setP l n q).length<=l.length+1
 | []=>by unfold setP;split<;>simp
 |x::l=>by
  unfold setP;have:=zit (n:=n) (q:=q) (l:=l);split
  ·simpa using this
  ·split
   ·split<;>simp<;>omega
   ·split<;>simp
theorem zcJ {l:Parts} (n:ByteArray) (h:zaF l=false):bigQ (zag l n)=false:=by
 unfold zag;cases hf:l.find? (fun p=>zaf p.1 n)with
 |none=>simp[bigQ]
 |some p=>
  unfold zaF at h;rw[List.any_eq_false]at h;simpa using h p (List.mem_of_find?_eq_some hf)
theorem zdx {l:Parts} (h:GoodParts l) (n:ByteArray):zag l n<=sumQ l:=by
 have h1:=zch (n:=n) h;have h2:=zbp (l:=za0 l n) fun p hp=>by have:=(zbI h (n:=n)).pos p hp;grind
 grind
theorem zcc {q:Rat} (h0:0<=q) (h1:q<=1) (hb:bigQ q=false):zaI q:=by
 unfold bigQ at hb;have hd:=q.den_pos;have bn:(q.den:Int)<=1000000000:=by simpa using hb
 rw[Rat.le_iff]at h0 h1;have h2:0<=q.num:=Mdh;have h3:q.num<=(q.den:Int):=McT;exact⟨by omega,by omega⟩
structure Bd (out:Parts) (t:Rat):Prop where
 good:GoodParts out
 small:zaF out=false
 le:sumQ out<=t
theorem Bd.share {out:Parts} {t:Rat} (h:Bd out t) (ht:t<=1) (n:ByteArray):zaI (zag out n):=
 zcc (zbA h.good n) (by have:=zdx h.good n;have:=h.le;grind) (zcJ n h.small)
theorem Bd.set {out:Parts} {t g:Rat} (h:Bd out t) (n:ByteArray) (hg:0<=g):Bd (setP out n (zbg (zag out n+g))) (t+g):=by
 have hs:=zbA h.good n;have h1:0<=zag out n+g:=McP;refine⟨zhH h.good (zcv h1),zeu h.small (zgt _),?_⟩;rw[zm8 h.good];have:=zhc h1;have:=h.le;grind
theorem Bd.gain {own:Rat} {out:Parts} {t:Rat} {p:ByteArray×Rat} {f:Bool} (h:Bd out t) (ho:0<=own) (hp:0<=p.2):Bd (zfh own p (out,f)).1 (t+own*p.2):=by
 have hm:0<=own*p.2:=Rat.mul_nonneg ho hp;have h1:=h.set p.1 (zcv hm);have h2:=zhc hm;exact⟨h1.good,h1.small,by have:=h1.le;grind [zfh]⟩
theorem znK {out:Parts} (h:GoodParts out) {n:ByteArray} {g:Rat} (hg:0<=g) (hb:bigQ (zag out n+g)=false):setP out n (zbg (zag out n+g))=za4 out n g:=by
 rw[zfg hb,zir h hg]
theorem zlm {n:ByteArray} {q:Rat}: ∀ {l:Parts},GoodParts l->0<q->(n,zag l n+q)∈za4 l n q
 | [],_,hq=>by
   have:(q==0)=false:=by rw[beq_eq_false_iff_ne];grind
   simp[za4,this,zag,Rat.zero_add]
 |x::l,h,hq=>by
  have gK:(q==0)=false:=by rw[beq_eq_false_iff_ne];grind
  have ht:GoodParts l:=⟨(List.pairwise_cons.1 h.asc).2,fun p hp=>h.pos p Mdo⟩
  rw[za4,gK];cases hl:zbn x.1 n
  ·cases hs:zaf x.1 n
   ·have aa:zbn n x.1=true:=by
     rcases zdu x.1 n with h1|h1|h1
     ·rw[hl]at h1;cases h1
     ·exact absurd h1 (zcn.1 hs)
     ·exact h1
    have h0:zag (x::l) n=0:=(zdG fun p hp=>by
     rcases List.mem_cons.1 hp with rfl|hp
     ·exact(zcH aa).symm
     ·exact(zcH (zb4 aa ((List.pairwise_cons.1 h.asc).1 p hp))).symm).1
    simp[h0,Rat.zero_add]
   ·rw[zbq,hs];simp
  ·rw[zbq,zgs hl];simp only[Bool.false_eq_true,if_false,if_true];exact List.mem_cons_of_mem _ (zlm ht hq)
theorem zfk {out:Parts} (h:GoodParts out) (hs:zaF out=false) {n:ByteArray} {g:Rat} (hg:0<=g):zaF (za4 out n g)=bigQ (zag out n+g):=by
 by_cases h0:g=0
 ·subst h0;have:za4 out n 0=out:=by cases out<;>simp[za4]
  rw[this,hs,Rat.add_zero,zcJ n hs]
 ·cases hb:bigQ (zag out n+g)
  ·rw[<-zir h hg];exact zeu hs hb
  ·unfold zaF;rw[List.any_eq_true];exact⟨_,zlm h McP,hb⟩
theorem ziu {own:Rat} (ho:0<=own): ∀ {l out:Parts},(∀p∈l,0<=p.2)->GoodParts out->zaF out=false->
 (∀o,zb8 own l out=some o->zei own l (out,false)=(o,false))/\(zb8 own l out=none->(zei own l (out,false)).2=true)
 | [],out,_,_,_=>by
   refine⟨fun o h=> ?_,fun h=> ?_⟩
   ·rw[zb8]at h;cases h;rfl
   ·rw[zb8]at h;cases h
 |p::l,out,hp,hg,hs=>by
  have hm:0<=own*p.2:=Rat.mul_nonneg ho (hp p Mcq);rw[zb8];show(∀o,_=_->zei own l (zfh own p (out,false))=_)/\(_->(zei own l (zfh own p (out,false))).2=true);cases h1:bigQ (own*p.2)
  ·have dQ:zbg (own*p.2)=own*p.2:=zfg h1;have cz:=zfk hg hs (n:=p.1) hm;rw[if_neg Mcq];cases h2:bigQ (zag out p.1+own*p.2)
   ·have e:zfh own p (out,false)=(za4 out p.1 (own*p.2),false):=by
     unfold zfh;simp only[dQ,h1,h2,Bool.or_self];rw[znK hg hm h2]
    rw[cz,h2,if_neg Mcq,e];exact ziu ho (fun q hq=>hp q MdF) (zbv hm hg) (by rw[cz,h2])
   ·rw[cz,h2,if_pos rfl];refine⟨fun o h=>by(cases h),fun _=>zfj ?_⟩;simp[zfh,dQ,h2]
  ·rw[if_pos rfl];refine⟨fun o h=>by(cases h),fun _=>zfj ?_⟩;simp[zfh,h1]
theorem zm9 {own:Rat} (ho:0<=own): ∀ {l out:Parts} {f:Bool} {t:Rat},(∀p∈l,0<=p.2)->Bd out t->Bd (zei own l (out,f)).1 (t+own*sumQ l)
 | [],out,f,t,_,h=>by
   show Bd out (t+own*0);rw[Rat.mul_zero,Rat.add_zero];exact h
 |p::l,out,f,t,hp,h=>by
  have h1:=zm9 ho (l:=l) (f:=(zfh own p (out,f)).2) (fun q hq=>hp q MdF) (h.gain (f:=f) ho (hp p Mcq));have e:t+own*p.2+own*sumQ l=t+own*sumQ (p::l):=by rw[sumQ];grind
  rw[e]at h1;exact h1
def zcw (hs:Parts) (frm:ByteArray) (tl:Parts):Parts×Bool:=
 zei (zag hs frm) tl (setP hs frm (zbg (zag hs frm*(1-sumQ tl))),bigQ (zag hs frm*(1-sumQ tl)))
theorem zks {hs tl:Parts} {frm:ByteArray} (hg:GoodParts hs) (hl:zaF hs=false) (hp: ∀p∈tl,0<=p.2) (h1:sumQ tl<=1):
 (if bigQ (zag hs frm*(1-sumQ tl))then none else zb8 (zag hs frm) tl (za4 (za0 hs frm) frm (zag hs frm*(1-sumQ tl))))=if(zcw hs frm tl).2 then none else some (zcw hs frm tl).1:=by
 have ho:=zbA hg frm;have hk:0<=zag hs frm*(1-sumQ tl):=Rat.mul_nonneg ho McP;unfold zcw;cases hb:bigQ (zag hs frm*(1-sumQ tl))
 ·rw[zfg hb,if_neg Mcq];have e:setP hs frm (zag hs frm*(1-sumQ tl))=za4 (za0 hs frm) frm (zag hs frm*(1-sumQ tl)):=by
   rw[zis hg.asc];split
   ·rename_i h0
    have:zag hs frm*(1-sumQ tl)=0:=by simpa using h0
    rw[this];cases za0 hs frm<;>simp[za4]
   ·rfl
  have aK:=zhH hg (n:=frm) hk;have sE:=zeu (n:=frm) hl hb;obtain⟨g1,g2⟩:=ziu ho hp aK sE;rw[e]at g1 g2⊢;cases hx:zb8 (zag hs frm) tl (za4 (za0 hs frm) frm (zag hs frm*(1-sumQ tl)))with
  |none=>rw[g2 hx,if_pos rfl]
  |some o=>rw[g1 o hx,if_neg Mcq]
 ·rw[if_pos rfl,zfj rfl,if_pos rfl]
def zcQ (n:ByteArray) (f:Rat) (x:Parts×Bool):Parts×Bool:=
 (setP x.1 n (zbg (zag x.1 n+f)),x.2||bigQ (zag x.1 n+f))
mutual
def zbN (part:Rat):List Tree->Parts×Bool->Parts×Bool
 | [],x=>x
 |t::l,x=>zbN part l (zdS part t x)
def zdS (part:Rat):Tree->Parts×Bool->Parts×Bool
 | .leaf n,x=>zcQ n part x
 | .node l,x=>zbN (zbg (part*(1/(l.length:Rat)))) l (x.1,x.2||bigQ (part*(1/(l.length:Rat))))
end
def zcx (l:List Tree) (f:Rat) (x:Parts×Bool):Parts×Bool:=
 zbN (zbg (f*(1/(l.length:Rat)))) l (x.1,x.2||bigQ (f*(1/(l.length:Rat))))
theorem zor (part:Rat) (l:List Tree) (x:Parts×Bool):zdS part (.node l) x=zcx l part x:=by rw[zdS,zcx]
theorem zgu (part:Rat): ∀(a b:List Tree) (x:Parts×Bool),zbN part (a++b) x=zbN part b (zbN part a x)
 | [],_,_=>by rw[List.nil_append,zbN]
 |t::a,b,x=>by rw[List.cons_append,zbN,zbN,zgu part a b]
def zdh (s:St) (frm:ByteArray):Parts->Parts×Bool->Rat->(Parts×Bool)×Rat
 | [],x,rest=>(x,rest)
 |p::l,x,rest=>if zdZ s p.1 frm then zdh s frm l (zcQ p.1 p.2 x) (rest-p.2)else zdh s frm l x rest
def zcm (s:St) (n:ByteArray):ByteArray:=if zdZ s (zaJ s n) n then zaJ s n else⟨#[]⟩
def zcf (s:St) (law:Law) (n:ByteArray):Parts×Bool:=
 let y:=zdh s n (zbs s n) ([],false) 1
 let sp:=zcm s n
 let lines:=zb5 s law.stems n (zaW s) n
 if lines.isEmpty then zcQ sp y.2 y.1 else
 if noB sp then zcx lines y.2 y.1 else
 zcx lines (y.2-y.2*Rat.divInt law.num law.den) (zcQ sp (y.2*Rat.divInt law.num law.den) y.1)
mutual
theorem zf9 {part:Rat}: ∀ {l:List Tree} {x:Parts×Bool},x.2=true->(zbN part l x).2=true
 | [],x,h=>by rw[zbN];exact h
 |t::l,x,h=>by rw[zbN];exact zf9 (tree_mark h)
theorem tree_mark {part:Rat}: ∀ {t:Tree} {x:Parts×Bool},x.2=true->(zdS part t x).2=true
 | .leaf n,x,h=>by rw[zdS];simp[zcQ,h]
 | .node l,x,h=>by rw[zdS];exact zf9 (by simp[h])
end
theorem zgv {out:Parts} (h:GoodParts out) {n:ByteArray} {f:Rat} (hf:0<=f) (hb:bigQ (zag out n+f)=false):zcQ n f (out,false)=(za4 out n f,false):=by
 unfold zcQ;simp only[hb,Bool.or_self];rw[znK h hf hb]
theorem zkt (a:Rat) (n:Nat):a*(1/(n:Rat))=a/(n:Rat):=by
 rw[Rat.div_def,Rat.div_def,Rat.one_mul]
theorem ze9 {a:Rat} (h:0<=a) (n:Nat):0<=a*(1/(n:Rat)):=by
 rw[zkt];exact zcE h Rat.natCast_nonneg
mutual
theorem zhd {each:Rat} (he:0<=each): ∀ {l:List Tree} {out:Parts},GoodParts out->zaF out=false->
 (∀o,zbE each l out=some o->zbN each l (out,false)=(o,false))/\(zbE each l out=none->(zbN each l (out,false)).2=true)
 | [],out,hg,hs=>by
   rw[zbE,zbN];exact Mbx
 |t::l,out,hg,hs=>by
  obtain⟨h1,h2⟩:=tree_same he (t:=t) hg hs;rw[zbE,zbN];cases ht:zem each t out with
  |none=>
   refine⟨fun o h=>by(cases h),fun _=>zf9 (h2 ht)⟩
  |some o1=>
   rw[h1 o1 ht];obtain⟨g1,g2⟩:=zik he hg hs ht;exact zhd he g1 g2
theorem tree_same {each:Rat} (he:0<=each): ∀ {t:Tree} {out:Parts},GoodParts out->zaF out=false->
 (∀o,zem each t out=some o->zdS each t (out,false)=(o,false))/\(zem each t out=none->(zdS each t (out,false)).2=true)
 | .leaf n,out,hg,hs=>by
   rw[zem,zdS,zfk hg hs he];cases hb:bigQ (zag out n+each)
   ·rw[if_neg Mcq,zgv hg he hb];exact Mbx
   ·rw[if_pos rfl];refine⟨fun o h=>by(cases h),fun _=>by simp[zcQ,hb]⟩
 | .node l,out,hg,hs=>by
   rw[zem,zdS,zkt];cases hb:bigQ (each/(l.length:Rat))
   ·rw[if_neg Mcq,zfg hb];exact zhd (zcE he Rat.natCast_nonneg) hg hs
   ·exact MbO
end
theorem zos (out:Parts) (n:ByteArray):za4 out n 0=out:=by cases out<;>simp[za4]
theorem zhe {out:Parts} (h:GoodParts out) (hs:zaF out=false) (n:ByteArray):zcQ n 0 (out,false)=(out,false):=by
 rw[zgv h Rat.le_refl (by rw[Rat.add_zero];exact zcJ n hs),zos]
theorem zgw (k:Nat):zbg (0*(1/(k:Rat)))=0/\bigQ (0*(1/(k:Rat)))=false:=by
 rw[Rat.zero_mul];exact⟨zfg Mcp,by decide⟩
mutual
theorem zhf: ∀ {l:List Tree} {out:Parts},GoodParts out->zaF out=false->zbN 0 l (out,false)=(out,false)
 | [],out,_,_=>by rw[zbN]
 |t::l,out,hg,hs=>by rw[zbN,tree_zero hg hs,zhf hg hs]
theorem tree_zero: ∀ {t:Tree} {out:Parts},GoodParts out->zaF out=false->zdS 0 t (out,false)=(out,false)
 | .leaf n,out,hg,hs=>by rw[zdS,zhe hg hs]
 | .node l,out,hg,hs=>by
   rw[zdS,(zgw l.length).1,(zgw l.length).2];exact zhf hg hs
end
theorem zfY {l:List Tree} {out:Parts} (hg:GoodParts out) (hs:zaF out=false):zcx l 0 (out,false)=(out,false):=by
 rw[zcx,(zgw l.length).1,(zgw l.length).2];exact zhf hg hs
theorem zgx {s:St} {frm:ByteArray}: ∀ {l out:Parts} {rest:Rat},(∀p∈l,0<p.2)->(∀p∈l,IsN 720720 p.2)->GoodParts out->(∀p∈out,IsN 720720 p.2)->
 zdh s frm l (out,false) rest=(((zcp s frm l out rest).1,false),(zcp s frm l out rest).2)
 | [],out,rest,_,_,_,_=>rfl
 |p::l,out,rest,hp,hN,hg,hn=>by
  have hl:=fun q (hq:q∈l)=>hp q MdF
  have vI:=fun q (hq:q∈l)=>hN q MdF
  rw[zdh,zcp];split
  ·have h0:0<=p.2:=by have:=hp p Mcq;grind
   have aN:=zcF (nm:=p.1) (hN p Mcq) hn;have hb:bigQ (zag out p.1+p.2)=false:=by
    rw[<-zfk hg (zc4 Mcp Mcp hn) h0];exact zc4 Mcp Mcp aN
   rw[zgv hg h0 hb];exact zgx hl vI (zbv h0 hg) aN
  ·exact zgx hl vI hg hn
theorem isN_law {law:Law} (hl:za9 16 law.num law.den=true):(∃d:Nat,0<d/\d<=16/\IsN d (Rat.divInt law.num law.den))/\0<=Rat.divInt law.num law.den/\Rat.divInt law.num law.den<=1:=by
 refine⟨?_,(zbj hl).2.2⟩;have hd:=hl;exact M9
theorem zev {n:Nat} (h0:0<n) (h1:n<=1000000000) {q:Rat} (h:IsN n q):bigQ q=false:=by
 have:=zkn h0 h;unfold bigQ;simp;omega
theorem zeA {s:St} {law:Law} {n:ByteArray} (hw:WillOk (zbs s n)) (hl:za9 16 law.num law.den=true):
 (∀o,zct s law n=some o->(zcf s law n)=(o,false))/\(zct s law n=none->(zcf s law n).2=true):=by
 have jL:=zgx (s:=s) (frm:=n) (rest:=1) hw.pos hw.isN zd7 Mcq;have hg:=zil (s:=s) (frm:=n) (out:=[]) (rest:=1) hw.pos hw.isN hw.le zd7 Mcq (zgY _);unfold zct zcf zcm;rw[jL];generalize zcp s n (zbs s n) [] 1=q at*;obtain⟨out,rest⟩:=q;dsimp only at*;obtain⟨g1,g2,g3,g4,g5⟩:=hg;have gs:zaF out=false:=zc4 Mcp Mcp g2;obtain⟨⟨ld,ld0,ld1,l1⟩,l2,l3⟩:=isN_law hl;generalize Rat.divInt law.num law.den=la at*;generalize(if zdZ s (zaJ s n) n=true then zaJ s n else⟨#[]⟩)=sp at*;generalize zb5 s law.stems n (zaW s) n=tr at*;by_cases hr:rest=0
 ·subst hr;have hz:(0:Rat)-0=0:=McP;simp only[Rat.zero_mul,hz,beq_self_eq_true,if_true];refine⟨fun o h=> ?_,fun h=>by cases h⟩;cases h;split
  ·exact zhe g1 gs sp
  ·split
   ·exact zfY g1 gs
   ·rw[zhe g1 gs,zfY g1 gs]
 ·have pV:(rest==0)=false:=by simpa using hr
  have oN:0<rest:=McP;simp only[pV,Bool.false_eq_true,if_false];cases he:tr.isEmpty
  ·simp only[Bool.false_eq_true,if_false];have wK: ∀ {x:Parts} {r:Rat},GoodParts x->zaF x=false->0<=r->
    (∀o,(if bigQ (r/(tr.length:Rat))=true then none else zbE (r/(tr.length:Rat)) tr x)=some o->zcx tr r (x,false)=(o,false))/\((if bigQ (r/(tr.length:Rat))=true then none else zbE (r/(tr.length:Rat)) tr x)=none->(zcx tr r (x,false)).2=true):=fun {x r} hx bw cu=>by
    rw[zcx,zkt];cases hb:bigQ (r/(tr.length:Rat))
    ·rw[if_neg Mcq,zfg hb];exact zhd (zcE cu Rat.natCast_nonneg) hx bw
    ·exact MbO
   cases hn:noB sp
   ·simp only[Bool.false_eq_true,if_false];have iU:0<=rest*la:=Rat.mul_nonneg g4 l2;have kZ:rest*la<=rest:=by
     have:=Rat.mul_nonneg g4 (show 0<=1-la by grind);grind
    have hb:bigQ (zag out sp+rest*la)=false:=by
     have h1:IsN (720720*ld) (zag out sp+rest*la):=by
      refine zkk (zle ?_) (zkl g3 l1);unfold zag;cases hf:out.find? (fun p=>zaf p.1 sp)with
      |none=>exact zkm _
      |some p=>exact g2 p (List.mem_of_find?_eq_some hf)
     exact zev Mcn Mcn h1
    rw[zgv g1 iU hb];have cy:=zbv (n:=sp) iU g1;have bp:zaF (za4 out sp (rest*la))=false:=by rw[zfk g1 gs iU];exact hb
    by_cases hz:rest-rest*la=0
    ·rw[hz];simp only[beq_self_eq_true,if_true];exact⟨fun o h=>by cases h;exact zfY cy bp,fun h=>by cases h⟩
    ·have ja:(rest-rest*la==0)=false:=Mdu;simp only[ja,Bool.false_eq_true,if_false];exact wK cy bp McP
   ·simp only[if_true];have hz:rest-0=rest:=McP;simp only[hz,pV,Bool.false_eq_true,if_false];exact wK g1 gs g4
  ·simp only[if_true];have hb:bigQ (zag out sp+rest)=false:=by
    rw[<-zfk g1 gs g4];exact zc4 Mcp Mcp (zcF g3 g2)
   rw[zgv g1 g4 hb];exact Mbx
theorem zln {l:Parts} (h:GoodParts l) {n:ByteArray} {q:Rat} (m:ByteArray):zag (setP l n q) m=if zaf m n then q else zag l m:=by
 have hw:=zbI h (n:=n);have h0:zag (za0 l n) n=0:=by rw[zdA,zbY];rfl
 rw[zis h.asc];by_cases hq:q==0
 ·rw[if_pos hq,zdA];have:q=0:=by simpa using hq
  rw[this]
 ·rw[if_neg hq,ziq hw,h0,Rat.zero_add];cases hs:zaf m n
  ·simp only[Bool.false_eq_true,if_false];rw[zdA,hs];rfl
  ·rfl
theorem eqS_same (a b:ByteArray):eqS a b=zaf a b:=rfl
theorem zfl {V:Type} (k:ByteArray) (v:V) (n:ByteArray): ∀m:List (ByteArray×V),mget eqS n (mput eqS k v m)=if zaf n k then some v else mget eqS n m
 | []=>rfl
 |x::m=>by
  rw[mput];have kX:eqS k x.1=zaf k x.1:=rfl;rw[kX];cases hk:zaf k x.1
  ·rw[if_neg Mcq,mget,mget,zfl k v n m];have jG:eqS n x.1=zaf n x.1:=rfl;rw[jG];cases hn:zaf n x.1
   ·simp
   ·have KK:zaf n k=false:=by
     rw[zcn];intro e;rw[za2]at hn;rw[zcn]at hk;exact hk (e▸hn)
    simp[KK]
  ·have kX:k=x.1:=za2.1 hk;rw[if_pos rfl,mget,mget];show(if zaf n k=true then _ else _)=_;cases hn:zaf n k
   ·have:eqS n x.1=false:=by rw[eqS_same,<-kX,hn]
    simp[this]
   ·simp
theorem zgy {V:Type} (k:ByteArray) (v:V): ∀m:List (ByteArray×V),(m.map (·.1)).Nodup->((mput eqS k v m).map (·.1)).Nodup/\ ∀x∈(mput eqS k v m).map (·.1),x=k\/x∈m.map (·.1)
 | [],_=>by simp[mput]
 |x::m,h=>by
  rw[mput];have kX:eqS k x.1=zaf k x.1:=rfl;rw[kX];rw[List.map_cons,List.nodup_cons]at h;cases hk:zaf k x.1
  ·obtain⟨h1,h2⟩:=zgy k v m h.2;rw[if_neg Mcq,List.map_cons];refine⟨List.nodup_cons.2 ⟨fun hx=> ?_,h1⟩,fun y hy=> ?_⟩
   ·rcases h2 _ hx with e|e
    ·rw[e,zbY]at hk;cases hk
    ·exact h.1 e
   ·rcases List.mem_cons.1 hy with rfl|hy
    ·exact .inr Mcq
    ·rcases h2 y hy with e|e
     ·exact .inl e
     ·exact .inr (by simp[e])
  ·have e:k=x.1:=za2.1 hk;rw[if_pos rfl,List.map_cons];refine⟨List.nodup_cons.2 ⟨by rw[e];exact h.1,h.2⟩,fun y hy=> ?_⟩;rcases List.mem_cons.1 hy with rfl|hy
   ·exact .inl rfl
   ·exact .inr (by simp[hy])
theorem zcZ {V:Type} {n:ByteArray} {v:V}: ∀ {m:List (ByteArray×V)},mget eqS n m=some v->(n,v)∈m
 | [],h=>by simp[mget]at h
 |x::m,h=>by
  rw[mget]at h;have jG:eqS n x.1=zaf n x.1:=rfl;rw[jG]at h;cases hn:zaf n x.1
  ·rw[hn,if_neg Mcq]at h;exact List.mem_cons_of_mem _ (zcZ h)
  ·rw[hn,if_pos rfl]at h;have e:=za2.1 hn;simp only[Option.some.injEq]at h;rw[e,<-h];exact List.mem_cons_self
theorem zhI {V:Type} {n:ByteArray} {v:V}: ∀ {m:List (ByteArray×V)},(m.map (·.1)).Nodup->(n,v)∈m->mget eqS n m=some v
 | [],_,h=>by simp at h
 |x::m,hd,h=>by
  rw[List.map_cons,List.nodup_cons]at hd;rw[mget];have jG:eqS n x.1=zaf n x.1:=rfl;rw[jG];rcases List.mem_cons.1 h with rfl|h
  ·rw[zbY,if_pos rfl]
  ·have ai:zaf n x.1=false:=zcn.2 fun e=>hd.1 (by rw[<-e];exact List.mem_map.2 ⟨_,h,rfl⟩)
   rw[ai,if_neg Mcq];exact zhI hd.2 h
noncomputable def zdT (laws:List Law) (upto:Int):List Deed->St->Nat->Int->St×Nat×Int
 | [],s,k,_=>(s,k,0)
 |d::l,s,k,last=>
  if za5 d==0&&decide (upto<d.day)then(s,k+(d::l).length,0)else
  if(zbT laws s k last d).2 != 0 then(s,k,(zbT laws s k last d).2)else zdT laws upto l (zbT laws s k last d).1 (k+1) d.day
theorem zdH {laws:List Law} {s:St} {k:Nat} {last:Int} {d:Deed} (h:(zbT laws s k last d).2=0):za5 d=0/\k<60/\last<=d.day/\zbT laws s k last d=zbm laws s d:=by
 unfold zbT at h⊢;split at h
 ·rename_i hc
  have h:za5 d=0:=h;rw[h]at hc;exact absurd hc Mcp
 rename_i hc
 split at h
 ·simp at h
 rename_i hk
 split at h
 ·simp at h
 rename_i hl
 rw[if_neg hc,if_neg hk,if_neg hl];simp at hc hk hl;exact⟨hc,hk,hl,rfl⟩
theorem zjC {laws:List Law} {upto:Int}: ∀ {ds:List Deed} {s told:St} {k:Nat} {last:Int},(zaV laws upto ds s told k last).2.2=0->upto<last->(zaV laws upto ds s told k last).1=told
 | [],s,told,k,last,_,_=>rfl
 |d::l,s,told,k,last,h,hl=>by
  rw[zaV]at h⊢;split at h
  ·exact Man
  ·rename_i hc
   rw[if_neg hc];have hn:=zdH (show(zbT laws s k last d).2=0 by simpa using hc);have hd: ¬decide (d.day<=upto)=true:=Mcr;rw[if_neg hd]at h⊢;exact zjC h Mcn
theorem zlo {laws:List Law} {upto:Int}: ∀ {ds:List Deed} {s:St} {k:Nat} {last:Int},(zaV laws upto ds s s k last).2.2=0->
 (zdT laws upto ds s k last).1=(zaV laws upto ds s s k last).1/\(zdT laws upto ds s k last).2.2=0
 | [],s,k,last,_=>⟨rfl,rfl⟩
 |d::l,s,k,last,h=>by
  rw[zaV]at h⊢;split at h
  ·exact Man
  ·rename_i hc
   rw[if_neg hc];have h0:(zbT laws s k last d).2=0:=MdZ;have hn:=zdH h0;rw[zdT];by_cases hd:d.day<=upto
   ·have e1:decide (d.day<=upto)=true:=by simpa using hd
    have e2: ¬(za5 d==0&&decide (upto<d.day))=true:=Mcr;rw[if_pos e1]at h⊢;rw[if_neg e2,if_neg hc];exact zlo h
   ·have e1: ¬decide (d.day<=upto)=true:=by simpa using hd
    have e2:(za5 d==0&&decide (upto<d.day))=true:=by simp[hn.1];omega
    rw[if_neg e1]at h⊢;rw[if_pos e2];exact⟨(zjC h Mcn).symm,rfl⟩
theorem znL {laws:List Law} {upto:Int} (hu:200000<=upto): ∀ {ds:List Deed} {s:St} {k:Nat} {last:Int},
 (zdT laws upto ds s k last).2=(zaV laws upto ds s s k last).2
 | [],s,k,last=>rfl
 |d::l,s,k,last=>by
  rw[zdT,zaV];have h1: ¬(za5 d==0&&decide (upto<d.day))=true:=by
   intro h;simp only[Bool.and_eq_true,beq_iff_eq,decide_eq_true_eq]at h;have:=(zdP h.1).day;omega
  rw[if_neg h1];split
  ·rfl
  ·rename_i hc
   have hn:=zdH (show(zbT laws s k last d).2=0 by simpa using hc);have:=(zdP hn.1).day;rw[if_pos Mcr];exact znL hu
def zcU (n set:Nat):List Nat:=(List.range n).filter fun i=>set.testBit i
theorem zot: ∀a b:Fin 64,a.val*64+b.val≠0->zcU 12 (a.val*64+b.val)=Lib.ctz 64 (a.val*64+b.val)::zcU 12 ((a.val*64+b.val) &&& (a.val*64+b.val-1)):=by decide+kernel
theorem zou (x:Nat) (hx:x<4096) (h0:x≠0):zcU 12 x=Lib.ctz 64 x::zcU 12 (x &&& (x-1)):=by
 have h:=zot ⟨x/64,by omega⟩ ⟨x%64,by omega⟩;have e:x/64*64+x%64=x:=Mcn;simp only[e]at h;exact h h0
theorem bits_up {n x:Nat} (hn:n<=12) (hx:x<2^n):zcU n x=zcU 12 x:=by
 unfold zcU;have h:List.range 12=List.range n++(List.range (12-n)).map (n+ ·):=by
  rw[<-List.range_add];congr 1
  omega
 rw[h,List.filter_append];have h2:((List.range (12-n)).map (n+ ·)).filter (fun i=>x.testBit i)=[]:=by
  rw[List.filter_eq_nil_iff];intro i hi;obtain⟨j,_,rfl⟩:=List.mem_map.1 hi;have:x.testBit (n+j)=false:=Nat.testBit_lt_two_pow (Nat.lt_of_lt_of_le hx (Nat.pow_le_pow_right Mcp Mcn));rw[this];decide
 rw[h2,List.append_nil]
theorem ziv {n x:Nat} (hx:x<2^n):x &&& (x-1)<2^n:=Nat.lt_of_le_of_lt Nat.and_le_left hx
theorem bits_step {n x:Nat} (hn:n<=12) (hx:x<2^n) (h0:x≠0):zcU n x=Lib.ctz 64 x::zcU n (x &&& (x-1)):=by
 have nr:x<4096:=Nat.lt_of_lt_of_le hx (Nat.pow_le_pow_right (n:=2) Mcp hn);rw[bits_up hn hx,bits_up hn (ziv hx)];exact zou x nr h0
theorem bits_none (n:Nat):zcU n 0=[]:=by
 unfold zcU;rw[List.filter_eq_nil_iff];intro i _;simp
theorem zlp {x:Nat} (h0:x≠0):x &&& (x-1)<x:=Nat.lt_of_le_of_lt Nat.and_le_right Mcn
def zeB (ds:List Deed):Int:=(ds.getLast?.map (·.day)).getD 0
theorem zjD {ds:List Deed} {k:Nat} (h:k<ds.length):zeB (ds.take (k+1))=ds[k].day:=by
 have e:ds.take (k+1)=ds.take k++[ds[k]]:=by rw[List.take_add_one,List.getElem?_eq_getElem h];rfl
 unfold zeB;rw[e,List.getLast?_concat];rfl
end Go.Proofs.YtjhbofabmpfniaaGreatDoor
