/- Walks: the site with a name, the rest of a container. -/
import Derived.Test.YtmaidggpbihlgaaGreatDoorE4
import Derived.Laws.Strings
import Derived.StillTail
import Derived.Test.YtmaidggpbihlgaaGreatDoorK0
import Derived.Deep.RegionHeld3
import Derived.Test.YtmaidggpbihlgaaGreatDoorProg
import Derived.Test.YtmaidggpbihlgaaGreatDoorS0
set_option linter.unusedSimpArgs false
set_option linter.unusedVariables false
namespace Go.Proofs.YtmaidggpbihlgaaGreatDoor
open Go.RowKit
theorem same_iff {a b:ByteArray}:sameB a b=true↔a=b:=by
 unfold sameB
 rw[beq_iff_eq,ByteArray.toList_eq,ByteArray.toList_eq]
 constructor
 ·intro h
  exact ByteArray.ext (Array.ext' h)
 ·intro h
  rw[h]
theorem same_refl (a:ByteArray):sameB a a=true:=same_iff.2 rfl
theorem same_ne {a b:ByteArray}:sameB a b=false↔a≠b:=by rw[<-Bool.not_eq_true,same_iff]
theorem any_same {l:List ByteArray} {n:ByteArray}:l.any (sameB n)=true↔n∈l:=by
 rw[List.any_eq_true]
 constructor
 ·rintro⟨x,hx,h⟩
  rw[same_iff.1 h]
  exact hx
 ·intro h
  exact⟨n,h,same_refl n⟩
theorem mem_children {s:St} {n c:ByteArray}:c∈childrenP s n↔(n,c)∈s.children:=by
 unfold childrenP
 rw[List.mem_map]
 constructor
 ·rintro⟨p,hp,rfl⟩
  rw[List.mem_filter,same_iff]at hp
  rw[<-hp.2]
  exact hp.1
 ·intro h
  exact⟨(n,c),List.mem_filter.2 ⟨h,same_refl n⟩,rfl⟩
theorem desc_closed {s:St} {n:ByteArray} {out:ByteArray->Prop} (h0: ∀c∈childrenP s n,out c) (h1: ∀x,out x-> ∀c∈childrenP s x,out c) {x:ByteArray} (h:Desc s n x):out x:=by
 unfold Desc at h
 induction h with
 |single h=>exact h0 _ h
 |tail _ h ih=>exact h1 _ ih _ h
theorem desc_step {s:St} {n x c:ByteArray} (h:Desc s n x) (hc:c∈childrenP s x):Desc s n c:=Relation.TransGen.tail h hc
theorem desc_child {s:St} {n c:ByteArray} (hc:c∈childrenP s n):Desc s n c:=Relation.TransGen.single hc
theorem desc_trans {s:St} {a b c:ByteArray} (h:Desc s a b) (k:Desc s b c):Desc s a c:=by
 unfold Desc at*
 induction k with
 |single h'=>exact Relation.TransGen.tail h h'
 |tail _ h' ih=>exact Relation.TransGen.tail ih h'
theorem desc_none {s:St} {n x:ByteArray} (h0:childrenP s n=[]): ¬Desc s n x:=fun h=>desc_closed (out:=fun _=>False) (by rw[h0];simp) (fun _ h=>h.elim) h
end Go.Proofs.YtmaidggpbihlgaaGreatDoor
namespace Go.Proofs.YtmaidggpbihlgaaGreatDoor
section
variable {P:Program} {ops:Array Oper} {md:Region.Mode} {w₀:World}
def getsV (P:Program) (o:Oper) (a:Act) (w:World) (K:Value->World->Prop):Prop:=
 match(execOp a.eval o).run P w with
 | .ok (.value v) w'=>K v w'
 | .ok .skip w'=>K undef w'
 | .ok (.enter f args) w'=>Calls P f args w' fun e w''=> ∃v,e= .returned v/\K v w''
 |_=>False
theorem gets_wp {o:Oper} {a:Act} {w:World} {K:Value->World->Prop} {Q:Exit->Act->World->Prop} (h:getsV P o a w K) {K':Act->World->Prop} (hk: ∀v w',K v w'->K' (a.put o.dst v) w'):o.wp P a w K' Q:=by
 unfold getsV at h
 unfold Oper.wp
 generalize(execOp a.eval o).run P w=r at*
 cases r with
 |ok n w'=>
  cases n<;>simp only at h<;>simp only[Oper.upon]
  case value u=>exact hk _ _ h
  case skip=>exact hk _ _ h
  case enter f args=>
   refine h.mono ?_
   rintro e w'' ⟨v,rfl,hv⟩
   exact hk _ _ hv
 |halt x w'=>simp only at h
theorem gets_same {o:Oper} {a b:Act} {w:World} {K:Value->World->Prop} (he:execOp a.eval o=execOp b.eval o) (h:getsV P o a w K):getsV P o b w K:=by
 unfold getsV at*
 rwa [<-he]
def dstAt (ops:Array Oper) (t:Tmp) (i:Nat):Prop:= ∃o,ops[i]?=some o/\o.dst=some t
structure Filled (ops:Array Oper) (a0:Act) (L:Nat->Prop) (f:Nat->Value) (a:Act):Prop where
 defers:a.defers=a0.defers
 size:a.tmps.size=a0.tmps.size
 out: ∀t,(∀i,L i-> ¬dstAt ops t i)->a.tmps[t]?=a0.tmps[t]?
 ins: ∀t i,L i->dstAt ops t i->t<a0.tmps.size->a.tmps[t]?=some (f i)
def apartDst (ops:Array Oper):Bool:=(List.range ops.size).all fun i=>(List.range ops.size).all fun j=>i==j||(match(ops[i]?).bind (·.dst),(ops[j]?).bind (·.dst)with|some x,some y=>x != y|_,_=>true)
theorem dst_lt {t:Tmp} {i:Nat} (h:dstAt ops t i):i<ops.size:=by
 obtain⟨o,h,_⟩:=h
 exact(Array.getElem?_eq_some_iff.1 h).1
theorem apart_one (h:apartDst ops=true) {t:Tmp} {i j:Nat} (hi:dstAt ops t i) (hj:dstAt ops t j):i=j:=by
 unfold apartDst at h
 rw[List.all_eq_true]at h
 have h1:=h i (List.mem_range.2 (dst_lt hi))
 rw[List.all_eq_true]at h1
 have h2:=h1 j (List.mem_range.2 (dst_lt hj))
 obtain⟨oi,a1,a2⟩:=hi
 obtain⟨oj,b1,b2⟩:=hj
 rw[a1,b1]at h2
 simpa[a2,b2]using h2
theorem Filled.put (hd:apartDst ops=true) {a0 a:Act} {L:Nat->Prop} {f g:Nat->Value} (h:Filled ops a0 L f a) {i:Nat} {o:Oper} {v:Value} (ho:ops[i]?=some o) (hi: ¬L i) (hg: ∀k,L k->g k=f k) (hv:g i=v):
 Filled ops a0 (fun k=>L k\/k=i) g (a.put o.dst v):=by
 cases hdo:o.dst with
 |none=>
  refine⟨h.defers,h.size,fun t ht=>h.out t fun k hk=>ht k (.inl hk),fun t k hk hdk hlt=> ?_⟩
  rcases hk with hk|rfl
  ·rw[hg k hk];exact h.ins t k hk hdk hlt
  ·obtain⟨o',h1,h2⟩:=hdk
   rw[ho]at h1
   simp only[Option.some.injEq]at h1
   rw[<-h1,hdo]at h2
   cases h2
 |some d=>
  have hdi:dstAt ops d i:=⟨o,ho,hdo⟩
  refine⟨h.defers,by simp[Act.put,h.size],fun t ht=> ?_,fun t k hk hdk hlt=> ?_⟩
  ·have hne:d≠t:=fun e=>ht i (.inr rfl) (e▸hdi)
   simp only[Act.put,Array.getElem?_setIfInBounds_ne hne]
   exact h.out t fun k hk=>ht k (.inl hk)
  ·rcases hk with hk|rfl
   ·have hne:d≠t:=fun e=>hi (by rw[apart_one hd hdi (e▸hdk)];exact hk)
    simp only[Act.put,Array.getElem?_setIfInBounds_ne hne]
    rw[hg k hk]
    exact h.ins t k hk hdk hlt
   ·have he:d=t:=by
     obtain⟨o',h1,h2⟩:=hdk
     rw[ho]at h1
     simp only[Option.some.injEq]at h1
     rw[<-h1,hdo]at h2
     simpa using h2
    subst he
    simp only[Act.put]
    rw[Array.getElem?_setIfInBounds_self_of_lt (by rw[h.size];exact hlt),hv]
theorem Filled.same {a0 a b:Act} {f g:Nat->Value} (ha:Filled ops a0 (fun i=>i<ops.size) f a) (hb:Filled ops a0 (fun i=>i<ops.size) f b):a=b:=by
 obtain⟨ta,da⟩:=a
 obtain⟨tb,db⟩:=b
 have h1:da=db:=ha.defers.trans hb.defers.symm
 subst h1
 congr 1
 refine Array.ext_getElem? fun t=> ?_
 show(⟨ta,da⟩:Act).tmps[t]?=(⟨tb,da⟩:Act).tmps[t]?
 by_cases hlt:t<a0.tmps.size
 ·by_cases hx: ∃i,dstAt ops t i
  ·obtain⟨i,hi⟩:=hx
   rw[ha.ins t i (dst_lt hi) hi hlt,hb.ins t i (dst_lt hi) hi hlt]
  ·rw[ha.out t fun i _ hi=>hx ⟨i,hi⟩,hb.out t fun i _ hi=>hx ⟨i,hi⟩]
 ·rw[Array.getElem?_eq_none (by rw[ha.size];omega),Array.getElem?_eq_none (by rw[hb.size];omega)]
def fillTo (ops:Array Oper) (a0:Act) (f:Nat->Value):Nat->Act
 |0=>a0
 |n+1=>(fillTo ops a0 f n).put ((ops[n]?).bind (·.dst)) (f n)
theorem fill_filled (hd:apartDst ops=true) (a0:Act) (f:Nat->Value): ∀n,n<=ops.size->Filled ops a0 (fun i=>i<n) f (fillTo ops a0 f n)
 |0,_=>⟨rfl,rfl,fun _ _=>rfl,fun _ _ h=>absurd h (Nat.not_lt_zero _)⟩
 |n+1,h=>by
  have ih:=fill_filled hd a0 f n (by omega)
  have ho:ops[n]?=some ops[n]:=Array.getElem?_eq_getElem (by omega)
  have h2:=ih.put hd (g:=f) ho (Nat.lt_irrefl n) (fun _ _=>rfl) rfl
  rw[fillTo,ho]
  refine⟨h2.defers,h2.size,fun t ht=>h2.out t fun i hi=>ht i ?_,fun t i hi=>h2.ins t i ?_⟩
  ·rcases hi with hi|rfl
   ·exact Nat.lt_succ_of_lt hi
   ·exact Nat.lt_succ_self _
  ·rcases Nat.lt_succ_iff_lt_or_eq.1 hi with hi|hi
   ·exact .inl hi
   ·exact .inr hi
def fedBy (md:Region.Mode) (ops:Array Oper):Bool:=(List.range ops.size).all fun i=>match ops[i]? with
 |none=>true
 |some o=>o.guard.isNone&&(o.after.all fun e=>!Region.binds md e||decide (e.on<i))&&o.op.operands.toList.all fun x=>match x with
  | .tmp t=>(List.range ops.size).all fun j=>(match ops[j]? with|some oj=>oj.dst != some t||o.after.any (fun e=>Region.binds md e&&e.on==j)|none=>true)
  |_=>true
theorem fed_of (h:fedBy md ops=true) {i:Nat} {o:Oper} (ho:ops[i]?=some o):o.guard=none/\(∀e∈o.after,Region.binds md e=true->e.on<i)/\ ∀t, .tmp t∈o.op.operands-> ∀j,dstAt ops t j-> ∃e∈o.after,Region.binds md e=true/\e.on=j:=by
 unfold fedBy at h
 rw[List.all_eq_true]at h
 have h1:=h i (List.mem_range.2 (Array.getElem?_eq_some_iff.1 ho).1)
 rw[ho]at h1
 simp only[Bool.and_eq_true,Option.isNone_iff_eq_none,List.all_eq_true]at h1
 obtain⟨⟨h1,h2⟩,h3⟩:=h1
 refine⟨h1,fun e he hb=> ?_,fun t ht j hj=> ?_⟩
 ·rw[Array.all_eq_true_iff_forall_mem]at h2
  have:=h2 e he
  rw[hb]at this
  simpa using this
 ·have h4:=h3 (.tmp t) (Array.mem_toList_iff.2 ht)
  simp only[List.all_eq_true]at h4
  have h5:=h4 j (List.mem_range.2 (dst_lt hj))
  obtain⟨oj,b1,b2⟩:=hj
  rw[b1]at h5
  simp only[b2,bne_self_eq_false,Bool.false_or]at h5
  rw[Array.any_eq_true']at h5
  obtain⟨e,he,h6⟩:=h5
  simp only[Bool.and_eq_true,beq_iff_eq]at h6
  exact⟨e,he,h6.1,h6.2⟩
theorem cnt_le (l:List Nat) (p q:Nat->Bool) (h: ∀x,q x=true->p x=true):l.countP q<=l.countP p:=List.countP_mono_left fun x _=>h x
theorem cnt_lt (p q:Nat->Bool) (h: ∀x,q x=true->p x=true) (i:Nat) (hp:p i=true) (hq:q i=false): ∀l:List Nat,i∈l->l.countP q<l.countP p
 | [],hi=>by cases hi
 |x::l,hi=>by
  rw[List.countP_cons,List.countP_cons]
  by_cases hx:x=i
  ·subst hx
   rw[hp,hq]
   have:=cnt_le l p q h
   simp
   omega
  ·have:=cnt_lt p q h i hp hq l (by rcases List.mem_cons.1 hi with h|h;exact absurd h.symm hx;exact h)
   have h2:=h x
   cases hqx:q x
   ·simp;omega
   ·rw[h2 hqx];simp;omega
def openCnt (ops:Array Oper) (listed:Array Bool):Nat:=(List.range ops.size).countP fun i=>!listed.getD i false
theorem wpAny_inv {Q:Exit->Act->World->Prop} {a0:Act} {V:Nat->Value->World->Prop} (hd:apartDst ops=true) (hf:fedBy md ops=true) (hsel:Region.noSelect ops=true) (hmono: ∀i v w z,V i v w->V i v (w.ext z))
 (hstep: ∀i o,ops[i]?=some o-> ∀f z,(∀e∈o.after,Region.binds md e=true->V e.on (f e.on) (w₀.ext z))->getsV P o (fillTo ops a0 f ops.size) (w₀.ext z) (fun v w'=>V i v w'/\ ∃z',w'=(w₀.ext z).ext z'))
 (hend: ∀f z,(∀i,i<ops.size->V i (f i) (w₀.ext z))->Q .normal (fillTo ops a0 f ops.size) (w₀.ext z)):
 ∀(fuel:Nat) (listed:Array Bool) (f:Nat->Value) (a:Act) (z:Ez),listed.size=ops.size->openCnt ops listed<=fuel->Filled ops a0 (fun i=>listed.getD i false=true) f a->(∀i,listed.getD i false=true->V i (f i) (w₀.ext z))->
  wpAny P md ops Q fuel listed a (w₀.ext z):=by
 intro fuel
 have hall: ∀listed:Array Bool,listed.size=ops.size->Region.ready md ops listed=[]-> ∀i,i<ops.size->listed.getD i false=true:=by
  intro listed hs hr i
  induction i using Nat.strongRecOn with
  |_ i ih=>
   intro hi
   have ho:ops[i]?=some ops[i]:=Array.getElem?_eq_getElem hi
   cases hl:listed.getD i false with
   |true=>rfl
   |false=>
    exfalso
    have:i∈Region.ready md ops listed:=by
     rw[mem_ready]
     refine⟨?_,_,ho,fun e he hb=> ?_⟩
     ·have hlt:i<listed.size:=by omega
      simp only[Array.getD,hlt,dite_true]at hl⊢
      exact hl
     ·have hlt:=(fed_of hf ho).2.1 e he hb
      exact ih e.on hlt (by omega)
    rw[hr]at this
    cases this
 have hfin: ∀(listed:Array Bool) (f:Nat->Value) (a:Act) (z:Ez),listed.size=ops.size->Filled ops a0 (fun i=>listed.getD i false=true) f a->(∀i,listed.getD i false=true->V i (f i) (w₀.ext z))->Region.ready md ops listed=[]->Q .normal a (w₀.ext z):=by
  intro listed f a z hs hF hV hr
  have h1:=hall listed hs hr
  have h2:Filled ops a0 (fun i=>i<ops.size) f a:=⟨hF.defers,hF.size,fun t ht=>hF.out t fun i hi hdi=>ht i (dst_lt hdi) hdi,fun t i hi=>hF.ins t i (h1 i hi)⟩
  rw[h2.same (g:=f) (fill_filled hd a0 f ops.size (Nat.le_refl _))]
  exact hend f z fun i hi=>hV i (h1 i hi)
 induction fuel with
 |zero=>
  intro listed f a z hs hc hF hV
  have hr:Region.ready md ops listed=[]:=by
   rw[List.eq_nil_iff_forall_not_mem]
   intro i hi
   obtain⟨h1,o,ho,_⟩:=mem_ready.1 hi
   have h2:=getD_both h1
   unfold openCnt at hc
   have h3:(List.range ops.size).countP (fun i=>!listed.getD i false)=0:=by omega
   rw[List.countP_eq_zero]at h3
   have h4:=h3 i (List.mem_range.2 (Array.getElem?_eq_some_iff.1 ho).1)
   rw[h2]at h4
   simp at h4
  exact⟨hr,hfin listed f a z hs hF hV hr⟩
 |succ fuel ih=>
  intro listed f a z hs hc hF hV
  refine⟨hfin listed f a z hs hF hV,fun i hi=> ?_⟩
  obtain⟨h1,o,ho,haf⟩:=mem_ready.1 hi
  have h2:=getD_both h1
  have hlt:i<ops.size:=(Array.getElem?_eq_some_iff.1 ho).1
  obtain⟨hg,hbe,hfd⟩:=fed_of hf ho
  have hw:Region.wanted o (yielded ops a.tmps)=true:=by simp[Region.wanted,hg]
  unfold wpOp
  simp only[ho]
  rw[if_pos hw]
  refine .inl ?_
  have hFA:=fill_filled hd a0 f ops.size (Nat.le_refl _)
  have hev:execOp (fillTo ops a0 f ops.size).eval o=execOp a.eval o:=by
   refine execOp_congr o (fun cs b=>Region.noSelect_spec hsel i o cs b ho) fun x hx=> ?_
   cases x with
   |tmp t=>
    show(fillTo ops a0 f ops.size).tmps.getD t undef=a.tmps.getD t undef
    have key:(fillTo ops a0 f ops.size).tmps[t]?=a.tmps[t]?:=by
     by_cases hx2: ∃j,dstAt ops t j
     ·obtain⟨j,hj⟩:=hx2
      obtain⟨e,he,hb,hej⟩:=hfd t hx j hj
      have hlj:=haf e he hb
      rw[hej]at hlj
      by_cases htl:t<a0.tmps.size
      ·rw[hFA.ins t j (dst_lt hj) hj htl,hF.ins t j hlj hj htl]
      ·rw[Array.getElem?_eq_none (by rw[hFA.size];exact Nat.le_of_not_lt htl),Array.getElem?_eq_none (by rw[hF.size];exact Nat.le_of_not_lt htl)]
     ·rw[hFA.out t fun j _ hj=>hx2 ⟨j,hj⟩,hF.out t fun j _ hj=>hx2 ⟨j,hj⟩]
    rw[Array.getD_eq_getD_getElem?,Array.getD_eq_getD_getElem?,key]
   |_=>rfl
  have hst:=gets_same hev (hstep i o ho f z fun e he hb=>hV e.on (haf e he hb))
  refine gets_wp hst ?_
  rintro v w' ⟨hv,z',rfl⟩
  rw[ext_ext]at hv⊢
  have hne: ¬(listed.getD i false=true):=by rw[h2];exact Bool.false_ne_true
  have hput:=hF.put hd (g:=fun k=>if k=i then v else f k) ho hne (fun k hk=>if_neg (by rintro rfl;exact hne hk)) (if_pos rfl)
  have hset: ∀k,(listed.setIfInBounds i true).getD k false=true↔(listed.getD k false=true\/k=i):=by
   intro k
   by_cases hk:i=k
   ·subst hk
    have:i<listed.size:=by omega
    simp[this]
   ·rw[getD_set_ne false hk]
    exact⟨.inl,fun h=>h.elim id fun e=>absurd e.symm hk⟩
  refine ih _ (fun k=>if k=i then v else f k) _ _ (by simpa using hs) ?_ ?_ ?_
  ·have:openCnt ops (listed.setIfInBounds i true)<openCnt ops listed:=by
    refine cnt_lt _ _ ?_ i ?_ ?_ _ (List.mem_range.2 hlt)
    ·intro x hx
     cases hlx:listed.getD x false
     ·rfl
     ·rw[(hset x).2 (.inl hlx)]at hx
      simp at hx
    ·rw[h2];rfl
    ·rw[(hset i).2 (.inr rfl)];rfl
   omega
  ·exact⟨hput.defers,hput.size,fun t ht=>hput.out t fun k hk=>ht k ((hset k).2 hk),fun t k hk=>hput.ins t k ((hset k).1 hk)⟩
  ·intro k hk
   rw[<-ext_ext]
   by_cases hki:k=i
   ·subst hki
    simp only[if_true]
    rw[ext_ext]
    exact hv
   ·simp only[if_neg hki]
    rcases(hset k).1 hk with h|h
    ·exact hmono _ _ _ _ (hV k h)
    ·exact absurd h hki
def stepsFrom (P:Program) (md:Region.Mode) (w₀:World) (A:(Nat->Value)->Act) (V:Nat->Value->World->Prop):Nat->List Oper->Prop
 |_,[]=>True
 |i,o::rest=>(∀f z,(∀e∈o.after,Region.binds md e=true->V e.on (f e.on) (w₀.ext z))->getsV P o (A f) (w₀.ext z) (fun v w'=>V i v w'/\ ∃z',w'=(w₀.ext z).ext z'))/\stepsFrom P md w₀ A V (i+1) rest
theorem steps_at {A:(Nat->Value)->Act} {V:Nat->Value->World->Prop}: ∀(l:List Oper) (i:Nat),stepsFrom P md w₀ A V i l-> ∀k o,l[k]?=some o-> ∀f z,(∀e∈o.after,Region.binds md e=true->V e.on (f e.on) (w₀.ext z))->getsV P o (A f) (w₀.ext z) (fun v w'=>V (i+k) v w'/\ ∃z',w'=(w₀.ext z).ext z')
 | [],_,_,k,o,h=>by simp at h
 |x::l,i,h,0,o,ho=>by
  simp only[List.getElem?_cons_zero,Option.some.injEq]at ho
  subst ho
  exact h.1
 |x::l,i,h,k+1,o,ho=>by
  have:=steps_at l (i+1) h.2 k o (by simpa using ho)
  rw[show i+(k+1)=i+1+k by omega]
  exact this
theorem wp_region_inv {Q:Exit->Act->World->Prop} {id:Nat} {a:Act} {w:World} {V:Nat->Value->World->Prop} {A:(Nat->Value)->Act} (hA: ∀f,fillTo ops a f ops.size=A f) (hm:P.follows .mixedOrders=true)
 (hd:apartDst ops=true) (hf:fedBy .any ops=true) (hsel:Region.noSelect ops=true) (hmono: ∀i v w z,V i v w->V i v (w.ext z))
 (hstep:stepsFrom P .any w.drew A V 0 ops.toList)
 (hend: ∀f z,(∀i,i<ops.size->V i (f i) (w.drew.ext z))->Q .normal (A f) (w.drew.ext z)):(Code.region id ops true).wp P Q a w:=by
 refine wp_region_any hm ?_
 have h0:({w with drawn:=w.drawn+1}:World)=w.drew.ext ⟨#[],w.drew.drawn⟩:=by
  have key: ∀u:World,u.ext ⟨#[],u.drawn⟩=u:=fun u=>by simp[World.ext]
  exact(key w.drew).symm
 rw[h0]
 refine wpAny_inv (a0:=a) (V:=V) (f:=fun _=>undef) hd hf hsel hmono ?_ ?_ _ _ _ _ (by simp) ?_ ⟨rfl,rfl,fun _ _=>rfl,fun t i hi=> ?_⟩ (fun i hi=> ?_)
 ·intro i o ho f z hz
  rw[hA]
  have:=steps_at ops.toList 0 hstep i o (by simpa using ho) f z hz
  rw[Nat.zero_add]at this
  exact this
 ·intro f z h
  rw[hA]
  exact hend f z h
 ·unfold openCnt
  refine Nat.le_trans List.countP_le_length ?_
  simp
 all_goals
  exfalso
  by_cases hlt:i<ops.size<;>simp[hlt]at hi
end
inductive SP where
 |val (u:Value)
 |blk (n:Nat) (cs:Array Value) (t:TypeId)
def SP.holds:SP->Value->World->Prop
 | .val u,v,_=>v=u
 | .blk n cs t,v,W=> ∃g,v= .slice (some ⟨g,0,none⟩) n n/\W.heap[g]?=some (.cells cs t (0,0))
def holdsAt (Vs:List SP) (i:Nat) (v:Value) (W:World):Prop:=(Vs.getD i (.val undef)).holds v W
theorem holds_mono (Vs:List SP) (i:Nat) (v:Value) (W:World) (z:Ez) (h:holdsAt Vs i v W):holdsAt Vs i v (W.ext z):=by
 unfold holdsAt at*
 cases hx:Vs.getD i (.val undef)with
 |val u=>rw[hx]at h;exact h
 |blk n cs t=>
  rw[hx]at h
  obtain⟨g,h1,h2⟩:=h
  exact⟨g,h1,(ext_heap_lt W z g (Array.getElem?_eq_some_iff.1 h2).1).trans h2⟩
theorem stays (w:World): ∃z',w=w.ext z':=⟨⟨#[],w.drawn⟩,by simp[World.ext]⟩
end Go.Proofs.YtmaidggpbihlgaaGreatDoor
namespace Go.Proofs.YtmaidggpbihlgaaGreatDoor
section
variable {P:Program} {ops:Array Oper} {Q:Exit->Act->World->Prop} {md:Region.Mode} {m:Nat} {S:Bool->World->Prop}
def ClosedL (md:Region.Mode) (ops:Array Oper) (listed:Array Bool):Prop:= ∀(k:Nat) (o:Oper),ops[k]?=some o->listed.getD k false=true-> ∀e∈o.after,Region.binds md e=true->listed.getD e.on false=true
def closedB (md:Region.Mode) (ops:Array Oper) (listed:Array Bool):Bool:=(List.range ops.size).all fun k=>match ops[k]? with
 |some o=>!listed.getD k false||o.after.all fun e=>!Region.binds md e||listed.getD e.on false
 |none=>true
theorem closed_of {listed:Array Bool} (h:closedB md ops listed=true):ClosedL md ops listed:=fun k o ho hl e he hb=>by
 unfold closedB at h
 have h1:=List.all_eq_true.1 h k (List.mem_range.2 (Array.getElem?_eq_some_iff.1 ho).1)
 simp only[ho,hl,Bool.not_true,Bool.false_or]at h1
 rw[Array.all_eq_true]at h1
 obtain⟨j,hj,rfl⟩:=Array.mem_iff_getElem.1 he
 have h2:=h1 j hj
 rw[hb]at h2
 simpa using h2
def needs (md:Region.Mode) (ops:Array Oper) (i:Nat):Nat->Nat->Bool
 |0,k=>k==i
 |f+1,k=>k==i||match ops[k]? with
  |some o=>o.after.any fun e=>Region.binds md e&&needs md ops i f e.on
  |none=>false
theorem needs_of {i:Nat} {listed:Array Bool} (hc:ClosedL md ops listed): ∀(f k:Nat),needs md ops i f k=true->listed.getD k false=true->listed.getD i false=true
 |0,k,h,hl=>by
  have:k=i:=by simpa[needs]using h
  rw[<-this];exact hl
 |f+1,k,h,hl=>by
  unfold needs at h
  rw[Bool.or_eq_true]at h
  rcases h with h|h
  ·have:k=i:=by simpa using h
   rw[<-this];exact hl
  ·cases ho:ops[k]? with
   |none=>rw[ho]at h;cases h
   |some o=>
    rw[ho]at h
    simp only at h
    rw[Array.any_eq_true]at h
    obtain⟨j,hj,h2⟩:=h
    rw[Bool.and_eq_true]at h2
    exact needs_of hc f _ h2.2 (hc k o ho hl o.after[j] (Array.getElem_mem hj) h2.1)
theorem closed_set {listed:Array Bool} {j:Nat} (hc:ClosedL md ops listed) (hj:j∈Region.ready md ops listed):ClosedL md ops (listed.setIfInBounds j true):=fun k o ho hl e he hb=>by
 obtain⟨h0,oj,hoj,hall⟩:=mem_ready.1 hj
 by_cases hjk:j=k
 ·subst hjk
  rw[hoj]at ho
  simp only[Option.some.injEq]at ho
  subst ho
  exact getD_set_true (hall e he hb)
 ·rw[getD_set_ne false hjk]at hl
  exact getD_set_true (hc k o ho hl e he hb)
def wpAnyM (P:Program) (md:Region.Mode) (ops:Array Oper) (Q:Exit->Act->World->Prop) (m:Nat) (S:Bool->World->Prop):Nat->Array Bool->Act->World->Prop
 |0,listed,a,w=>Region.ready md ops listed=[]/\Q .normal a w
 |fuel+1,listed,a,w=>
  (Region.ready md ops listed=[]->Q .normal a w)/\
  ∀i∈Region.ready md ops listed,wpOp P ops Q i (fun a' w'=>S ((listed.setIfInBounds i true).getD m false) w'/\wpAnyM P md ops Q m S fuel (listed.setIfInBounds i true) a' w') a w
theorem wpAny_of_M: ∀(fuel:Nat) (listed:Array Bool) (a:Act) (w:World),wpAnyM P md ops Q m S fuel listed a w->wpAny P md ops Q fuel listed a w
 |0,_,_,_,h=>h
 |fuel+1,_,_,_,h=>⟨h.1,fun i hi=>wpOp_mono (fun a' w' h'=>wpAny_of_M fuel _ a' w' h'.2) (h.2 i hi)⟩
theorem wpAnyM_first {i:Nat} {oi:Oper} {v:Value} (him:i≠m) (hi:ops[i]?=some oi) (hsel: ∀(j:Nat) (o:Oper) cs b,ops[j]?=some o->o.op≠ .select cs b)
 (hQ: ∀c a w,Q (.panic c) (a.put oi.dst v) w->Q (.panic c) a w) (f0:Nat) (hne:needs md ops i f0 m=true):
 ∀(fuel:Nat) (listed:Array Bool) (a:Act) (w:World),ClosedL md ops listed->
  (∀j oj,ops[j]?=some oj->j≠i->listed.getD j true=false->(∀e∈oj.after,Region.binds md e=true->e.on≠i)->oi.apart ops oj=true)->
  i∈Region.ready md ops listed->YieldsIf P ops (S false) oi v a->S false w->
  wpAnyM P md ops Q m S fuel (listed.setIfInBounds i true) (a.put oi.dst v) w->wpAnyM P md ops Q m S (fuel+1) listed a w:=by
 have hoff: ∀ {listed:Array Bool},ClosedL md ops listed->i∈Region.ready md ops listed->listed.getD m false=false:=fun {listed} hc hr=>by
  cases hx:listed.getD m false with
  |false=>rfl
  |true=>
   have h1:=needs_of hc f0 m hne hx
   have h2:=getD_both (mem_ready.1 hr).1
   rw[h2]at h1
   cases h1
 intro fuel
 induction fuel with
 |zero=>
  intro listed a w hc _ hr hy hS H
  refine⟨fun h=>(by rw[h]at hr;cases hr),fun j hj=> ?_⟩
  by_cases hji:j=i
  ·subst hji
   exact hy.wpOp hi hS ⟨by rw[getD_set_ne false him,hoff hc hr];exact hS,H⟩
  ·have:=ready_mono hj hji
   rw[H.1]at this
   cases this
 |succ fuel ih=>
  intro listed a w hc hfree hr hy hS H
  refine⟨fun h=>(by rw[h]at hr;cases hr),fun j hj=> ?_⟩
  by_cases hji:j=i
  ·subst hji
   exact hy.wpOp hi hS ⟨by rw[getD_set_ne false him,hoff hc hr];exact hS,H⟩
  ·have h1:=H.2 j (ready_mono hj hji)
   obtain⟨hjun,oj,hoj,hall⟩:=mem_ready.1 hj
   have hnot: ∀e∈oj.after,Region.binds md e=true->e.on≠i:=fun e he hb heq=>by
    have h1:=hall e he hb
    have h0:=(mem_ready.1 hr).1
    rw[heq]at h1
    rw[getD_both h0]at h1
    cases h1
   have h2:=wpOp_putIf hoj (hfree j oj hoj hji hjun hnot) (fun cs b=>hsel i oi cs b hi) (fun cs b=>hsel j oj cs b hoj) hQ hy h1
   have hfree': ∀k ok,ops[k]?=some ok->k≠i->(listed.setIfInBounds j true).getD k true=false->
    (∀e∈ok.after,Region.binds md e=true->e.on≠i)->oi.apart ops ok=true:=fun k ok hk hki hun hno=>by
    refine hfree k ok hk hki ?_ hno
    by_cases hjk:j=k
    ·subst hjk;exact hjun
    ·rw[getD_set_ne true hjk]at hun;exact hun
   have hc':=closed_set hc hj
   have hr':=ready_mono hr (Ne.symm hji)
   have hs':((listed.setIfInBounds i true).setIfInBounds j true).getD m false=(listed.setIfInBounds j true).getD m false:=by
    rw[Array.setIfInBounds_comm _ _ (Ne.symm hji),getD_set_ne false him]
   refine wpOp_mono (fun a' w' h3=> ?_) h2
   have h4:=h3.2.1
   rw[hs']at h4
   refine⟨h4,ih (listed.setIfInBounds j true) a' w' hc' hfree' hr' h3.1 ?_ ?_⟩
   ·rw[hoff hc' hr']at h4;exact h4
   ·rw[Array.setIfInBounds_comm _ _ hji]
    exact h3.2.2
theorem wpAnyM_take {i:Nat} {oi:Oper} {v:Value} {fuel:Nat} {listed:Array Bool} {a:Act} {w:World} (f0:Nat) (hi:ops[i]?=some oi) (him:i≠m) (hne:needs md ops i f0 m=true) (hcl:closedB md ops listed=true)
 (hs:Region.noSelect ops=true) (hf:Region.free md ops listed i=true) (hr:(Region.ready md ops listed).contains i=true)
 (hQ: ∀c a w,Q (.panic c) (a.put oi.dst v) w->Q (.panic c) a w) (hy:YieldsIf P ops (S false) oi v a) (hS:S false w)
 (h:wpAnyM P md ops Q m S fuel (listed.setIfInBounds i true) (a.put oi.dst v) w):wpAnyM P md ops Q m S (fuel+1) listed a w:=
 wpAnyM_first him hi (Region.noSelect_spec hs) hQ f0 hne fuel listed a w (closed_of hcl) (Region.free_spec hi hf) (by simpa using hr) hy hS h
theorem wpAnyM_first2 {i:Nat} {oi:Oper} {v:Value} (him:i≠m) (hi:ops[i]?=some oi) (hsel: ∀(j:Nat) (o:Oper) cs b,ops[j]?=some o->o.op≠ .select cs b)
 (hQ: ∀c a w,Q (.panic c) (a.put oi.dst v) w->Q (.panic c) a w):
 ∀(fuel:Nat) (listed:Array Bool) (a:Act) (w:World),
  (∀j oj,ops[j]?=some oj->j≠i->listed.getD j true=false->(∀e∈oj.after,Region.binds md e=true->e.on≠i)->oi.apart ops oj=true)->
  i∈Region.ready md ops listed->YieldsIf P ops (fun _=>True) oi v a->S (listed.getD m false) w->
  wpAnyM P md ops Q m S fuel (listed.setIfInBounds i true) (a.put oi.dst v) w->wpAnyM P md ops Q m S (fuel+1) listed a w:=by
 intro fuel
 induction fuel with
 |zero=>
  intro listed a w _ hr hy hS H
  refine⟨fun h=>(by rw[h]at hr;cases hr),fun j hj=> ?_⟩
  by_cases hji:j=i
  ·subst hji
   exact hy.wpOp hi trivial ⟨by rw[getD_set_ne false him];exact hS,H⟩
  ·have:=ready_mono hj hji
   rw[H.1]at this
   cases this
 |succ fuel ih=>
  intro listed a w hfree hr hy hS H
  refine⟨fun h=>(by rw[h]at hr;cases hr),fun j hj=> ?_⟩
  by_cases hji:j=i
  ·subst hji
   exact hy.wpOp hi trivial ⟨by rw[getD_set_ne false him];exact hS,H⟩
  ·have h1:=H.2 j (ready_mono hj hji)
   obtain⟨hjun,oj,hoj,hall⟩:=mem_ready.1 hj
   have hnot: ∀e∈oj.after,Region.binds md e=true->e.on≠i:=fun e he hb heq=>by
    have h1:=hall e he hb
    have h0:=(mem_ready.1 hr).1
    rw[heq]at h1
    rw[getD_both h0]at h1
    cases h1
   have h2:=wpOp_putIf hoj (hfree j oj hoj hji hjun hnot) (fun cs b=>hsel i oi cs b hi) (fun cs b=>hsel j oj cs b hoj) hQ hy h1
   have hfree': ∀k ok,ops[k]?=some ok->k≠i->(listed.setIfInBounds j true).getD k true=false->
    (∀e∈ok.after,Region.binds md e=true->e.on≠i)->oi.apart ops ok=true:=fun k ok hk hki hun hno=>by
    refine hfree k ok hk hki ?_ hno
    by_cases hjk:j=k
    ·subst hjk;exact hjun
    ·rw[getD_set_ne true hjk]at hun;exact hun
   have hs':((listed.setIfInBounds i true).setIfInBounds j true).getD m false=(listed.setIfInBounds j true).getD m false:=by
    rw[Array.setIfInBounds_comm _ _ (Ne.symm hji),getD_set_ne false him]
   refine wpOp_mono (fun a' w' h3=> ?_) h2
   have h4:=h3.2.1
   rw[hs']at h4
   refine⟨h4,ih (listed.setIfInBounds j true) a' w' hfree' (ready_mono hr (Ne.symm hji)) h3.1 h4 ?_⟩
   rw[Array.setIfInBounds_comm _ _ hji]
   exact h3.2.2
theorem wpAnyM_free {i:Nat} {oi:Oper} {v:Value} {fuel:Nat} {listed:Array Bool} {a:Act} {w:World} (b:Bool) (hb:listed.getD m false=b) (hi:ops[i]?=some oi) (him:i≠m)
 (hs:Region.noSelect ops=true) (hf:Region.free md ops listed i=true) (hr:(Region.ready md ops listed).contains i=true)
 (hQ: ∀c a w,Q (.panic c) (a.put oi.dst v) w->Q (.panic c) a w) (hy:YieldsIf P ops (fun _=>True) oi v a) (hS:S b w)
 (h:wpAnyM P md ops Q m S fuel (listed.setIfInBounds i true) (a.put oi.dst v) w):wpAnyM P md ops Q m S (fuel+1) listed a w:=
 wpAnyM_first2 him hi (Region.noSelect_spec hs) hQ fuel listed a w (Region.free_spec hi hf) (by simpa using hr) hy (by rw[hb];exact hS) h
def AllReadyM (P:Program) (md:Region.Mode) (ops:Array Oper) (Q:Exit->Act->World->Prop) (m:Nat) (S:Bool->World->Prop) (fuel:Nat) (listed:Array Bool) (a:Act) (w:World) (rs:List Nat):Prop:=
 ∀i∈rs,wpOp P ops Q i (fun a' w'=>S ((listed.setIfInBounds i true).getD m false) w'/\wpAnyM P md ops Q m S fuel (listed.setIfInBounds i true) a' w') a w
theorem AllReadyM.nil {fuel:Nat} {listed:Array Bool} {a:Act} {w:World}:AllReadyM P md ops Q m S fuel listed a w []:=fun _ h=>by cases h
theorem AllReadyM.cons {fuel:Nat} {listed:Array Bool} {a:Act} {w:World} {i:Nat} {o:Oper} {rs:List Nat} (ho:ops[i]?=some o) (b:Bool) (hb:(listed.setIfInBounds i true).getD m false=b)
 (h: ∀K':Act->World->Prop,Shut (∀a w,S b w->(S b w->wpAnyM P md ops Q m S fuel (listed.setIfInBounds i true) a w)->K' a w)->if Region.wanted o (yielded ops a.tmps)=true then Oper.wp P o a w K' Q else K' (a.put o.dst undef) w)
 (hs:AllReadyM P md ops Q m S fuel listed a w rs):AllReadyM P md ops Q m S fuel listed a w (i::rs):=fun j hj=>by
 rcases List.mem_cons.1 hj with rfl|hj
 ·rw[hb]
  exact wpOp_step ho (fun K' hK=>h K' (fun a w hS hW=>hK a w ⟨hS,hW hS⟩))
 ·exact hs j hj
theorem wpAnyM_ready {rs:List Nat} {fuel:Nat} {listed:Array Bool} {a:Act} {w:World} (hr:Region.ready md ops listed=rs) (hne:rs≠[])
 (h:AllReadyM P md ops Q m S fuel listed a w rs):wpAnyM P md ops Q m S (fuel+1) listed a w:=⟨fun h0=>absurd (hr▸h0) hne,hr▸h⟩
theorem wpAnyM_done {listed:Array Bool} {a:Act} {w:World} (hr:Region.ready md ops listed=[]) (h:Q .normal a w): ∀fuel,wpAnyM P md ops Q m S fuel listed a w
 |0=>⟨hr,h⟩
 |_+1=>⟨fun _=>h,by rw[hr];simp⟩
theorem wp_region_mark {id:Nat} {a:Act} {w:World} (m:Nat) (S:Bool->World->Prop) (hm:P.follows .mixedOrders=true) (hS:S false w.drew)
 (h:S false w.drew->wpAnyM P .any ops Q m S ops.size (Array.replicate ops.size false) a w.drew):(Code.region id ops true).wp P Q a w:=
 wp_region_any hm (wpAny_of_M _ _ _ _ (h hS))
end
theorem TkM {P:Program} {ops:Array Oper} {Q:Exit->Act->World->Prop} {md:Region.Mode} {m:Nat} {S:Bool->World->Prop} (i:Nat) {oi:Oper} {v:Value} {fuel:Nat} {listed:Array Bool} {a a':Act} {w:World} (h:wpAnyM P md ops Q m S fuel (listed.setIfInBounds i true) a' w) (hi:ops[i]?=some oi:=by exact List.getElem?_toArray.trans rfl) (him:i≠m:=by decide) (hne:needs md ops i 9 m=true:=by kernel_rfl) (hcl:closedB md ops listed=true:=by kernel_rfl)
 (hs:Region.noSelect ops=true:=by kernel_rfl) (hf:Region.free md ops listed i=true:=by kernel_rfl) (hr:(Region.ready md ops listed).contains i=true:=by kernel_rfl)
 (hQ: ∀c a w,Q (.panic c) (a.put oi.dst v) w->Q (.panic c) a w:=by exact fun _ _ _ h=>h) (hy:YieldsIf P ops (S false) oi v a:=by(refine Or.inl ⟨by rfl,?_⟩;intro w hSw;(try dsimp only at hSw);replace hSw:=hSw.resolve_left Bool.false_ne_true;go_simp;first|done|with_reducible rfl)) (hS:S false w:=by assumption)
 (ha:a.put oi.dst v=a':=by((try simp only[Act.put,List.setIfInBounds_toArray,List.set_cons_zero,List.set_cons_succ]);rfl)):wpAnyM P md ops Q m S (fuel+1) listed a w:=
 wpAnyM_take 9 hi him hne hcl hs hf hr hQ hy hS (ha▸h)
end Go.Proofs.YtmaidggpbihlgaaGreatDoor
namespace Go.Proofs.YtmaidggpbihlgaaGreatDoor
open Go.RowKit
theorem pair_mono {l m:List Rec} (h:l.Sublist m):pairP l=true->pairP m=true:=by
 induction h with
 |slnil=>exact id
 |cons x h ih=>
  intro hp
  rw[pairP,ih hp,Bool.or_true]
 |cons_cons x h ih=>
  intro hp
  rw[pairP,Bool.or_eq_true]at hp⊢
  rcases hp with hp|hp
  ·rw[List.any_eq_true]at hp⊢
   obtain⟨y,hy,hyx⟩:=hp
   exact .inl ⟨y,h.subset hy,hyx⟩
  ·exact .inr (ih hp)
theorem transGen_mono {α:Type} {r t:α->α->Prop} (h: ∀a b,r a b->t a b) {a b:α} (k:Relation.TransGen r a b):Relation.TransGen t a b:=by
 induction k with
 |single h'=>exact Relation.TransGen.single (h _ _ h')
 |tail _ h' ih=>exact Relation.TransGen.tail ih (h _ _ h')
theorem circle_mono {l m:List Rec} (h: ∀x∈l,x∈m) (hc:Circle l):Circle m:=by
 obtain⟨a,ha⟩:=hc
 exact⟨a,transGen_mono (fun x y ⟨r,hr,hk⟩=>⟨r,h r hr,hk⟩) ha⟩
theorem sum_congr {p:ByteArray} {d:Int}: ∀ {l:List Rec} {a b:List ByteArray},(∀n,n∈a↔n∈b)->sumGo p d l a=sumGo p d l b
 | [],_,_,_=>rfl
 |x::l,a,b,h=>by
  have e:a.any (sameB x.name)=b.any (sameB x.name):=by
   rw[Bool.eq_iff_iff,any_same,any_same]
   exact h x.name
  unfold sumGo
  rw[e,sum_congr (l:=l) h,sum_congr (l:=l) (a:=x.name::a) (b:=x.name::b) (fun n=>by simp[h n])]
def Even (p:ByteArray) (d:Int) (n:ByteArray) (s:Rat) (l:List Rec):Prop:= ∀y∈l,y.kind=3->y.place=p->y.day=d->y.name=n->Rat.divInt y.num y.den=s
theorem counted_iff {p:ByteArray} {d:Int} {x:Rec} {seen:List ByteArray}:(x.kind==3&&sameB x.place p&&x.day==d&&!seen.any (sameB x.name))=true↔x.kind=3/\x.place=p/\x.day=d/\x.name∉seen:=by
 simp only[Bool.and_eq_true,beq_iff_eq,same_iff,Bool.not_eq_true',<-Bool.not_eq_true,any_same]
 constructor
 ·rintro⟨⟨⟨h1,h2⟩,h3⟩,h4⟩;exact⟨h1,h2,h3,h4⟩
 ·rintro⟨h1,h2,h3,h4⟩;exact⟨⟨⟨h1,h2⟩,h3⟩,h4⟩
theorem sum_drop {p:ByteArray} {d:Int} {n:ByteArray} {s:Rat} (hs:0<=s): ∀ {m:List Rec} {seen:List ByteArray},Even p d n s m->sumGo p d m seen<=s+sumGo p d m (n::seen)
 | [],seen,_=>by rw[sumGo,sumGo];grind
 |y::m,seen,he=>by
  have hm:Even p d n s m:=fun z hz=>he z (by simp[hz])
  unfold sumGo
  by_cases hc:y.kind=3/\y.place=p/\y.day=d/\y.name∉seen
  ·rw[if_pos (counted_iff.2 hc)]
   by_cases hn:y.name=n
   ·rw[if_neg (fun h=>(counted_iff.1 h).2.2.2 (by simp[hn])),hn,he y (by simp) hc.1 hc.2.1 hc.2.2.1 hn]
    exact Rat.le_refl
   ·rw[if_pos (counted_iff.2 ⟨hc.1,hc.2.1,hc.2.2.1,by simp only[List.mem_cons,not_or];exact⟨hn,hc.2.2.2⟩⟩)]
    have ih:=sum_drop hs (seen:=y.name::seen) hm
    rw[sum_congr (l:=m) (a:=y.name::n::seen) (b:=n::y.name::seen) (fun z=>by simp only[List.mem_cons];constructor<;>(rintro(h|h|h)<;>simp[h]))]
    grind
  ·rw[if_neg (fun h=>hc (counted_iff.1 h)),if_neg (fun h=>hc ⟨(counted_iff.1 h).1,(counted_iff.1 h).2.1,(counted_iff.1 h).2.2.1,fun hh=>(counted_iff.1 h).2.2.2 (by simp[hh])⟩)]
   exact sum_drop hs hm
theorem even_of {x:Rec} {l:List Rec} (hp:l.any (fun y=>againstP y x)=false) (hk:x.kind=3):Even x.place x.day x.name (Rat.divInt x.num x.den) l:=by
 intro y hy h1 h2 h3 h4
 rw[List.any_eq_false]at hp
 have:=hp y hy
 unfold againstP at this
 rw[if_neg (by simp[h1,hk])]at this
 unfold againstQ at this
 simp[h1,hk,h2,h3,h4,same_refl]at this
 rw[this.1,this.2]
def Nonneg (l:List Rec):Prop:= ∀x∈l,x.kind=3->0<=Rat.divInt x.num x.den
theorem sum_mono {p:ByteArray} {d:Int} {l m:List Rec} (h:l.Sublist m):pairP m=false->Nonneg m-> ∀seen,sumGo p d l seen<=sumGo p d m seen:=by
 induction h with
 |slnil=>exact fun _ _ _=>Rat.le_refl
 | @cons a b x h ih=>
   intro hp hn seen
   rw[pairP,Bool.or_eq_false_iff]at hp
   have i:=ih hp.2 (fun y hy=>hn y (by simp[hy])) seen
   conv=>rhs;unfold sumGo
   by_cases hc:x.kind=3/\x.place=p/\x.day=d/\x.name∉seen
   ·rw[if_pos (counted_iff.2 hc)]
    have he:=even_of hp.1 hc.1
    rw[hc.2.1,hc.2.2.1]at he
    have:=sum_drop (hn x (by simp) hc.1) (seen:=seen) he
    grind
   ·rw[if_neg (fun h=>hc (counted_iff.1 h))]
    exact i
 | @cons_cons a b x h ih=>
   intro hp hn seen
   rw[pairP,Bool.or_eq_false_iff]at hp
   have i:=ih hp.2 (fun y hy=>hn y (by simp[hy]))
   unfold sumGo
   split
   ·have:=i (x.name::seen);grind
   ·exact i seen
theorem contra_mono {l m:List Rec} (h:l.Sublist m) (hn:Nonneg m) (hc:contraP l=true):contraP m=true:=by
 unfold contraP at*
 simp only[Bool.or_eq_true,decide_eq_true_eq]at hc⊢
 by_cases hp:pairP m=true
 ·exact .inl (.inl hp)
 ·rcases hc with(hc|hc)|hc
  ·exact .inl (.inl (pair_mono h hc))
  ·exact .inl (.inr (circle_mono (fun x hx=>h.subset hx) hc))
  ·obtain⟨p,d,hs⟩:=hc
   have:=sum_mono (p:=p) (d:=d) h (by simpa using hp) hn []
   exact .inr ⟨p,d,by grind⟩
theorem rec_nonneg {x:Rec} (h:checkRecP x=0) (hk:x.kind=3):0<Rat.divInt x.num x.den:=by
 unfold checkRecP at h
 simp only[hk]at h
 split at h
 ·simp at h
 split at h
 ·simp at h
 split at h
 ·simp at h
 split at h
 ·simp at h
 split at h
 ·simp at h
 split at h
 ·simp at h
 rename_i hs
 simp only[beq_self_eq_true,Bool.true_and,Bool.or_eq_true,Bool.not_eq_true',not_or,Bool.not_eq_false,inR,Bool.and_eq_true,decide_eq_true_eq]at hs
 obtain⟨⟨h1,h2⟩,_⟩:=hs
 have hd:0<x.den:=by omega
 rw[Rat.lt_iff]
 have h3:=divInt_num (a:=x.num) hd
 have hg:(0:Int)<Int.gcd x.num x.den:=by
  have:Int.gcd x.num x.den≠0:=by rw[Ne,Int.gcd_eq_zero_iff];omega
  omega
 have h4:0<x.num/(Int.gcd x.num x.den:Int):=Int.ediv_pos_of_pos_of_dvd (by omega) (by omega) (Int.gcd_dvd_left _ _)
 rw[h3]
 simp
 exact h4
end Go.Proofs.YtmaidggpbihlgaaGreatDoor
namespace Go.Proofs.YtmaidggpbihlgaaGreatDoor
open Go.RowKit
def zC (n:Int):List Value:=[.int .i64 n]
theorem zC_len (n:Int):(zC n).length=1:=rfl
theorem zC_one (n:Int): ∀u∈zC n,u.oneCell'=true:=by simp[zC,Value.oneCell']
end Go.Proofs.YtmaidggpbihlgaaGreatDoor
namespace Go.Proofs.YtmaidggpbihlgaaGreatDoor
open Go.RowKit
attribute [local go_sem] World.cell?_alloc_mark ext_size ext_cell ext_frozen lt_add_r lt_add_r2 lt_add_r3 lt_add_r4 lt_add_r5 lt_add_r6 lt_add_r7 lt_add_r8
theorem bwithin_any (n lo hi:Int) (w:World):
 Calls Tryz.prog 34 #[.int .i64 n, .int .i64 lo, .int .i64 hi] w (Ret0 w (.bool (inR n lo hi))):=by
 go_enter Tryz.func34,Tryz.ntmps34
 go_wp2
 all_goals go_ret
 all_goals(refine⟨?_,rfl⟩;simp[inR, *])
 omega
theorem letter_any (n:Int) (w:World):Calls Tryz.prog 102 #[.int .u8 n] w (Ret0 w (.bool (letterI n))):=by
 go_enter Tryz.func102,Tryz.ntmps102
 go_wp2
 all_goals go_ret
 all_goals refine⟨?_,rfl⟩
 all_goals refine bool_eq' ?_
 all_goals go_tidy
 all_goals simp[letterI]
 all_goals omega
theorem digit_any (n:Int) (w:World):Calls Tryz.prog 103 #[.int .u8 n] w (Ret0 w (.bool (digitI n))):=by
 go_enter Tryz.func103,Tryz.ntmps103
 go_wp2
 all_goals go_ret
 all_goals refine⟨?_,rfl⟩
 all_goals refine bool_eq' ?_
 all_goals go_tidy
 all_goals simp[digitI]
 all_goals omega
end Go.Proofs.YtmaidggpbihlgaaGreatDoor
namespace Go.Proofs.YtmaidggpbihlgaaGreatDoor
open Go.RowKit
attribute [local go_sem] World.cell?_alloc_mark ext_size ext_cell ext_frozen lt_add_r lt_add_r2 lt_add_r3 lt_add_r4 lt_add_r5 lt_add_r6 lt_add_r7 lt_add_r8
theorem site_res {w:World} {A:Option Addr} {ss:List Site} (hS:Sl w 6 Site.cells A ss) (nm:ByteArray):SiteRes w (sitePtr A nm ss) (findSite nm ss):=by
 have h:=siteIdx_find nm ss 0
 unfold sitePtr
 cases hi:siteIdx nm ss 0 with
 |none=>rw[hi]at h;rw[h];rfl
 |some j=>
  rw[hi]at h
  obtain⟨i,s,hj,hs,hf⟩:=h
  obtain rfl:j=i:=by omega
  rw[hf]
  have hlt:j<ss.length:=(List.getElem?_eq_some_iff.1 hs).1
  obtain⟨b,off,rfl,hb,hc⟩:=hS.at hlt
  refine⟨b,_,rfl,hb,fun k u hu=> ?_⟩
  refine hc k u ?_
  rw[List.getElem?_eq_getElem hlt]at hs
  simp only[Option.some.injEq]at hs
  rw[hs];exact hu
end Go.Proofs.YtmaidggpbihlgaaGreatDoor
