/- A region that draws its order: loads are taken first, as long as one marked operation, that waits for them, has not come up. -/
import Derived.Maps.RangeRun
import Derived.Test.YtkhkhnellekofaaGreatDoorX0
import Derived.Deep.RegionHeld3
set_option linter.unusedSimpArgs false
set_option linter.unusedVariables false
namespace Go.Proofs.YtkhkhnellekofaaGreatDoor
open Go.RowKit
open Go.ChangeMaps (setBlock)
theorem erase_born: ∀ {L:List MapEntry} {i:Nat} {e:MapEntry},L[i]?=some e->(L.map (·.born)).Nodup->L.filter (fun x=>!(x.born==e.born))=L.eraseIdx i
 | [],i,e,h,_=>by simp at h
 |x::L,0,e,h,hn=>by
  rw[List.map_cons,List.nodup_cons]at hn
  simp only[List.getElem?_cons_zero,Option.some.injEq]at h
  subst h
  rw[List.filter_cons,if_neg (by simp),List.eraseIdx_cons_zero,List.filter_eq_self]
  intro y hy
  have:y.born≠x.born:=fun e=>hn.1 (List.mem_map.2 ⟨y,hy,e⟩)
  simpa using this
 |x::L,i+1,e,h,hn=>by
  rw[List.map_cons,List.nodup_cons]at hn
  simp only[List.getElem?_cons_succ]at h
  have hxe:x.born≠e.born:=fun e'=>hn.1 (by rw[e'];exact List.mem_map.2 ⟨e,List.mem_of_getElem? h,rfl⟩)
  rw[List.filter_cons,if_pos (by simpa using hxe),List.eraseIdx_cons_succ,erase_born h hn.2]
theorem erase_map {α β:Type} (f:α->β): ∀(l:List α) (i:Nat),(l.eraseIdx i).map f=(l.map f).eraseIdx i
 | [],_=>rfl
 |x::l,0=>rfl
 |x::l,i+1=>by
  rw[List.eraseIdx_cons_succ,List.map_cons,List.map_cons,List.eraseIdx_cons_succ,erase_map f l i]
def MapS (w:World) (b:Nat) {K V:Type} (ek:K->Value) (ev:V->Value) (m:List (K×V)):Prop:=
 ∃(es:Array MapEntry) (clock:Nat),w.heap[b]?=some (.map es clock)/\es.toList.map (fun e=>(e.key,e.val))=m.map (fun p=>(ek p.1,ev p.2))/\(∀e∈es.toList,e.born<clock)/\(es.toList.map (·.born)).Nodup
section
variable {P:Program} {t kt et:TypeId} {K V:Type} {ek:K->Value} {ev:V->Value} {z:V} {eq:K->K->Bool} {w:World} {b:Nat} {m:List (K×V)}
theorem MapS.at (h:MapS w b ek ev m):MapAt w b ek ev m:=by
 obtain⟨es,c,h1,h2,_,_⟩:=h
 exact⟨es,c,h1,h2⟩
theorem MapS.keep {w':World} (h:MapS w b ek ev m) (hk:w'.heap[b]?=w.heap[b]?):MapS w' b ek ev m:=by
 obtain⟨es,c,h1,h2⟩:=h
 exact⟨es,c,hk.trans h1,h2⟩
theorem MapS.below {w':World} {n:Nat} (h:MapS w b ek ev m) (hB:Below n w w') (hn:w.heap.size<=n:=by first|exact Nat.le_refl _|omega):MapS w' b ek ev m:=h.keep (hB.block b (Nat.lt_of_lt_of_le h.at.lt hn))
theorem MapS.grown {w':World} {row:Option Nat} (h:MapS w b ek ev m) (hg:w.grownBy w' row) (hne:some b≠row):MapS w' b ek ev m:=h.keep (hg.block b h.at.lt hne)
theorem MapS.new (w:World):MapS (w.alloc (.map #[] 0)) w.heap.size ek ev ([]:List (K×V)):=⟨#[],0,heap_alloc_new w _,rfl,by simp,by simp⟩
theorem run_updateS (T:MapTy P t kt et ek ev z eq) (h:MapS w b ek ev m) (k:K) (v:V):
 ∃w',(Instr.mapUpdate t (.map (some b)) (ek k) (ev v)).run P w= .ok () w'/\MapS w' b ek ev (mput eq k v m)/\w.grownBy w' (some b)/\w'.heap.size=w.heap.size:=by
 obtain⟨es,c,hh,hm,hb,hn⟩:=h
 have h1:=T.hfind k es.toList m hm w
 have hlt:=(Array.getElem?_eq_some_iff.1 hh).1
 have hset: ∀es' c',((setObj b (.map es' c')).run P w)= .ok () {w with heap:=w.heap.setIfInBounds b (.map es' c')}:=fun es' c'=>by
  simp[setObj,Sem.run,hh]
 have hgb: ∀es' c',w.grownBy {w with heap:=w.heap.setIfInBounds b (.map es' c')} (some b):=fun es' c'=>
  ⟨rfl,rfl,rfl,by simp,fun i hi hne=>by
    have:b≠i:=fun e=>hne (by rw[e])
    simp[Array.getElem?_setIfInBounds,this]⟩
 cases hl:locate eq k m 0 with
 |none=>
  refine⟨_,?_,?_,hgb (es.push {key:=ek k,val:=ev v,born:=c}) (c+1),by simp⟩
  ·simp[Instr.mapUpdate,run_underlying T.ht,run_getObj_map hh,T.hck,h1,hl,hset]
  ·refine⟨es.push {key:=ek k,val:=ev v,born:=c},c+1,by simp[Array.getElem?_setIfInBounds,hlt],?_,?_,?_⟩
   ·rw[locate_none hl]
    simp[hm]
   ·intro e he
    rw[Array.toList_push]at he
    rcases List.mem_append.1 he with he|he
    ·have:=hb e he;omega
    ·rw[List.mem_singleton.1 he];exact Nat.lt_succ_self c
   ·rw[Array.toList_push,List.map_append,List.nodup_append]
    refine⟨hn,by simp,?_⟩
    intro x hx y hy
    obtain⟨e,he,rfl⟩:=List.mem_map.1 hx
    simp only[List.map_cons,List.map_nil,List.mem_singleton]at hy
    have:=hb e he
    omega
 |some p=>
  obtain⟨j,u⟩:=p
  obtain⟨_,q,hq,he,hput⟩:=locate_some hl
  simp only[Nat.sub_zero]at hq hput
  have hj:j<m.length:=(List.getElem?_eq_some_iff.1 hq).1
  have hlen:es.toList.length=m.length:=by simpa using congrArg List.length hm
  have hje:j<es.size:=by
   have h0:es.size=m.length:=by simpa using hlen
   omega
  have hkey:(es[j]).key=ek q.1:=by
   have:=congrArg (fun l=>l[j]?) hm
   simp[List.getElem?_map,hq,hje]at this
   exact this.1
  have hborn:(es.modify j fun e=> {e with key:=ek k,val:=ev v}).toList.map (·.born)=es.toList.map (·.born):=by
   apply List.ext_getElem?
   intro i
   simp only[List.getElem?_map,Array.getElem?_toList,Array.getElem?_modify]
   by_cases hij:j=i
   ·subst hij
    simp[hje,Array.getElem?_eq_getElem hje]
   ·simp[hij]
  refine⟨_,?_,?_,hgb (es.modify j fun e=> {e with key:=ek k,val:=ev v}) c,by simp⟩
  ·simp[Instr.mapUpdate,run_underlying T.ht,run_getObj_map hh,T.hck,h1,hl,Instr.keyThatStays,Array.getElem?_eq_getElem hje,hkey,T.hsame _ _ he,hset]
  ·refine⟨es.modify j fun e=> {e with key:=ek k,val:=ev v},c,by simp[Array.getElem?_setIfInBounds,hlt],?_,?_,by rw[hborn];exact hn⟩
   ·rw[hput]
    apply List.ext_getElem?
    intro i
    have hmi:=congrArg (fun l=>l[i]?) hm
    simp only[List.getElem?_map,Array.getElem?_toList]at hmi
    simp only[List.getElem?_map,Array.getElem?_toList,Array.getElem?_modify,List.getElem?_set]
    by_cases hij:j=i
    ·subst hij
     simp[hje,hj,Array.getElem?_eq_getElem hje]
    ·simp[hij,hmi]
   ·intro e he
    have h2:e.born∈(es.modify j fun e=> {e with key:=ek k,val:=ev v}).toList.map (·.born):=List.mem_map.2 ⟨e,he,rfl⟩
    rw[hborn]at h2
    obtain⟨e',he',hbb⟩:=List.mem_map.1 h2
    rw[<-hbb]
    exact hb e' he'
def RangeAt (w:World) (b r:Nat) {K V:Type} (ek:K->Value) (ev:V->Value) (m left:List (K×V)):Prop:=
 ∃(es:Array MapEntry) (clock since:Nat) (seen:Array Nat) (c0:Nat),w.heap[b]?=some (.map es clock)/\es.toList.map (fun e=>(e.key,e.val))=m.map (fun p=>(ek p.1,ev p.2))/\(∀e∈es.toList,e.born<since)/\(es.toList.map (·.born)).Nodup/\
  w.heap[r]?=some (.mapIter (some b) since seen c0)/\since<=c0/\since<=clock/\(leftOf es seen).toList.map (fun e=>(e.key,e.val))=left.map (fun p=>(ek p.1,ev p.2))
theorem RangeAt.mapS {r:Nat} {left:List (K×V)} (h:RangeAt w b r ek ev m left):MapS w b ek ev m:=by
 obtain⟨es,clock,since,seen,c0,h1,h2,h3,h4,_,_,h7,_⟩:=h
 exact⟨es,clock,h1,h2,fun e he=>Nat.lt_of_lt_of_le (h3 e he) h7,h4⟩
theorem RangeAt.lt {r:Nat} {left:List (K×V)} (h:RangeAt w b r ek ev m left):r<w.heap.size/\b≠r:=by
 obtain⟨es,clock,since,seen,c0,h1,_,_,_,h5,_⟩:=h
 refine⟨(Array.getElem?_eq_some_iff.1 h5).1,fun e=> ?_⟩
 rw[e,h5]at h1
 cases h1
theorem RangeAt.grown {w':World} {row:Option Nat} {r:Nat} {left:List (K×V)} (h:RangeAt w b r ek ev m left) (hg:w.grownBy w' row) (hb:some b≠row) (hr:some r≠row):RangeAt w' b r ek ev m left:=by
 have h1:=h.mapS.at.lt
 have h2:=h.lt.1
 obtain⟨es,clock,since,seen,c0,k1,k2,k3,k4,k5,rest⟩:=h
 exact⟨es,clock,since,seen,c0,(hg.block b h1 hb).trans k1,k2,k3,k4,(hg.block r h2 hr).trans k5,rest⟩
theorem RangeAt.below {w':World} {n r:Nat} {left:List (K×V)} (h:RangeAt w b r ek ev m left) (hB:Below n w w') (hn:w.heap.size<=n:=by first|exact Nat.le_refl _|omega):RangeAt w' b r ek ev m left:=by
 have h1:=h.mapS.at.lt
 have h2:=h.lt.1
 obtain⟨es,clock,since,seen,c0,k1,k2,k3,k4,k5,rest⟩:=h
 exact⟨es,clock,since,seen,c0,(hB.block b (Nat.lt_of_lt_of_le h1 hn)).trans k1,k2,k3,k4,(hB.block r (Nat.lt_of_lt_of_le h2 hn)).trans k5,rest⟩
theorem run_rangeS (h:MapS w b ek ev m) {e:TypeId} (ht:P.underlying t=some (.map kt e)):
 (Instr.range t (.map (some b))).run P w= .ok (.pointer (some ⟨w.heap.size,0,none⟩)) (w.alloc (.mapIter (some b) (h.choose_spec.choose) #[] (h.choose_spec.choose)))/\
   RangeAt (w.alloc (.mapIter (some b) (h.choose_spec.choose) #[] (h.choose_spec.choose))) b w.heap.size ek ev m m:=by
 have hs:=h.choose_spec.choose_spec
 generalize h.choose_spec.choose=c at*
 generalize h.choose=es at*
 obtain⟨h1,h2,h3,h4⟩:=hs
 refine⟨run_range_map w t kt e b es c ht h1,es,c,c,#[],c,(Below.heap_alloc w _ b (Array.getElem?_eq_some_iff.1 h1).1).trans h1,h2,h3,h4,heap_alloc_new w _,Nat.le_refl _,Nat.le_refl _,?_⟩
 rw[<-h2]
 congr 1
 simp[leftOf]
theorem run_nextS {r:Nat} {left:List (K×V)} (h:RangeAt w b r ek ev m left) (ty:TypeId):
 (left=[]/\(Instr.next (.pointer (some ⟨r,0,none⟩)) false ty).run P w= .ok (.tuple #[.bool false]) w)\/
 ∃(i:Nat) (p:K×V) (w':World),left[i]?=some p/\(Instr.next (.pointer (some ⟨r,0,none⟩)) false ty).run P w= .ok (.tuple #[.bool true,ek p.1,ev p.2]) w'/\RangeAt w' b r ek ev m (left.eraseIdx i)/\w.grownBy w' (some r)/\w'.heap.size=w.heap.size/\
  (Instr.entry (.pointer (some ⟨r,0,none⟩))).run P w'= .ok (.tuple #[ek p.1,ev p.2]) w':=by
 have hbr:=h.lt.2
 obtain⟨es,clock,since,seen,c0,k1,k2,k3,k4,k5,k6,k7,k8⟩:=h
 rcases run_next_at (P:=P) w ty r b since c0 seen es clock k5 k1 k3 k6 with⟨h0,hrun⟩|⟨e,he,w1,hw1,hrun⟩
 ·refine .inl ⟨?_,hrun⟩
  have hl:(leftOf es seen).toList.length=left.length:=by simpa using congrArg List.length k8
  rw[Array.length_toList,h0]at hl
  exact List.eq_nil_of_length_eq_zero hl.symm
 ·refine .inr ?_
  obtain⟨i,hi,hie⟩:=List.mem_iff_getElem.1 he
  have hl:(leftOf es seen).toList.length=left.length:=by simpa using congrArg List.length k8
  have hil:i<left.length:=by omega
  have hkv:(e.key,e.val)=(ek (left[i]).1,ev (left[i]).2):=by
   have:=congrArg (fun l=>l[i]?) k8
   simp only[List.getElem?_map,List.getElem?_eq_getElem hi,List.getElem?_eq_getElem hil,Option.map_some,Option.some.injEq,hie]at this
   exact this
  simp only[Prod.mk.injEq]at hkv
  have hes:e∈es.toList:=by
   unfold leftOf at he
   simp at he⊢
   exact he.1
  have hb1:(setBlock w1 r (.mapIter (some b) since (seen.push e.born) clock)).heap[b]?=some (.map es clock):=by
   rcases hw1 with rfl|rfl<;>(simp only[setBlock];rw[Array.getElem?_setIfInBounds_ne (fun e=>hbr e.symm)];exact k1)
  have hrl:=(Array.getElem?_eq_some_iff.1 k5).1
  have hr1:(setBlock w1 r (.mapIter (some b) since (seen.push e.born) clock)).heap[r]?=some (.mapIter (some b) since (seen.push e.born) clock):=by
   rcases hw1 with rfl|rfl<;>(simp only[setBlock];exact Array.getElem?_setIfInBounds_self_of_lt hrl)
  refine⟨i,left[i],_,List.getElem?_eq_getElem hil,by rw[<-hkv.1,<-hkv.2];exact hrun,⟨es,clock,since,seen.push e.born,clock,hb1,k2,k3,k4,hr1,k7,k7,?_⟩,?_,?_,?_⟩
  ·
   have hn:((leftOf es seen).toList.map (·.born)).Nodup:=by
    unfold leftOf
    rw[Array.toList_filter]
    exact List.Nodup.sublist (List.Sublist.map _ List.filter_sublist) k4
   have e1:(leftOf es (seen.push e.born)).toList=(leftOf es seen).toList.eraseIdx i:=by
    have e2:(leftOf es (seen.push e.born)).toList=(leftOf es seen).toList.filter fun x=>!(x.born==e.born):=by
     unfold leftOf
     rw[Array.toList_filter,Array.toList_filter,List.filter_filter]
     congr 1
     funext x
     rw[Bool.eq_iff_iff]
     simp[Array.contains_push,and_comm]
    rw[e2]
    exact erase_born (by rw[List.getElem?_eq_getElem hi,hie]) hn
   rw[e1,erase_map,k8,erase_map]
  ·rcases hw1 with rfl|rfl
   ·exact⟨rfl,rfl,rfl,by simp[setBlock],fun k hk hne=>by simp only[setBlock];rw[Array.getElem?_setIfInBounds_ne (fun e=>hne (by rw[e]))]⟩
   ·exact⟨rfl,rfl,rfl,by simp[setBlock],fun k hk hne=>by simp only[setBlock];rw[Array.getElem?_setIfInBounds_ne (fun e=>hne (by rw[e]))];rfl⟩
  ·rcases hw1 with rfl|rfl<;>simp[setBlock]
  ·rw[<-hkv.1,<-hkv.2]
   exact run_entry_at (P:=P) _ r b since seen es clock e hr1 hb1 hes k4
end
end Go.Proofs.YtkhkhnellekofaaGreatDoor
namespace Go.Proofs.YtkhkhnellekofaaGreatDoor
section
variable {P:Program} {ops:Array Oper} {Q:Exit->Act->World->Prop} {md:Region.Mode} {m:Nat} {S:Bool->World->Prop}
def ClosedL (md:Region.Mode) (ops:Array Oper) (listed:Array Bool):Prop:= ∀(k:Nat) (o:Oper),ops[k]?=some o->listed.getD k false=true-> ∀e∈o.after,Region.binds md e=true->listed.getD e.on false=true
def closedB (md:Region.Mode) (ops:Array Oper) (listed:Array Bool):Bool:=(List.range ops.size).all fun k=>match ops[k]? with
 |some o=>!listed.getD k false||o.after.all fun e=>!Region.binds md e||listed.getD e.on false
 |none=>true
theorem closed_of {listed:Array Bool} (h:closedB md ops listed=true):ClosedL md ops listed:=fun k o ho hl e he hb=>by
 unfold closedB at h
 have h1:=List.all_eq_true.1 h k (List.mem_range.2 (Array.getElem?_eq_some_iff.1 ho).1)
 simp only[ho,hl,Bool.not_true,Bool.false_or]at h1
 rw[Array.all_eq_true]at h1
 obtain⟨j,hj,rfl⟩:=Array.mem_iff_getElem.1 he
 have h2:=h1 j hj
 rw[hb]at h2
 simpa using h2
def needs (md:Region.Mode) (ops:Array Oper) (i:Nat):Nat->Nat->Bool
 |0,k=>k==i
 |f+1,k=>k==i||match ops[k]? with
  |some o=>o.after.any fun e=>Region.binds md e&&needs md ops i f e.on
  |none=>false
theorem needs_of {i:Nat} {listed:Array Bool} (hc:ClosedL md ops listed): ∀(f k:Nat),needs md ops i f k=true->listed.getD k false=true->listed.getD i false=true
 |0,k,h,hl=>by
  have:k=i:=by simpa[needs]using h
  rw[<-this];exact hl
 |f+1,k,h,hl=>by
  unfold needs at h
  rw[Bool.or_eq_true]at h
  rcases h with h|h
  ·have:k=i:=by simpa using h
   rw[<-this];exact hl
  ·cases ho:ops[k]? with
   |none=>rw[ho]at h;cases h
   |some o=>
    rw[ho]at h
    simp only at h
    rw[Array.any_eq_true]at h
    obtain⟨j,hj,h2⟩:=h
    rw[Bool.and_eq_true]at h2
    exact needs_of hc f _ h2.2 (hc k o ho hl o.after[j] (Array.getElem_mem hj) h2.1)
theorem closed_set {listed:Array Bool} {j:Nat} (hc:ClosedL md ops listed) (hj:j∈Region.ready md ops listed):ClosedL md ops (listed.setIfInBounds j true):=fun k o ho hl e he hb=>by
 obtain⟨h0,oj,hoj,hall⟩:=mem_ready.1 hj
 by_cases hjk:j=k
 ·subst hjk
  rw[hoj]at ho
  simp only[Option.some.injEq]at ho
  subst ho
  exact getD_set_true (hall e he hb)
 ·rw[getD_set_ne false hjk]at hl
  exact getD_set_true (hc k o ho hl e he hb)
def wpAnyM (P:Program) (md:Region.Mode) (ops:Array Oper) (Q:Exit->Act->World->Prop) (m:Nat) (S:Bool->World->Prop):Nat->Array Bool->Act->World->Prop
 |0,listed,a,w=>Region.ready md ops listed=[]/\Q .normal a w
 |fuel+1,listed,a,w=>
  (Region.ready md ops listed=[]->Q .normal a w)/\
  ∀i∈Region.ready md ops listed,wpOp P ops Q i (fun a' w'=>S ((listed.setIfInBounds i true).getD m false) w'/\wpAnyM P md ops Q m S fuel (listed.setIfInBounds i true) a' w') a w
theorem wpAny_of_M: ∀(fuel:Nat) (listed:Array Bool) (a:Act) (w:World),wpAnyM P md ops Q m S fuel listed a w->wpAny P md ops Q fuel listed a w
 |0,_,_,_,h=>h
 |fuel+1,_,_,_,h=>⟨h.1,fun i hi=>wpOp_mono (fun a' w' h'=>wpAny_of_M fuel _ a' w' h'.2) (h.2 i hi)⟩
theorem wpAnyM_first {i:Nat} {oi:Oper} {v:Value} (him:i≠m) (hi:ops[i]?=some oi) (hsel: ∀(j:Nat) (o:Oper) cs b,ops[j]?=some o->o.op≠ .select cs b)
 (hQ: ∀c a w,Q (.panic c) (a.put oi.dst v) w->Q (.panic c) a w) (f0:Nat) (hne:needs md ops i f0 m=true):
 ∀(fuel:Nat) (listed:Array Bool) (a:Act) (w:World),ClosedL md ops listed->
  (∀j oj,ops[j]?=some oj->j≠i->listed.getD j true=false->(∀e∈oj.after,Region.binds md e=true->e.on≠i)->oi.apart ops oj=true)->
  i∈Region.ready md ops listed->YieldsIf P ops (S false) oi v a->S false w->
  wpAnyM P md ops Q m S fuel (listed.setIfInBounds i true) (a.put oi.dst v) w->wpAnyM P md ops Q m S (fuel+1) listed a w:=by
 have hoff: ∀ {listed:Array Bool},ClosedL md ops listed->i∈Region.ready md ops listed->listed.getD m false=false:=fun {listed} hc hr=>by
  cases hx:listed.getD m false with
  |false=>rfl
  |true=>
   have h1:=needs_of hc f0 m hne hx
   have h2:=getD_both (mem_ready.1 hr).1
   rw[h2]at h1
   cases h1
 intro fuel
 induction fuel with
 |zero=>
  intro listed a w hc _ hr hy hS H
  refine⟨fun h=>(by rw[h]at hr;cases hr),fun j hj=> ?_⟩
  by_cases hji:j=i
  ·subst hji
   exact hy.wpOp hi hS ⟨by rw[getD_set_ne false him,hoff hc hr];exact hS,H⟩
  ·have:=ready_mono hj hji
   rw[H.1]at this
   cases this
 |succ fuel ih=>
  intro listed a w hc hfree hr hy hS H
  refine⟨fun h=>(by rw[h]at hr;cases hr),fun j hj=> ?_⟩
  by_cases hji:j=i
  ·subst hji
   exact hy.wpOp hi hS ⟨by rw[getD_set_ne false him,hoff hc hr];exact hS,H⟩
  ·have h1:=H.2 j (ready_mono hj hji)
   obtain⟨hjun,oj,hoj,hall⟩:=mem_ready.1 hj
   have hnot: ∀e∈oj.after,Region.binds md e=true->e.on≠i:=fun e he hb heq=>by
    have h1:=hall e he hb
    have h0:=(mem_ready.1 hr).1
    rw[heq]at h1
    rw[getD_both h0]at h1
    cases h1
   have h2:=wpOp_putIf hoj (hfree j oj hoj hji hjun hnot) (fun cs b=>hsel i oi cs b hi) (fun cs b=>hsel j oj cs b hoj) hQ hy h1
   have hfree': ∀k ok,ops[k]?=some ok->k≠i->(listed.setIfInBounds j true).getD k true=false->
    (∀e∈ok.after,Region.binds md e=true->e.on≠i)->oi.apart ops ok=true:=fun k ok hk hki hun hno=>by
    refine hfree k ok hk hki ?_ hno
    by_cases hjk:j=k
    ·subst hjk;exact hjun
    ·rw[getD_set_ne true hjk]at hun;exact hun
   have hc':=closed_set hc hj
   have hr':=ready_mono hr (Ne.symm hji)
   have hs':((listed.setIfInBounds i true).setIfInBounds j true).getD m false=(listed.setIfInBounds j true).getD m false:=by
    rw[Array.setIfInBounds_comm _ _ (Ne.symm hji),getD_set_ne false him]
   refine wpOp_mono (fun a' w' h3=> ?_) h2
   have h4:=h3.2.1
   rw[hs']at h4
   refine⟨h4,ih (listed.setIfInBounds j true) a' w' hc' hfree' hr' h3.1 ?_ ?_⟩
   ·rw[hoff hc' hr']at h4;exact h4
   ·rw[Array.setIfInBounds_comm _ _ hji]
    exact h3.2.2
theorem wpAnyM_take {i:Nat} {oi:Oper} {v:Value} {fuel:Nat} {listed:Array Bool} {a:Act} {w:World} (f0:Nat) (hi:ops[i]?=some oi) (him:i≠m) (hne:needs md ops i f0 m=true) (hcl:closedB md ops listed=true)
 (hs:Region.noSelect ops=true) (hf:Region.free md ops listed i=true) (hr:(Region.ready md ops listed).contains i=true)
 (hQ: ∀c a w,Q (.panic c) (a.put oi.dst v) w->Q (.panic c) a w) (hy:YieldsIf P ops (S false) oi v a) (hS:S false w)
 (h:wpAnyM P md ops Q m S fuel (listed.setIfInBounds i true) (a.put oi.dst v) w):wpAnyM P md ops Q m S (fuel+1) listed a w:=
 wpAnyM_first him hi (Region.noSelect_spec hs) hQ f0 hne fuel listed a w (closed_of hcl) (Region.free_spec hi hf) (by simpa using hr) hy hS h
theorem wpAnyM_first2 {i:Nat} {oi:Oper} {v:Value} (him:i≠m) (hi:ops[i]?=some oi) (hsel: ∀(j:Nat) (o:Oper) cs b,ops[j]?=some o->o.op≠ .select cs b)
 (hQ: ∀c a w,Q (.panic c) (a.put oi.dst v) w->Q (.panic c) a w):
 ∀(fuel:Nat) (listed:Array Bool) (a:Act) (w:World),
  (∀j oj,ops[j]?=some oj->j≠i->listed.getD j true=false->(∀e∈oj.after,Region.binds md e=true->e.on≠i)->oi.apart ops oj=true)->
  i∈Region.ready md ops listed->YieldsIf P ops (fun _=>True) oi v a->S (listed.getD m false) w->
  wpAnyM P md ops Q m S fuel (listed.setIfInBounds i true) (a.put oi.dst v) w->wpAnyM P md ops Q m S (fuel+1) listed a w:=by
 intro fuel
 induction fuel with
 |zero=>
  intro listed a w _ hr hy hS H
  refine⟨fun h=>(by rw[h]at hr;cases hr),fun j hj=> ?_⟩
  by_cases hji:j=i
  ·subst hji
   exact hy.wpOp hi trivial ⟨by rw[getD_set_ne false him];exact hS,H⟩
  ·have:=ready_mono hj hji
   rw[H.1]at this
   cases this
 |succ fuel ih=>
  intro listed a w hfree hr hy hS H
  refine⟨fun h=>(by rw[h]at hr;cases hr),fun j hj=> ?_⟩
  by_cases hji:j=i
  ·subst hji
   exact hy.wpOp hi trivial ⟨by rw[getD_set_ne false him];exact hS,H⟩
  ·have h1:=H.2 j (ready_mono hj hji)
   obtain⟨hjun,oj,hoj,hall⟩:=mem_ready.1 hj
   have hnot: ∀e∈oj.after,Region.binds md e=true->e.on≠i:=fun e he hb heq=>by
    have h1:=hall e he hb
    have h0:=(mem_ready.1 hr).1
    rw[heq]at h1
    rw[getD_both h0]at h1
    cases h1
   have h2:=wpOp_putIf hoj (hfree j oj hoj hji hjun hnot) (fun cs b=>hsel i oi cs b hi) (fun cs b=>hsel j oj cs b hoj) hQ hy h1
   have hfree': ∀k ok,ops[k]?=some ok->k≠i->(listed.setIfInBounds j true).getD k true=false->
    (∀e∈ok.after,Region.binds md e=true->e.on≠i)->oi.apart ops ok=true:=fun k ok hk hki hun hno=>by
    refine hfree k ok hk hki ?_ hno
    by_cases hjk:j=k
    ·subst hjk;exact hjun
    ·rw[getD_set_ne true hjk]at hun;exact hun
   have hs':((listed.setIfInBounds i true).setIfInBounds j true).getD m false=(listed.setIfInBounds j true).getD m false:=by
    rw[Array.setIfInBounds_comm _ _ (Ne.symm hji),getD_set_ne false him]
   refine wpOp_mono (fun a' w' h3=> ?_) h2
   have h4:=h3.2.1
   rw[hs']at h4
   refine⟨h4,ih (listed.setIfInBounds j true) a' w' hfree' (ready_mono hr (Ne.symm hji)) h3.1 h4 ?_⟩
   rw[Array.setIfInBounds_comm _ _ hji]
   exact h3.2.2
theorem wpAnyM_free {i:Nat} {oi:Oper} {v:Value} {fuel:Nat} {listed:Array Bool} {a:Act} {w:World} (b:Bool) (hb:listed.getD m false=b) (hi:ops[i]?=some oi) (him:i≠m)
 (hs:Region.noSelect ops=true) (hf:Region.free md ops listed i=true) (hr:(Region.ready md ops listed).contains i=true)
 (hQ: ∀c a w,Q (.panic c) (a.put oi.dst v) w->Q (.panic c) a w) (hy:YieldsIf P ops (fun _=>True) oi v a) (hS:S b w)
 (h:wpAnyM P md ops Q m S fuel (listed.setIfInBounds i true) (a.put oi.dst v) w):wpAnyM P md ops Q m S (fuel+1) listed a w:=
 wpAnyM_first2 him hi (Region.noSelect_spec hs) hQ fuel listed a w (Region.free_spec hi hf) (by simpa using hr) hy (by rw[hb];exact hS) h
def AllReadyM (P:Program) (md:Region.Mode) (ops:Array Oper) (Q:Exit->Act->World->Prop) (m:Nat) (S:Bool->World->Prop) (fuel:Nat) (listed:Array Bool) (a:Act) (w:World) (rs:List Nat):Prop:=
 ∀i∈rs,wpOp P ops Q i (fun a' w'=>S ((listed.setIfInBounds i true).getD m false) w'/\wpAnyM P md ops Q m S fuel (listed.setIfInBounds i true) a' w') a w
theorem AllReadyM.nil {fuel:Nat} {listed:Array Bool} {a:Act} {w:World}:AllReadyM P md ops Q m S fuel listed a w []:=fun _ h=>by cases h
theorem AllReadyM.cons {fuel:Nat} {listed:Array Bool} {a:Act} {w:World} {i:Nat} {o:Oper} {rs:List Nat} (ho:ops[i]?=some o) (b:Bool) (hb:(listed.setIfInBounds i true).getD m false=b)
 (h: ∀K':Act->World->Prop,Shut (∀a w,S b w->(S b w->wpAnyM P md ops Q m S fuel (listed.setIfInBounds i true) a w)->K' a w)->if Region.wanted o (yielded ops a.tmps)=true then Oper.wp P o a w K' Q else K' (a.put o.dst undef) w)
 (hs:AllReadyM P md ops Q m S fuel listed a w rs):AllReadyM P md ops Q m S fuel listed a w (i::rs):=fun j hj=>by
 rcases List.mem_cons.1 hj with rfl|hj
 ·rw[hb]
  exact wpOp_step ho (fun K' hK=>h K' (fun a w hS hW=>hK a w ⟨hS,hW hS⟩))
 ·exact hs j hj
theorem wpAnyM_ready {rs:List Nat} {fuel:Nat} {listed:Array Bool} {a:Act} {w:World} (hr:Region.ready md ops listed=rs) (hne:rs≠[])
 (h:AllReadyM P md ops Q m S fuel listed a w rs):wpAnyM P md ops Q m S (fuel+1) listed a w:=⟨fun h0=>absurd (hr▸h0) hne,hr▸h⟩
theorem wpAnyM_done {listed:Array Bool} {a:Act} {w:World} (hr:Region.ready md ops listed=[]) (h:Q .normal a w): ∀fuel,wpAnyM P md ops Q m S fuel listed a w
 |0=>⟨hr,h⟩
 |_+1=>⟨fun _=>h,by rw[hr];simp⟩
theorem wp_region_mark {id:Nat} {a:Act} {w:World} (m:Nat) (S:Bool->World->Prop) (hm:P.follows .mixedOrders=true) (hS:S false w.drew)
 (h:S false w.drew->wpAnyM P .any ops Q m S ops.size (Array.replicate ops.size false) a w.drew):(Code.region id ops true).wp P Q a w:=
 wp_region_any hm (wpAny_of_M _ _ _ _ (h hS))
end
theorem TkM {P:Program} {ops:Array Oper} {Q:Exit->Act->World->Prop} {md:Region.Mode} {m:Nat} {S:Bool->World->Prop} (i:Nat) {oi:Oper} {v:Value} {fuel:Nat} {listed:Array Bool} {a a':Act} {w:World} (h:wpAnyM P md ops Q m S fuel (listed.setIfInBounds i true) a' w) (hi:ops[i]?=some oi:=by exact List.getElem?_toArray.trans rfl) (him:i≠m:=by decide) (hne:needs md ops i 9 m=true:=by kernel_rfl) (hcl:closedB md ops listed=true:=by kernel_rfl)
 (hs:Region.noSelect ops=true:=by kernel_rfl) (hf:Region.free md ops listed i=true:=by kernel_rfl) (hr:(Region.ready md ops listed).contains i=true:=by kernel_rfl)
 (hQ: ∀c a w,Q (.panic c) (a.put oi.dst v) w->Q (.panic c) a w:=by exact fun _ _ _ h=>h) (hy:YieldsIf P ops (S false) oi v a:=by(refine Or.inl ⟨by rfl,?_⟩;intro w hSw;(try dsimp only at hSw);replace hSw:=hSw.resolve_left Bool.false_ne_true;go_simp;first|done|with_reducible rfl)) (hS:S false w:=by assumption)
 (ha:a.put oi.dst v=a':=by((try simp only[Act.put,List.setIfInBounds_toArray,List.set_cons_zero,List.set_cons_succ]);rfl)):wpAnyM P md ops Q m S (fuel+1) listed a w:=
 wpAnyM_take 9 hi him hne hcl hs hf hr hQ hy hS (ha▸h)
end Go.Proofs.YtkhkhnellekofaaGreatDoor
