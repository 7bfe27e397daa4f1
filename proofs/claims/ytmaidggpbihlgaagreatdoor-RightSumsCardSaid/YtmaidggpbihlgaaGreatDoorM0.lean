/- Maps that the program makes: laws on look-up and store, for keys that are strings or structs of two ints. -/
import Derived.Test.YtmaidggpbihlgaaGreatDoorProg
import Derived.Test.YtmaidggpbihlgaaGreatDoorK0
import Derived.Test.YtmaidggpbihlgaaGreatDoorS0
import Derived.Maps.OwnOps
set_option linter.unusedSimpArgs false
set_option linter.unusedVariables false
namespace Go.Proofs.YtmaidggpbihlgaaGreatDoor
open Go.RowKit
def locate {K V:Type} (eq:K->K->Bool) (k:K):List (K×V)->Nat->Option (Nat×V)
 | [],_=>none
 |p::l,i=>if eq k p.1 then some (i,p.2)else locate eq k l (i+1)
theorem locate_get {K V:Type} (eq:K->K->Bool) (k:K): ∀(m:List (K×V)) (i:Nat),(locate eq k m i).map (·.2)=mget eq k m
 | [],_=>rfl
 |p::l,i=>by unfold locate mget;split<;>simp[locate_get eq k l]
structure MapTy (P:Program) (t kt et:TypeId) {K V:Type} (ek:K->Value) (ev:V->Value) (z:V) (eq:K->K->Bool):Prop where
 ht:P.underlying t=some (.map kt et)
 hz: ∀w,(zeroValue et).run P w= .ok (ev z) w
 hck: ∀empty k w,(Instr.checkKey empty 10000 kt (ek k)).run P w= .ok () w
 hfind: ∀k (es:List MapEntry) (m:List (K×V)),es.map (fun e=>(e.key,e.val))=m.map (fun p=>(ek p.1,ev p.2))-> ∀w,(Instr.findKey kt (ek k) es).run P w= .ok ((locate eq k m 0).map fun p=>(p.1,ev p.2)) w
 hsame: ∀k k',eq k k'=true->Instr.sameBits 10000 (ek k') (ek k)=true
def MapAt (w:World) (b:Nat) {K V:Type} (ek:K->Value) (ev:V->Value) (m:List (K×V)):Prop:=
 ∃(es:Array MapEntry) (clock:Nat),w.heap[b]?=some (.map es clock)/\es.toList.map (fun e=>(e.key,e.val))=m.map (fun p=>(ek p.1,ev p.2))
section
variable {P:Program} {t kt et:TypeId} {K V:Type} {ek:K->Value} {ev:V->Value} {z:V} {eq:K->K->Bool} {w:World} {b:Nat} {m:List (K×V)}
theorem MapAt.lt (h:MapAt w b ek ev m):b<w.heap.size:=by
 obtain⟨es,c,h,_⟩:=h
 exact(Array.getElem?_eq_some_iff.1 h).1
theorem MapAt.keep {w':World} (h:MapAt w b ek ev m) (hk:w'.heap[b]?=w.heap[b]?):MapAt w' b ek ev m:=by
 obtain⟨es,c,h,h2⟩:=h
 exact⟨es,c,hk.trans h,h2⟩
theorem MapAt.alloc (h:MapAt w b ek ev m) (o:Obj):MapAt (w.alloc o) b ek ev m:=h.keep (Below.heap_alloc w o b h.lt)
theorem MapAt.drew (h:MapAt w b ek ev m):MapAt w.drew b ek ev m:=h
theorem MapAt.ext (h:MapAt w b ek ev m) (z:Ez):MapAt (w.ext z) b ek ev m:=h.keep (ext_heap_lt w z b h.lt)
theorem MapAt.new (w:World):MapAt (w.alloc (.map #[] 0)) w.heap.size ek ev ([]:List (K×V)):=⟨#[],0,heap_alloc_new w _,rfl⟩
theorem run_getObj_map {r:Nat} {es:Array MapEntry} {c:Nat} (h:w.heap[r]?=some (.map es c)):(getObj r).run P w= .ok (.map es c) w:=by
 simp[getObj,Sem.run,h]
theorem run_lookup (T:MapTy P t kt et ek ev z eq) (h:MapAt w b ek ev m) (k:K):
 (Instr.lookup t (.map (some b)) (ek k) false).run P w= .ok (ev ((mget eq k m).getD z)) w:=by
 obtain⟨es,c,hh,hm⟩:=h
 have h1:=T.hfind k es.toList m hm w
 simp[Instr.lookup,run_underlying T.ht,run_getObj_map hh,T.hck,h1,<-locate_get eq k m 0]
 cases locate eq k m 0<;>simp[T.hz]
theorem run_lookup_ok (T:MapTy P t kt et ek ev z eq) (h:MapAt w b ek ev m) (k:K):
 (Instr.lookup t (.map (some b)) (ek k) true).run P w= .ok (.tuple #[ev ((mget eq k m).getD z), .bool (mget eq k m).isSome]) w:=by
 obtain⟨es,c,hh,hm⟩:=h
 have h1:=T.hfind k es.toList m hm w
 simp[Instr.lookup,run_underlying T.ht,run_getObj_map hh,T.hck,h1,<-locate_get eq k m 0]
 cases locate eq k m 0<;>simp[T.hz]
theorem locate_some {k:K}: ∀ {m:List (K×V)} {i j:Nat} {v:V},locate eq k m i=some (j,v)->i<=j/\ ∃p,m[j-i]?=some p/\eq k p.1=true/\ ∀v',mput eq k v' m=m.set (j-i) (k,v')
 | [],_,_,_,h=>by cases h
 |p::l,i,j,v,h=>by
  unfold locate at h
  split at h
  ·rename_i he
   simp only[Option.some.injEq,Prod.mk.injEq]at h
   obtain⟨rfl,rfl⟩:=h
   exact⟨Nat.le_refl _,p,by simp,he,fun v'=>by simp[mput,he]⟩
  ·rename_i he
   obtain⟨h1,q,h2,h3,h4⟩:=locate_some h
   have e:j-i=(j-(i+1))+1:=by omega
   refine⟨by omega,q,?_,h3,fun v'=> ?_⟩
   ·rw[e];simpa using h2
   ·rw[e,mput,if_neg he,h4 v'];rfl
theorem locate_none {k:K}: ∀ {m:List (K×V)} {i:Nat},locate eq k m i=none-> ∀v',mput eq k v' m=m++[(k,v')]
 | [],_,_,_=>rfl
 |p::l,i,h,v'=>by
  unfold locate at h
  split at h
  ·cases h
  ·rename_i he
   rw[mput,if_neg he,locate_none h v'];rfl
theorem run_update (T:MapTy P t kt et ek ev z eq) (h:MapAt w b ek ev m) (k:K) (v:V):
 ∃w',(Instr.mapUpdate t (.map (some b)) (ek k) (ev v)).run P w= .ok () w'/\MapAt w' b ek ev (mput eq k v m)/\w.grownBy w' (some b):=by
 obtain⟨es,c,hh,hm⟩:=h
 have h1:=T.hfind k es.toList m hm w
 have hlt:=(Array.getElem?_eq_some_iff.1 hh).1
 have hset: ∀es' c',((setObj b (.map es' c')).run P w)= .ok () {w with heap:=w.heap.setIfInBounds b (.map es' c')}:=fun es' c'=>by
  simp[setObj,Sem.run,hh]
 have hgb: ∀es' c',w.grownBy {w with heap:=w.heap.setIfInBounds b (.map es' c')} (some b):=fun es' c'=>
  ⟨rfl,rfl,rfl,by simp,fun i hi hne=>by
    have:b≠i:=fun e=>hne (by rw[e])
    simp[Array.getElem?_setIfInBounds,this]⟩
 cases hl:locate eq k m 0 with
 |none=>
  refine⟨_,?_,?_,hgb (es.push {key:=ek k,val:=ev v,born:=c}) (c+1)⟩
  ·simp[Instr.mapUpdate,run_underlying T.ht,run_getObj_map hh,T.hck,h1,hl,hset]
  ·refine⟨es.push {key:=ek k,val:=ev v,born:=c},c+1,by simp[Array.getElem?_setIfInBounds,hlt],?_⟩
   rw[locate_none hl]
   simp[hm]
 |some p=>
  obtain⟨j,u⟩:=p
  obtain⟨_,q,hq,he,hput⟩:=locate_some hl
  simp only[Nat.sub_zero]at hq hput
  have hj:j<m.length:=(List.getElem?_eq_some_iff.1 hq).1
  have hlen:es.toList.length=m.length:=by simpa using congrArg List.length hm
  have hje:j<es.size:=by
   have h0:es.size=m.length:=by simpa using hlen
   omega
  have hkey:(es[j]).key=ek q.1:=by
   have:=congrArg (fun l=>l[j]?) hm
   simp[List.getElem?_map,hq,hje]at this
   exact this.1
  refine⟨_,?_,?_,hgb (es.modify j fun e=> {e with key:=ek k,val:=ev v}) c⟩
  ·simp[Instr.mapUpdate,run_underlying T.ht,run_getObj_map hh,T.hck,h1,hl,Instr.keyThatStays,Array.getElem?_eq_getElem hje,hkey,T.hsame _ _ he,hset]
  ·refine⟨es.modify j fun e=> {e with key:=ek k,val:=ev v},c,by simp[Array.getElem?_setIfInBounds,hlt],?_⟩
   rw[hput]
   apply List.ext_getElem?
   intro i
   have hmi:=congrArg (fun l=>l[i]?) hm
   simp only[List.getElem?_map,Array.getElem?_toList]at hmi
   simp only[List.getElem?_map,Array.getElem?_toList,Array.getElem?_modify,List.getElem?_set]
   by_cases hij:j=i
   ·subst hij
    simp[hje,hj,Array.getElem?_eq_getElem hje]
   ·simp[hij,hmi]
theorem wpList_lookup_run {ops:Array Oper} {rest:List Oper} {o:Oper} {a:Act} {Q:Exit->Act->World->Prop} {T:TypeId} {ck:Bool}
 (hg:o.guard=none) (x i:Operand) (ho:o.op= .lookup T x i ck) (vx vi:Value) (hx:a.eval x=vx) (hi:a.eval i=vi) (v:Value) (hrun:(Instr.lookup T vx vi ck).run P w= .ok v w)
 (hK:wpList P ops Q rest (a.put o.dst v) w):wpList P ops Q (o::rest) a w:=by
 refine wpList_plain hg fun K' hK'=> ?_
 unfold Oper.wp
 simp[execOp,ho,hx,hi,hrun,Result.andThen]
 exact hK' _ _ hK
theorem wpList_update_run {ops:Array Oper} {rest:List Oper} {o:Oper} {a:Act} {Q:Exit->Act->World->Prop} {T:TypeId}
 (hg:o.guard=none) (x i u:Operand) (ho:o.op= .mapUpdate T x i u) (vx vi vu:Value) (hx:a.eval x=vx) (hi:a.eval i=vi) (hu:a.eval u=vu) (w':World) (hrun:(Instr.mapUpdate T vx vi vu).run P w= .ok () w')
 (hK:wpList P ops Q rest (a.put o.dst undef) w'):wpList P ops Q (o::rest) a w:=by
 refine wpList_plain hg fun K' hK'=> ?_
 unfold Oper.wp
 simp[execOp,ho,hx,hi,hu,hrun,Result.andThen]
 exact hK' _ _ hK
end
/-! ### the two maps of the program -/
def ekS (s:ByteArray):Value:= .string s
def evI (n:Int):Value:= .int .i64 n
def eqS (a b:ByteArray):Bool:=a.toList==b.toList
def ekK (p:Int×Int):Value:= .agg #[.int .i64 p.1, .int .i64 p.2]
def evB (b:Bool):Value:= .bool b
theorem findNow_s (s:ByteArray): ∀(es:List MapEntry) (m:List (ByteArray×Int)),es.map (fun e=>(e.key,e.val))=m.map (fun p=>(ekS p.1,evI p.2))-> ∀i,
 Instr.findNow .string (.string s) es i=some ((locate eqS s m i).map fun p=>(p.1,evI p.2))
 | [],[],_,_=>rfl
 | [],_::_,h,_=>by simp at h
 |_::_,[],h,_=>by simp at h
 |e::es,p::m,h,i=>by
  simp only[List.map_cons,List.cons.injEq,Prod.mk.injEq]at h
  obtain⟨⟨hk,hv⟩,ht⟩:=h
  unfold Instr.findNow locate
  rw[hk,hv,ekS,Instr.sameNow,beq_toListBytes]
  cases hq:eqS s p.1
  ·rw[eqS]at hq
   rw[hq]
   simpa using findNow_s s es m ht (i+1)
  ·rw[eqS]at hq
   rw[hq]
   rfl
theorem sameBits_s (n:Nat) (a b:ByteArray):Instr.sameBits n (.string a) (.string b)=(a==b):=by cases n<;>rfl
theorem checkKey_s (e:Bool) (s:ByteArray) (w:World):(Instr.checkKey e 10000 9 (ekS s)).run Tryz.prog w= .ok () w:=by
 have h: ∀n,(Instr.checkKey e (n+1) 9 (ekS s)).run Tryz.prog w= .ok () w:=fun n=>by simp[Instr.checkKey,ekS,run_underlying Tryz.underlying9]
 exact h 9999
theorem findNow_k (v:Value) (e:MapEntry) (es:List MapEntry) (fs:Array Field) (i:Nat):Instr.findNow (.struct fs) v (e::es) i=none:=by
 unfold Instr.findNow
 cases v<;>simp[Instr.sameNow]
theorem sameBits_k (a c:Int):Instr.sameBits 10000 (.agg #[.int .i64 a, .int .i64 c]) (.agg #[.int .i64 a, .int .i64 c])=true:=by
 have h: ∀n (k:IntKind) (x:Int),Instr.sameBits n (.int k x) (.int k x)=true:=fun n k x=>by cases n<;>simp[Instr.sameBits]
 have h2: ∀n,Instr.sameBits (n+1) (.agg #[.int .i64 a, .int .i64 c]) (.agg #[.int .i64 a, .int .i64 c])=true:=fun n=>by simp[Instr.sameBits,h]
 exact h2 9999
end Go.Proofs.YtmaidggpbihlgaaGreatDoor
