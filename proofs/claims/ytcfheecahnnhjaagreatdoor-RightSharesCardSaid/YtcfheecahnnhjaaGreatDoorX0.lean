import Derived.Test.YtcfheecahnnhjaaGreatDoorProg
import Derived.Test.YtcfheecahnnhjaaGreatDoorK0
import Derived.Test.YtcfheecahnnhjaaGreatDoorS0
import Derived.RangeFuncNested
import Derived.RangeFuncBound
import Derived.Shelf.RegionOpen
import Derived.OwnWalkIn
import Derived.LoopNIn
import Derived.LoopIn
import Derived.Lib.SmallJoins
import Derived.Deep.AppendLies
set_option linter.all false
set_option maxRecDepth 100000
set_option maxHeartbeats 4000000
namespace Go.Proofs.YtcfheecahnnhjaaGreatDoor
open Go.RowKit
attribute [local go_sem] World.cell?_alloc_mark zag za4 zar zaB zaw zax zay zaz za0 za1 za2
attribute [local go_sem] Oper.semAt_some
section
def locate{K V:Type}(eq:K->K->Bool)(k:K):List (K×V)->Nat->Option (Nat×V)
 | [],_=>none
 |p::l,i=>if eq k p.1 then some (i,p.2)else locate eq k l (i+1)
theorem zfv{K V:Type}(eq:K->K->Bool)(k:K):∀(m:List (K×V)) (i:Nat),(locate eq k m i).map (·.2)=mget eq k m
 | [],_=>rfl
 |p::l,i=>by unfold locate mget;split<;>simp[zfv eq k l]
structure MapTy (P:Program) (t kt et:TypeId) {K V:Type} (ek:K->Value) (ev:V->Value) (z:V) (eq:K->K->Bool):Prop where
 ht:P.underlying t=some (.map kt et)
 hz:∀w,(zeroValue et).run P w=.ok (ev z) w
 hck:∀empty k w,(Instr.checkKey empty 10000 kt (ek k)).run P w=.ok () w
 hfind:∀k (es:List MapEntry) (m:List (K×V)),es.map (fun e=>(e.key,e.val))=m.map (fun p=>(ek p.1,ev p.2))->∀w,(Instr.findKey kt (ek k) es).run P w=.ok ((locate eq k m 0).map fun p=>(p.1,ev p.2)) w
 hsame:∀k k',eq k k'=true->Instr.sameBits 10000 (ek k') (ek k)=true
def MapAt(w:World)(b:Nat){K V:Type}(ek:K->Value)(ev:V->Value)(m:List (K×V)):Prop:=
 ∃(es:Array MapEntry) (clock:Nat),w.heap[b]?=some (.map es clock)/\es.toList.map (fun e=>(e.key,e.val))=m.map (fun p=>(ek p.1,ev p.2))
section
variable {P:Program} {t kt et:TypeId} {K V:Type} {ek:K->Value} {ev:V->Value} {z:V} {eq:K->K->Bool} {w:World} {b:Nat} {m:List (K×V)}
theorem MapAt.lt(h:MapAt w b ek ev m):b<w.heap.size:=by
 obtain⟨es,c,h,_⟩:=h;exact(Array.getElem?_eq_some_iff.1 h).1
theorem zbA{r:Nat}{es:Array MapEntry}{c:Nat}(h:w.heap[r]?=some (.map es c)):(getObj r).run P w=.ok (.map es c) w:=by
 simp[getObj,Sem.run,h]
theorem zbn(T:MapTy P t kt et ek ev z eq)(h:MapAt w b ek ev m)(k:K):
 (Instr.lookup t (.map (some b)) (ek k) false).run P w=.ok (ev ((mget eq k m).getD z)) w:=by
 obtain⟨es,c,hh,hm⟩:=h;have h1:=T.hfind k es.toList m hm w;simp[Instr.lookup,run_underlying T.ht,zbA hh,T.hck,h1,<-zfv eq k m 0];cases locate eq k m 0<;>simp[T.hz]
theorem zki(T:MapTy P t kt et ek ev z eq)(h:MapAt w b ek ev m)(k:K):
 (Instr.lookup t (.map (some b)) (ek k) true).run P w=.ok (.tuple #[ev ((mget eq k m).getD z),.bool (mget eq k m).isSome]) w:=by
 obtain⟨es,c,hh,hm⟩:=h;have h1:=T.hfind k es.toList m hm w;simp[Instr.lookup,run_underlying T.ht,zbA hh,T.hck,h1,<-zfv eq k m 0];cases locate eq k m 0<;>simp[T.hz]
theorem zdP{k:K}:∀ {m:List (K×V)} {i j:Nat} {v:V},locate eq k m i=some (j,v)->i<=j/\∃p,m[j-i]?=some p/\eq k p.1=true/\∀v',mput eq k v' m=m.set (j-i) (k,v')
 | [],_,_,_,h=>by cases h
 |p::l,i,j,v,h=>by
  unfold locate at h;split at h
  ·rename_i he
   simp only[Option.some.injEq,Prod.mk.injEq]at h;obtain⟨rfl,rfl⟩:=h;exact⟨Nat.le_refl _,p,by simp,he,fun v'=>by simp[mput,he]⟩
  ·rename_i he
   obtain⟨h1,q,h2,h3,h4⟩:=zdP h;have e:j-i=(j-(i+1))+1:=by omega
   refine⟨by omega,q,?_,h3,fun v'=>?_⟩
   ·rw[e];simpa using h2
   ·rw[e,mput,if_neg he,h4 v'];rfl
theorem ze3{k:K}:∀ {m:List (K×V)} {i:Nat},locate eq k m i=none->∀v',mput eq k v' m=m++[(k,v')]
 | [],_,_,_=>rfl
 |p::l,i,h,v'=>by
  unfold locate at h;split at h
  ·cases h
  ·rename_i he
   rw[mput,if_neg he,ze3 h v'];rfl
theorem zc7{ops:Array Oper}{rest:List Oper}{o:Oper}{a:Act}{Q:Exit->Act->World->Prop}{T:TypeId}
 (hg:o.guard=none)(x i u:Operand)(ho:o.op=.mapUpdate T x i u)(vx vi vu:Value)(hx:a.eval x=vx)(hi:a.eval i=vi)(hu:a.eval u=vu)(w':World)(hrun:(Instr.mapUpdate T vx vi vu).run P w=.ok () w')
 (hK:wpList P ops Q rest (a.put o.dst undef) w'):wpList P ops Q (o::rest) a w:=by
 refine wpList_plain hg fun K' JG=>?_
 unfold Oper.wp;simp[execOp,ho,hx,hi,hu,hrun,Result.andThen];exact JG _ _ hK
end
/-! ### the two maps of the program -/
def ekS(s:ByteArray):Value:=.string s
def eqS(a b:ByteArray):Bool:=a.toList==b.toList
def evB(b:Bool):Value:=.bool b
theorem zgM(n:Nat)(a b:ByteArray):Instr.sameBits n (.string a) (.string b)=(a==b):=by cases n<;>rfl
theorem zor(e:Bool)(s:ByteArray)(w:World):(Instr.checkKey e 10000 9 (ekS s)).run Tryz.prog w=.ok () w:=by
 have h:∀n,(Instr.checkKey e (n+1) 9 (ekS s)).run Tryz.prog w=.ok () w:=fun n=>by simp[Instr.checkKey,ekS,run_underlying Tryz.underlying9]
 exact h 9999
variable {F:Fence} {n:Nat} {P:Program}
end
section
open Go.Shelf
structure Bk where
 A:Option Addr
 n:Nat
 c:Nat
 R:Option Addr
 rn:Nat
 rc:Nat
 c0:Int
 c1:Int
 c2:Int
 st:List Stay
 m:List (ByteArray×Int)
 day:Int
theorem zeX{α:Type}(f:α->List Value)(s:Nat)(ag:∀x,(f x).length=s):∀(xs:List α) (k:Nat) (x:α),xs[k]?=some x->∀j u,(f x)[j]?=some u->(xs.flatMap f)[k*s+j]?=some u
 | [],_,_,h,_,_,_=>by simp at h
 |y::xs,0,x,h,j,u,hu=>by
  have hj:j<s:=by have:=(List.getElem?_eq_some_iff.1 hu).1;rw[ag]at this;exact this
  simp at h;subst h;rw[List.flatMap_cons,List.getElem?_append_left (by rw[ag];omega)];simpa using hu
 |y::xs,k+1,x,h,j,u,hu=>by
  rw[List.flatMap_cons,List.getElem?_append_right (by rw[ag,Nat.succ_mul];omega),ag,show(k+1)*s+j-s=k*s+j from by rw[Nat.succ_mul];omega];exact zeX f s ag xs k x (by simpa using h) j u hu
end
theorem zab{W:World}{b:Nat}{o:Obj}(hb:W.heap[b]?=some o):b<W.heap.size:=(Array.getElem?_eq_some_iff.1 hb).1
theorem zav(w:World)(b i:Nat)(u:Value):w.grownBy (w.setCell ⟨b,i,none⟩ u) (some b):=
 ⟨rfl,rfl,rfl,by simp,fun k _ hk=>heap_setCell_other w ⟨b,i,none⟩ k u (fun e=>hk (by simp[e]))⟩
structure ElTy (P:Program) (t e:TypeId) (size bytes:Nat):Prop where
 ht:P.underlying t=some (.slice e)
 hi:∃i z,P.info? e=some i/\i.zero=some z/\i.size=size/\i.bytes=bytes/\z.cells.size=size
 hsz:0<size
theorem zhA{α:Type}(f:α->List Value)(s:Nat)(ag:∀x,(f x).length=s):∀(xs:List α) (j:Nat) (u:Value),(xs.flatMap f)[j]?=some u->∃k x i,xs[k]?=some x/\(f x)[i]?=some u/\j=k*s+i
 | [],j,u,h=>by simp at h
 |y::xs,j,u,h=>by
  rw[List.flatMap_cons]at h;by_cases hj:j<s
  ·rw[List.getElem?_append_left (by rw[ag];exact hj)]at h;exact⟨0,y,j,rfl,h,by omega⟩
  ·rw[List.getElem?_append_right (by rw[ag];omega),ag]at h;obtain⟨k,x,i,h1,h2,h3⟩:=zhA f s ag xs (j-s) u h;exact⟨k+1,x,i,by simpa using h1,h2,by rw[Nat.succ_mul];omega⟩
theorem zgc{α:Type}(f:α->List Value)(s:Nat)(ag:∀x,(f x).length=s):∀xs:List α,(xs.flatMap f).length=xs.length*s
 | []=>by simp
 |y::xs=>by rw[List.flatMap_cons,List.length_append,ag,zgc f s ag xs,List.length_cons,Nat.succ_mul,Nat.add_comm]
theorem sl_flat{α:Type}{f:α->List Value}{size:Nat}(ag:∀x,(f x).length=size){w:World}{b off:Nat}{ys:List α}(hc:∀k (x:α),ys[k]?=some x->∀j u,(f x)[j]?=some u->w.cell? ⟨b,off+k*size+j,none⟩=some u):
 ∀j u,(ys.flatMap f)[j]?=some u->w.cell? ((⟨b,off,none⟩:Addr).add j)=some u:=fun j u hj=>by
 obtain⟨k,x,q,h1,h2,h3⟩:=zhA f size ag ys j u hj;have:=hc k x h1 q u h2;rw[h3];have e1:(⟨b,off,none⟩:Addr).add (k*size+q)=⟨b,off+k*size+q,none⟩:=by
  unfold Addr.add;split
  ·rename_i h0
   rw[show off+k*size+q=off by omega]
  ·simp only[Addr.mk.injEq,and_true,true_and];omega
 rw[e1];exact this
section
variable {P:Program} {α:Type} {f:α->List Value} {t e:TypeId} {size bytes:Nat}
theorem zgd(T:ElTy P t e size bytes)(ag:∀x,(f x).length=size)(aP:∀x,∀u∈f x,u.oneCell'=true){w:World}{base ty n m c:Nat}{v:Value}{xs:List Value}(aa:w.ownsRow base e size v n xs)
 {A:Option Addr}{ys:List α}(hm:m=ys.length)(hS:Sl w size f A ys)(fQ:n+m<=maxLen)(bf:(n+m)*bytes<=140737488355328)(aN:base<=w.heap.size):
 ∃v' w',(Builtin.append_ #[t,t] ty #[v,.slice A m c]).run P w=.ok v' w'/\w'.ownsRow base e size v' (n+m) (xs++ys.flatMap f)/\w.grownBy w' v.ownBlock/\(v'.ownBlock=v.ownBlock\/v'.ownBlock=some w.heap.size):=by
 subst hm;obtain⟨i,z,hi,hz,hs,hb,fe⟩:=T.hi;have dQ:=zgc f size ag ys;cases A with
 |none=>
  have h0:ys=[]:=by
   cases ys with
   |nil=>rfl
   |cons y ys=>obtain⟨b,off,h,_⟩:=hS (by simp);cases h
  subst h0;refine⟨v,w,?_,by simpa using aa,World.grownBy.refl w _,.inl rfl⟩;have ht:=T.ht;rcases aa.2 with⟨rfl,rfl⟩|⟨g,cap,cur,rfl,_,_,yj,_⟩
  ·simp[Builtin.append_,run_underlying ht,sizeOf,typeInfo,hi,Builtin.lenOf,Builtin.firstCells]
  ·simp[Builtin.append_,run_underlying ht,sizeOf,typeInfo,hi,Builtin.lenOf,Builtin.firstCells,yj,storeCells]
 |some ad=>
  obtain⟨v',w',hrun,h2,h3,_,h5⟩:=run_append_own_at (P:=P) w base t ty e i z size bytes T.ht hi hz hs hb fe T.hsz v n xs aa ad ys.length c (ys.flatMap f) dQ (fun j u hj=>by
   obtain⟨k,x,q,h1,h2,h3⟩:=zhA f size ag ys j u hj;have hk:k<ys.length:=(List.getElem?_eq_some_iff.1 h1).1;obtain⟨b,off,hA,_,hc⟩:=hS (by omega);have we:ad=⟨b,off,none⟩:=by simpa using hA
   subst we;exact sl_flat ag hc j u hj) (fun u hu=>by
   obtain⟨x,_,hx⟩:=List.mem_flatMap.1 hu
   exact aP x u hx) fQ bf aN
  exact⟨v',w',hrun,h2,h3,h5⟩
theorem zlb{o:Oper}{a:Act}{K:Act->World->Prop}{Q:Exit->Act->World->Prop}(s x:Operand)(ho:o.op=.call {callee:=.builtin .append,args:= #[s,x],argTypes:= #[t,t]})
 (T:ElTy P t e size bytes)(ag:∀x,(f x).length=size)(aP:∀x,∀u∈f x,u.oneCell'=true){w:World}{base n m c:Nat}{v:Value}{xs:List Value}(hs:a.eval s=v)(aa:w.ownsRow base e size v n xs)
 {A:Option Addr}{ys:List α}(hx:a.eval x=.slice A m c)(hm:m=ys.length)(hS:Sl w size f A ys)(fQ:n+m<=maxLen)(bf:(n+m)*bytes<=140737488355328)(aN:base<=w.heap.size)
 (h:∀v' w',w'.ownsRow base e size v' (n+m) (xs++ys.flatMap f)->w.grownBy w' v.ownBlock->(v'.ownBlock=v.ownBlock\/v'.ownBlock=some w.heap.size)->K (a.put o.dst v') w'):o.wp P a w K Q:=by
 obtain⟨v',w',hrun,h2,h3,h4⟩:=zgd (ty:=o.type) (c:=c) T ag aP aa hm hS fQ bf aN;unfold Oper.wp execOp;simp only[ho,resolve,invoke,builtin,Sem.run_bind,Sem.run_pure,Result.andThen_ok,List.map_toArray,List.map_cons,List.map_nil,hs,hx,hrun];exact h v' w' h2 h3 h4
theorem zeT{ops:Array Oper}{rest:List Oper}{o:Oper}{a:Act}{Q:Exit->Act->World->Prop}(bG:o.guard=none)(s x:Operand)(ho:o.op=.call {callee:=.builtin .append,args:= #[s,x],argTypes:= #[t,t]})
 (T:ElTy P t e size bytes)(ag:∀x,(f x).length=size)(aP:∀x,∀u∈f x,u.oneCell'=true){w:World}{base n m c:Nat}{v:Value}{xs:List Value}(hs:a.eval s=v)(aa:w.ownsRow base e size v n xs)
 {A:Option Addr}{ys:List α}(hx:a.eval x=.slice A m c)(hm:m=ys.length)(hS:Sl w size f A ys)(fQ:n+m<=maxLen)(bf:(n+m)*bytes<=140737488355328)(aN:base<=w.heap.size)
 (h:∀v' w',w'.ownsRow base e size v' (n+m) (xs++ys.flatMap f)->w.grownBy w' v.ownBlock->(v'.ownBlock=v.ownBlock\/v'.ownBlock=some w.heap.size)->wpList P ops Q rest (a.put o.dst v') w'):wpList P ops Q (o::rest) a w:=
 wpList_plain bG fun _ hK=>zlb s x ho T ag aP hs aa hx hm hS fQ bf aN fun v' w' h2 h3 h4=>hK _ _ (h v' w' h2 h3 h4)
end
theorem zdA{P:Program}{t e:TypeId}{size bytes:Nat}{z:Value}(ht:P.underlying t=some (.slice e))(h:(P.info? e).map (fun i=>(i.zero,i.size,i.bytes))=some (some z,size,bytes))(hz:z.cells.size=size)(hsz:0<size):ElTy P t e size bytes:=by
 obtain⟨i,h1,h2,h3,h4⟩:=info_parts h;exact⟨ht,⟨i,z,h1,h2,h3,h4,hz⟩,hsz⟩
