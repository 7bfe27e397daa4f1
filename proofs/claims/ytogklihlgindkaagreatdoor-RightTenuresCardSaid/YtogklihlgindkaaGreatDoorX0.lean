import Derived.Test.YtogklihlgindkaaGreatDoorM0
import Derived.RangeFuncNested
import Derived.RangeFuncBound
import Derived.Shelf.RegionOpen
import Derived.OwnWalkIn
import Derived.LoopNIn
import Derived.LoopIn
import Derived.Test.YtogklihlgindkaaGreatDoorK0
import Derived.Lib.SmallJoins
import Derived.Deep.AppendLies
set_option linter.all false
set_option maxRecDepth 100000
set_option maxHeartbeats 4000000
namespace Go.Proofs.YtogklihlgindkaaGreatDoor
open Go.RowKit
attribute [local go_sem] World.cell?_alloc_mark zaf za3 zam za6 zat zau zav zaw zax zay zaz
attribute [local go_sem] Oper.semAt_some
section
open Go.Shelf
structure Bk where
 A:Option Addr
 n:Nat
 c:Nat
 R:Option Addr
 rn:Nat
 rc:Nat
 c0:Int
 c1:Int
 c2:Int
 st:List Stay
 m:List (ByteArray×Int)
 day:Int
def zeU{α:Type}(f:α->List Value)(s:Nat)(ag:∀x,(f x).length=s):∀(xs:List α) (k:Nat) (x:α),xs[k]?=some x->∀j u,(f x)[j]?=some u->(xs.flatMap f)[k*s+j]?=some u
 | [],_,_,h,_,_,_=>by simp at h
 |y::xs,0,x,h,j,u,hu=>by
  have hj:j<s:=by have:=(List.getElem?_eq_some_iff.1 hu).1;rw[ag]at this;exact this
  simp at h;subst h;rw[List.flatMap_cons,List.getElem?_append_left (by rw[ag];omega)];simpa using hu
 |y::xs,k+1,x,h,j,u,hu=>by
  rw[List.flatMap_cons,List.getElem?_append_right (by rw[ag,Nat.succ_mul];omega),ag,show(k+1)*s+j-s=k*s+j from by rw[Nat.succ_mul];omega];exact zeU f s ag xs k x (by simpa using h) j u hu
end
variable{b:Nat}
def zab{W:World}{o:Obj}(hb:W.heap[b]?=some o):b<W.heap.size:=(Array.getElem?_eq_some_iff.1 hb).1
def za1(w:World)(b i:Nat)(u:Value):w.grownBy (w.setCell ⟨b,i,none⟩ u) (some b):=
 ⟨rfl,rfl,rfl,by simp,λk _ hk=>heap_setCell_other w ⟨b,i,none⟩ k u (λe=>hk (by simp[e]))⟩
structure ElTy (P:Program) (t e:TypeId) (size bytes:Nat):Prop where
 ht:P.underlying t=some (.slice e)
 hi:∃i z,P.info? e=some i/\i.zero=some z/\i.size=size/\i.bytes=bytes/\z.cells.size=size
 hsz:0<size
def zhH{α:Type}(f:α->List Value)(s:Nat)(ag:∀x,(f x).length=s):∀(xs:List α) (j:Nat) (u:Value),(xs.flatMap f)[j]?=some u->∃k x i,xs[k]?=some x/\(f x)[i]?=some u/\j=k*s+i
 | [],j,u,h=>by simp at h
 |y::xs,j,u,h=>by
  rw[List.flatMap_cons]at h;by_cases hj:j<s
  ·rw[List.getElem?_append_left (by rw[ag];exact hj)]at h;exact⟨0,y,j,rfl,h,by omega⟩
  ·rw[List.getElem?_append_right (by rw[ag];omega),ag]at h;obtain⟨k,x,i,h1,h2,h3⟩:=zhH f s ag xs (j-s) u h;exact⟨k+1,x,i,by simpa using h1,h2,by rw[Nat.succ_mul];omega⟩
def ze2{α:Type}(f:α->List Value)(s:Nat)(ag:∀x,(f x).length=s):∀xs:List α,(xs.flatMap f).length=xs.length*s
 | []=>by simp
 |y::xs=>by rw[List.flatMap_cons,List.length_append,ag,ze2 f s ag xs,List.length_cons,Nat.succ_mul,Nat.add_comm]
variable{size:Nat}
def sl_flat{α:Type}{f:α->List Value}(ag:∀x,(f x).length=size){w:World}{off:Nat}{ys:List α}(hc:∀k (x:α),ys[k]?=some x->∀j u,(f x)[j]?=some u->w.cell? ⟨b,off+k*size+j,none⟩=some u):
 ∀j u,(ys.flatMap f)[j]?=some u->w.cell? ((⟨b,off,none⟩:Addr).add j)=some u:=λj u hj=>by
 obtain⟨k,x,q,h1,h2,h3⟩:=zhH f size ag ys j u hj;have:=hc k x h1 q u h2;rw[h3];have e1:(⟨b,off,none⟩:Addr).add (k*size+q)=⟨b,off+k*size+q,none⟩:=by
  unfold Addr.add;split
  ·rename_i h0
   rw[show off+k*size+q=off by omega]
  ·simp only[Addr.mk.injEq,and_true,true_and];omega
 rw[e1];exact this
section
variable {P:Program} {α:Type} {f:α->List Value} {t e:TypeId} {size bytes:Nat}
def zgh(T:ElTy P t e size bytes)(ag:∀x,(f x).length=size)(aU:∀x,∀u∈f x,u.oneCell'=true){w:World}{base ty n m c:Nat}{v:Value}{xs:List Value}(aa:w.ownsRow base e size v n xs)
 {A:Option Addr}{ys:List α}(hm:m=ys.length)(hS:Sl w size f A ys)(fI:n+m<=maxLen)(aD:(n+m)*bytes<=140737488355328)(aC:base<=w.heap.size):
 ∃v' w',(Builtin.append_ #[t,t] ty #[v,.slice A m c]).run P w=.ok v' w'/\w'.ownsRow base e size v' (n+m) (xs++ys.flatMap f)/\w.grownBy w' v.ownBlock/\(v'.ownBlock=v.ownBlock\/v'.ownBlock=some w.heap.size):=by
 subst hm;obtain⟨i,z,hi,hz,hs,hb,eI⟩:=T.hi;have dZ:=ze2 f size ag ys;cases A with
 |none=>
  have h0:ys=[]:=by
   cases ys with
   |nil=>rfl
   |cons y ys=>obtain⟨b,off,h,_⟩:=hS (by simp);cases h
  subst h0;refine⟨v,w,?_,by simpa using aa,World.grownBy.refl w _,.inl rfl⟩;have ht:=T.ht;rcases aa.2 with⟨rfl,rfl⟩|⟨g,cap,cur,rfl,_,_,yx,_⟩
  ·simp[Builtin.append_,run_underlying ht,sizeOf,typeInfo,hi,Builtin.lenOf,Builtin.firstCells]
  ·simp[Builtin.append_,run_underlying ht,sizeOf,typeInfo,hi,Builtin.lenOf,Builtin.firstCells,yx,storeCells]
 |some ad=>
  obtain⟨v',w',hrun,h2,h3,_,h5⟩:=run_append_own_at (P:=P) w base t ty e i z size bytes T.ht hi hz hs hb eI T.hsz v n xs aa ad ys.length c (ys.flatMap f) dZ (λj u hj=>by
   obtain⟨k,x,q,h1,h2,h3⟩:=zhH f size ag ys j u hj;have hk:k<ys.length:=(List.getElem?_eq_some_iff.1 h1).1;obtain⟨b,off,hA,_,hc⟩:=hS (by omega);have rP:ad=⟨b,off,none⟩:=by simpa using hA
   subst rP;exact sl_flat ag hc j u hj) (λu hu=>by
   obtain⟨x,_,hx⟩:=List.mem_flatMap.1 hu
   exact aU x u hx) fI aD aC
  exact⟨v',w',hrun,h2,h3,h5⟩
def zlo{o:Oper}{a:Act}{K:Act->World->Prop}{Q:Exit->Act->World->Prop}(s x:Operand)(ho:o.op=.call {callee:=.builtin .append,args:= #[s,x],argTypes:= #[t,t]})
 (T:ElTy P t e size bytes)(ag:∀x,(f x).length=size)(aU:∀x,∀u∈f x,u.oneCell'=true){w:World}{base n m c:Nat}{v:Value}{xs:List Value}(hs:a.eval s=v)(aa:w.ownsRow base e size v n xs)
 {A:Option Addr}{ys:List α}(hx:a.eval x=.slice A m c)(hm:m=ys.length)(hS:Sl w size f A ys)(fI:n+m<=maxLen)(aD:(n+m)*bytes<=140737488355328)(aC:base<=w.heap.size)
 (h:∀v' w',w'.ownsRow base e size v' (n+m) (xs++ys.flatMap f)->w.grownBy w' v.ownBlock->(v'.ownBlock=v.ownBlock\/v'.ownBlock=some w.heap.size)->K (a.put o.dst v') w'):o.wp P a w K Q:=by
 obtain⟨v',w',hrun,h2,h3,h4⟩:=zgh (ty:=o.type) (c:=c) T ag aU aa hm hS fI aD aC;unfold Oper.wp execOp;simp only[ho,resolve,invoke,builtin,Sem.run_bind,Sem.run_pure,Result.andThen_ok,List.map_toArray,List.map_cons,List.map_nil,hs,hx,hrun];exact h v' w' h2 h3 h4
def zeP{ops:Array Oper}{rest:List Oper}{o:Oper}{a:Act}{Q:Exit->Act->World->Prop}(bB:o.guard=none)(s x:Operand)(ho:o.op=.call {callee:=.builtin .append,args:= #[s,x],argTypes:= #[t,t]})
 (T:ElTy P t e size bytes)(ag:∀x,(f x).length=size)(aU:∀x,∀u∈f x,u.oneCell'=true){w:World}{base n m c:Nat}{v:Value}{xs:List Value}(hs:a.eval s=v)(aa:w.ownsRow base e size v n xs)
 {A:Option Addr}{ys:List α}(hx:a.eval x=.slice A m c)(hm:m=ys.length)(hS:Sl w size f A ys)(fI:n+m<=maxLen)(aD:(n+m)*bytes<=140737488355328)(aC:base<=w.heap.size)
 (h:∀v' w',w'.ownsRow base e size v' (n+m) (xs++ys.flatMap f)->w.grownBy w' v.ownBlock->(v'.ownBlock=v.ownBlock\/v'.ownBlock=some w.heap.size)->wpList P ops Q rest (a.put o.dst v') w'):wpList P ops Q (o::rest) a w:=
 wpList_plain bB λ_ hK=>zlo s x ho T ag aU hs aa hx hm hS fI aD aC λv' w' h2 h3 h4=>hK _ _ (h v' w' h2 h3 h4)
end
def zdm{P:Program}{t e:TypeId}{bytes:Nat}{z:Value}(ht:P.underlying t=some (.slice e))(h:(P.info? e).map (λi=>(i.zero,i.size,i.bytes))=some (some z,size,bytes))(hz:z.cells.size=size)(hsz:0<size):ElTy P t e size bytes:=by
 obtain⟨i,h1,h2,h3,h4⟩:=info_parts h;exact⟨ht,⟨i,z,h1,h2,h3,h4,hz⟩,hsz⟩
