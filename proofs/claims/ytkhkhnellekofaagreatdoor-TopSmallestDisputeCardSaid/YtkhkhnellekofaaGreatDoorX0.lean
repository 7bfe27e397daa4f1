/- Names are names for the program just when they are for the reference. -/
import Derived.Test.YtkhkhnellekofaaGreatDoorProg
import Derived.Test.YtkhkhnellekofaaGreatDoorK0
import Derived.Test.YtkhkhnellekofaaGreatDoorN1
import Derived.Maps.OwnOps
import Derived.RangeFuncNested
import Derived.RangeFuncBound
import Derived.RangeFuncCalls
import Derived.RangeFuncLeaves
import Derived.Shelf.Abstract
import Derived.Shelf.RegionOpen
import Derived.OwnWalkIn
import Derived.TacticsInMore
import Derived.LoopNIn
import Derived.LoopIn
import Derived.Lib.SmallJoins
import Derived.Deep.AppendLies
import Derived.Maps.AppendAt
import Derived.RegionTactic
import Derived.StillTail
import Derived.Laws.Strings
set_option linter.unusedSimpArgs false
set_option linter.unusedVariables false
namespace Go.Proofs.YtkhkhnellekofaaGreatDoor
open Go.RowKit
def locate {K V:Type} (eq:K->K->Bool) (k:K):List (K×V)->Nat->Option (Nat×V)
 | [],_=>none
 |p::l,i=>if eq k p.1 then some (i,p.2)else locate eq k l (i+1)
theorem locate_get {K V:Type} (eq:K->K->Bool) (k:K): ∀(m:List (K×V)) (i:Nat),(locate eq k m i).map (·.2)=mget eq k m
 | [],_=>rfl
 |p::l,i=>by unfold locate mget;split<;>simp[locate_get eq k l]
structure MapTy (P:Program) (t kt et:TypeId) {K V:Type} (ek:K->Value) (ev:V->Value) (z:V) (eq:K->K->Bool):Prop where
 ht:P.underlying t=some (.map kt et)
 hz: ∀w,(zeroValue et).run P w= .ok (ev z) w
 hck: ∀empty k w,(Instr.checkKey empty 10000 kt (ek k)).run P w= .ok () w
 hfind: ∀k (es:List MapEntry) (m:List (K×V)),es.map (fun e=>(e.key,e.val))=m.map (fun p=>(ek p.1,ev p.2))-> ∀w,(Instr.findKey kt (ek k) es).run P w= .ok ((locate eq k m 0).map fun p=>(p.1,ev p.2)) w
 hsame: ∀k k',eq k k'=true->Instr.sameBits 10000 (ek k') (ek k)=true
def MapAt (w:World) (b:Nat) {K V:Type} (ek:K->Value) (ev:V->Value) (m:List (K×V)):Prop:=
 ∃(es:Array MapEntry) (clock:Nat),w.heap[b]?=some (.map es clock)/\es.toList.map (fun e=>(e.key,e.val))=m.map (fun p=>(ek p.1,ev p.2))
section
variable {P:Program} {t kt et:TypeId} {K V:Type} {ek:K->Value} {ev:V->Value} {z:V} {eq:K->K->Bool} {w:World} {b:Nat} {m:List (K×V)}
theorem MapAt.lt (h:MapAt w b ek ev m):b<w.heap.size:=by
 obtain⟨es,c,h,_⟩:=h
 exact(Array.getElem?_eq_some_iff.1 h).1
theorem run_getObj_map {r:Nat} {es:Array MapEntry} {c:Nat} (h:w.heap[r]?=some (.map es c)):(getObj r).run P w= .ok (.map es c) w:=by
 simp[getObj,Sem.run,h]
theorem run_lookup (T:MapTy P t kt et ek ev z eq) (h:MapAt w b ek ev m) (k:K):
 (Instr.lookup t (.map (some b)) (ek k) false).run P w= .ok (ev ((mget eq k m).getD z)) w:=by
 obtain⟨es,c,hh,hm⟩:=h
 have h1:=T.hfind k es.toList m hm w
 simp[Instr.lookup,run_underlying T.ht,run_getObj_map hh,T.hck,h1,<-locate_get eq k m 0]
 cases locate eq k m 0<;>simp[T.hz]
theorem run_lookup_ok (T:MapTy P t kt et ek ev z eq) (h:MapAt w b ek ev m) (k:K):
 (Instr.lookup t (.map (some b)) (ek k) true).run P w= .ok (.tuple #[ev ((mget eq k m).getD z), .bool (mget eq k m).isSome]) w:=by
 obtain⟨es,c,hh,hm⟩:=h
 have h1:=T.hfind k es.toList m hm w
 simp[Instr.lookup,run_underlying T.ht,run_getObj_map hh,T.hck,h1,<-locate_get eq k m 0]
 cases locate eq k m 0<;>simp[T.hz]
theorem locate_some {k:K}: ∀ {m:List (K×V)} {i j:Nat} {v:V},locate eq k m i=some (j,v)->i<=j/\ ∃p,m[j-i]?=some p/\eq k p.1=true/\ ∀v',mput eq k v' m=m.set (j-i) (k,v')
 | [],_,_,_,h=>by cases h
 |p::l,i,j,v,h=>by
  unfold locate at h
  split at h
  ·rename_i he
   simp only[Option.some.injEq,Prod.mk.injEq]at h
   obtain⟨rfl,rfl⟩:=h
   exact⟨Nat.le_refl _,p,by simp,he,fun v'=>by simp[mput,he]⟩
  ·rename_i he
   obtain⟨h1,q,h2,h3,h4⟩:=locate_some h
   have e:j-i=(j-(i+1))+1:=by omega
   refine⟨by omega,q,?_,h3,fun v'=> ?_⟩
   ·rw[e];simpa using h2
   ·rw[e,mput,if_neg he,h4 v'];rfl
theorem locate_none {k:K}: ∀ {m:List (K×V)} {i:Nat},locate eq k m i=none-> ∀v',mput eq k v' m=m++[(k,v')]
 | [],_,_,_=>rfl
 |p::l,i,h,v'=>by
  unfold locate at h
  split at h
  ·cases h
  ·rename_i he
   rw[mput,if_neg he,locate_none h v'];rfl
theorem wpList_update_run {ops:Array Oper} {rest:List Oper} {o:Oper} {a:Act} {Q:Exit->Act->World->Prop} {T:TypeId}
 (hg:o.guard=none) (x i u:Operand) (ho:o.op= .mapUpdate T x i u) (vx vi vu:Value) (hx:a.eval x=vx) (hi:a.eval i=vi) (hu:a.eval u=vu) (w':World) (hrun:(Instr.mapUpdate T vx vi vu).run P w= .ok () w')
 (hK:wpList P ops Q rest (a.put o.dst undef) w'):wpList P ops Q (o::rest) a w:=by
 refine wpList_plain hg fun K' hK'=> ?_
 unfold Oper.wp
 simp[execOp,ho,hx,hi,hu,hrun,Result.andThen]
 exact hK' _ _ hK
end
/-! ### the two maps of the program -/
def ekS (s:ByteArray):Value:= .string s
def evI (n:Int):Value:= .int .i64 n
def eqS (a b:ByteArray):Bool:=a.toList==b.toList
def evB (b:Bool):Value:= .bool b
theorem sameBits_s (n:Nat) (a b:ByteArray):Instr.sameBits n (.string a) (.string b)=(a==b):=by cases n<;>rfl
theorem checkKey_s (e:Bool) (s:ByteArray) (w:World):(Instr.checkKey e 10000 9 (ekS s)).run Tryz.prog w= .ok () w:=by
 have h: ∀n,(Instr.checkKey e (n+1) 9 (ekS s)).run Tryz.prog w= .ok () w:=fun n=>by simp[Instr.checkKey,ekS,run_underlying Tryz.underlying9]
 exact h 9999
end Go.Proofs.YtkhkhnellekofaaGreatDoor
namespace Go.Proofs.YtkhkhnellekofaaGreatDoor
open Go.RowKit
variable {F:Fence} {n:Nat} {P:Program}
end Go.Proofs.YtkhkhnellekofaaGreatDoor
namespace Go.Proofs.YtkhkhnellekofaaGreatDoor
open Go.RowKit Go.Shelf
attribute [local go_sem] World.cell?_alloc_mark ext_size ext_cell ext_frozen lt_add_r lt_add_r2 lt_add_r3 lt_add_r4 lt_add_r5 lt_add_r6 lt_add_r7 lt_add_r8
attribute [local go_sem] Oper.semAt_some
structure Bk where
 A:Option Addr
 n:Nat
 c:Nat
 R:Option Addr
 rn:Nat
 rc:Nat
 c0:Int
 c1:Int
 c2:Int
 st:List Stay
 m:List (ByteArray×Int)
 day:Int
theorem flat_at {α:Type} (f:α->List Value) (s:Nat) (hlen: ∀x,(f x).length=s): ∀(xs:List α) (k:Nat) (x:α),xs[k]?=some x-> ∀j u,(f x)[j]?=some u->(xs.flatMap f)[k*s+j]?=some u
 | [],_,_,h,_,_,_=>by simp at h
 |y::xs,0,x,h,j,u,hu=>by
  have hj:j<s:=by have:=(List.getElem?_eq_some_iff.1 hu).1;rw[hlen]at this;exact this
  simp at h
  subst h
  rw[List.flatMap_cons,List.getElem?_append_left (by rw[hlen];omega)]
  simpa using hu
 |y::xs,k+1,x,h,j,u,hu=>by
  rw[List.flatMap_cons,List.getElem?_append_right (by rw[hlen,Nat.succ_mul];omega),hlen,show(k+1)*s+j-s=k*s+j from by rw[Nat.succ_mul];omega]
  exact flat_at f s hlen xs k x (by simpa using h) j u hu
end Go.Proofs.YtkhkhnellekofaaGreatDoor
namespace Go.Proofs.YtkhkhnellekofaaGreatDoor
open Go.RowKit
theorem blk_lt {W:World} {b:Nat} {o:Obj} (hb:W.heap[b]?=some o):b<W.heap.size:=(Array.getElem?_eq_some_iff.1 hb).1
theorem grown_set (w:World) (b i:Nat) (u:Value):w.grownBy (w.setCell ⟨b,i,none⟩ u) (some b):=
 ⟨rfl,rfl,rfl,by simp,fun k _ hk=>heap_setCell_other w ⟨b,i,none⟩ k u (fun e=>hk (by simp[e]))⟩
end Go.Proofs.YtkhkhnellekofaaGreatDoor
namespace Go.Proofs.YtkhkhnellekofaaGreatDoor
open Go.RowKit
structure ElTy (P:Program) (t e:TypeId) (size bytes:Nat):Prop where
 ht:P.underlying t=some (.slice e)
 hi: ∃i z,P.info? e=some i/\i.zero=some z/\i.size=size/\i.bytes=bytes/\z.cells.size=size
 hsz:0<size
theorem flat_inv {α:Type} (f:α->List Value) (s:Nat) (hlen: ∀x,(f x).length=s): ∀(xs:List α) (j:Nat) (u:Value),(xs.flatMap f)[j]?=some u-> ∃k x i,xs[k]?=some x/\(f x)[i]?=some u/\j=k*s+i
 | [],j,u,h=>by simp at h
 |y::xs,j,u,h=>by
  rw[List.flatMap_cons]at h
  by_cases hj:j<s
  ·rw[List.getElem?_append_left (by rw[hlen];exact hj)]at h
   exact⟨0,y,j,rfl,h,by omega⟩
  ·rw[List.getElem?_append_right (by rw[hlen];omega),hlen]at h
   obtain⟨k,x,i,h1,h2,h3⟩:=flat_inv f s hlen xs (j-s) u h
   exact⟨k+1,x,i,by simpa using h1,h2,by rw[Nat.succ_mul];omega⟩
theorem flat_len {α:Type} (f:α->List Value) (s:Nat) (hlen: ∀x,(f x).length=s): ∀xs:List α,(xs.flatMap f).length=xs.length*s
 | []=>by simp
 |y::xs=>by rw[List.flatMap_cons,List.length_append,hlen,flat_len f s hlen xs,List.length_cons,Nat.succ_mul,Nat.add_comm]
theorem sl_flat {α:Type} {f:α->List Value} {size:Nat} (hlen: ∀x,(f x).length=size) {w:World} {b off:Nat} {ys:List α} (hc: ∀k (x:α),ys[k]?=some x-> ∀j u,(f x)[j]?=some u->w.cell? ⟨b,off+k*size+j,none⟩=some u):
 ∀j u,(ys.flatMap f)[j]?=some u->w.cell? ((⟨b,off,none⟩:Addr).add j)=some u:=fun j u hj=>by
 obtain⟨k,x,q,h1,h2,h3⟩:=flat_inv f size hlen ys j u hj
 have:=hc k x h1 q u h2
 rw[h3]
 have e1:(⟨b,off,none⟩:Addr).add (k*size+q)=⟨b,off+k*size+q,none⟩:=by
  unfold Addr.add
  split
  ·rename_i h0
   rw[show off+k*size+q=off by omega]
  ·simp only[Addr.mk.injEq,and_true,true_and];omega
 rw[e1];exact this
section
variable {P:Program} {α:Type} {f:α->List Value} {t e:TypeId} {size bytes:Nat}
theorem run_append_sl (T:ElTy P t e size bytes) (hlen: ∀x,(f x).length=size) (hone: ∀x,∀u∈f x,u.oneCell'=true) {w:World} {base ty n m c:Nat} {v:Value} {xs:List Value} (hown:w.ownsRow base e size v n xs)
 {A:Option Addr} {ys:List α} (hm:m=ys.length) (hS:Sl w size f A ys) (h63:n+m<=maxLen) (hbytes:(n+m)*bytes<=140737488355328) (hbase:base<=w.heap.size):
 ∃v' w',(Builtin.append_ #[t,t] ty #[v, .slice A m c]).run P w= .ok v' w'/\w'.ownsRow base e size v' (n+m) (xs++ys.flatMap f)/\w.grownBy w' v.ownBlock/\(v'.ownBlock=v.ownBlock\/v'.ownBlock=some w.heap.size):=by
 subst hm
 obtain⟨i,z,hi,hz,hs,hb,hzs⟩:=T.hi
 have hfl:=flat_len f size hlen ys
 cases A with
 |none=>
  have h0:ys=[]:=by
   cases ys with
   |nil=>rfl
   |cons y ys=>obtain⟨b,off,h,_⟩:=hS (by simp);cases h
  subst h0
  refine⟨v,w,?_,by simpa using hown,World.grownBy.refl w _, .inl rfl⟩
  have ht:=T.ht
  rcases hown.2 with⟨rfl,rfl⟩|⟨g,cap,cur,rfl,_,_,hnc,_⟩
  ·simp[Builtin.append_,run_underlying ht,sizeOf,typeInfo,hi,Builtin.lenOf,Builtin.firstCells]
  ·simp[Builtin.append_,run_underlying ht,sizeOf,typeInfo,hi,Builtin.lenOf,Builtin.firstCells,hnc,storeCells]
 |some ad=>
  obtain⟨v',w',hrun,h2,h3,_,h5⟩:=run_append_own_at (P:=P) w base t ty e i z size bytes T.ht hi hz hs hb hzs T.hsz v n xs hown ad ys.length c (ys.flatMap f) hfl (fun j u hj=>by
   obtain⟨k,x,q,h1,h2,h3⟩:=flat_inv f size hlen ys j u hj
   have hk:k<ys.length:=(List.getElem?_eq_some_iff.1 h1).1
   obtain⟨b,off,hA,_,hc⟩:=hS (by omega)
   have hA':ad=⟨b,off,none⟩:=by simpa using hA
   subst hA'
   exact sl_flat hlen hc j u hj) (fun u hu=>by
   obtain⟨x,_,hx⟩:=List.mem_flatMap.1 hu
   exact hone x u hx) h63 hbytes hbase
  exact⟨v',w',hrun,h2,h3,h5⟩
theorem wp_append_sl {o:Oper} {a:Act} {K:Act->World->Prop} {Q:Exit->Act->World->Prop} (s x:Operand) (ho:o.op= .call {callee:= .builtin .append,args:= #[s,x],argTypes:= #[t,t]})
 (T:ElTy P t e size bytes) (hlen: ∀x,(f x).length=size) (hone: ∀x,∀u∈f x,u.oneCell'=true) {w:World} {base n m c:Nat} {v:Value} {xs:List Value} (hs:a.eval s=v) (hown:w.ownsRow base e size v n xs)
 {A:Option Addr} {ys:List α} (hx:a.eval x= .slice A m c) (hm:m=ys.length) (hS:Sl w size f A ys) (h63:n+m<=maxLen) (hbytes:(n+m)*bytes<=140737488355328) (hbase:base<=w.heap.size)
 (h: ∀v' w',w'.ownsRow base e size v' (n+m) (xs++ys.flatMap f)->w.grownBy w' v.ownBlock->(v'.ownBlock=v.ownBlock\/v'.ownBlock=some w.heap.size)->K (a.put o.dst v') w'):o.wp P a w K Q:=by
 obtain⟨v',w',hrun,h2,h3,h4⟩:=run_append_sl (ty:=o.type) (c:=c) T hlen hone hown hm hS h63 hbytes hbase
 unfold Oper.wp execOp
 simp only[ho,resolve,invoke,builtin,Sem.run_bind,Sem.run_pure,Result.andThen_ok,List.map_toArray,List.map_cons,List.map_nil,hs,hx,hrun]
 exact h v' w' h2 h3 h4
theorem wpList_append_sl {ops:Array Oper} {rest:List Oper} {o:Oper} {a:Act} {Q:Exit->Act->World->Prop} (hgd:o.guard=none) (s x:Operand) (ho:o.op= .call {callee:= .builtin .append,args:= #[s,x],argTypes:= #[t,t]})
 (T:ElTy P t e size bytes) (hlen: ∀x,(f x).length=size) (hone: ∀x,∀u∈f x,u.oneCell'=true) {w:World} {base n m c:Nat} {v:Value} {xs:List Value} (hs:a.eval s=v) (hown:w.ownsRow base e size v n xs)
 {A:Option Addr} {ys:List α} (hx:a.eval x= .slice A m c) (hm:m=ys.length) (hS:Sl w size f A ys) (h63:n+m<=maxLen) (hbytes:(n+m)*bytes<=140737488355328) (hbase:base<=w.heap.size)
 (h: ∀v' w',w'.ownsRow base e size v' (n+m) (xs++ys.flatMap f)->w.grownBy w' v.ownBlock->(v'.ownBlock=v.ownBlock\/v'.ownBlock=some w.heap.size)->wpList P ops Q rest (a.put o.dst v') w'):wpList P ops Q (o::rest) a w:=
 wpList_plain hgd fun _ hK=>wp_append_sl s x ho T hlen hone hs hown hx hm hS h63 hbytes hbase fun v' w' h2 h3 h4=>hK _ _ (h v' w' h2 h3 h4)
end
theorem elTy_of {P:Program} {t e:TypeId} {size bytes:Nat} {z:Value} (ht:P.underlying t=some (.slice e)) (h:(P.info? e).map (fun i=>(i.zero,i.size,i.bytes))=some (some z,size,bytes)) (hz:z.cells.size=size) (hsz:0<size):ElTy P t e size bytes:=by
 obtain⟨i,h1,h2,h3,h4⟩:=info_parts h
 exact⟨ht,⟨i,z,h1,h2,h3,h4,hz⟩,hsz⟩
end Go.Proofs.YtkhkhnellekofaaGreatDoor
namespace Go.Proofs.YtkhkhnellekofaaGreatDoor
section
variable {P:Program} {ops:Array Oper} {md:Region.Mode} {w₀:World}
end
theorem stays (w:World): ∃z',w=w.ext z':=⟨⟨#[],w.drawn⟩,by simp[World.ext]⟩
end Go.Proofs.YtkhkhnellekofaaGreatDoor
namespace Go.Proofs.YtkhkhnellekofaaGreatDoor
open Go.RowKit
set_option maxRecDepth 100000 in
theorem nm5_same: ∀(l:List Int) (i:Nat),nmGo l (i+1)=nmGoR l
 | [],_=>rfl
 |c::l,i=>by
  rw[nmGo,nmGoR,nm5_same l (i+1)]
  have h:(!(letterI c)&&(i+1==0||(c != 45&&(decide (c<48)||decide (57<c)))))=(!letterI c&&!digitI c&&c != 45):=by
   cases letterI c
   ·have h0:(i+1==0)=false:=by simp
    rw[h0]
    by_cases h1:c=45
    ·subst h1;rfl
    ·have h2:(c != 45)=true:=by simpa using h1
     rw[h2,digitI]
     by_cases h3:c<48
     ·have h4: ¬48<=c:=by omega
      simp only[h3,h4,decide_true,decide_false,Bool.not_false,Bool.true_and,Bool.false_or,Bool.true_or,Bool.false_and]
     ·have h4:48<=c:=by omega
      by_cases h5:57<c
      ·have h6: ¬c<=57:=by omega
       simp only[h3,h4,h5,h6,decide_true,decide_false,Bool.not_false,Bool.true_and,Bool.false_or,Bool.true_or,Bool.false_and,Bool.or_true]
      ·have h6:c<=57:=by omega
       simp only[h3,h4,h5,h6,decide_true,decide_false,Bool.not_false,Bool.true_and,Bool.false_or,Bool.true_or,Bool.false_and,Bool.or_true,Bool.or_false,Bool.not_true]
   ·rfl
  rw[h]
theorem empty5_size (s:ByteArray):s.toList.isEmpty=decide ((s.size:Int)<1):=by
 have e:s.toList.length=s.size:=by rw[ByteArray.toList_eq,Array.length_toList];rfl
 generalize s.size=n at*
 cases hl:s.toList with
 |nil=>
  rw[hl]at e
  subst e
  rfl
 |cons a l=>
  rw[hl,List.length_cons]at e
  have h: ¬((n:Int)<1):=by omega
  rw[decide_eq_false h]
  rfl
theorem isName5_same (s:ByteArray):isNameP s=isNameR s:=by
 unfold isNameP isNameR
 rw[empty5_size]
 have hl:=bytesI_len s
 cases hb:bytesI s with
 |nil=>
  rw[hb]at hl
  have h0:(s.size:Int)<1:=by simp at hl;omega
  simp[h0]
 |cons c l=>
  rw[hb]at hl
  have h0: ¬(s.size:Int)<1:=by simp at hl;omega
  have h1:nmGo (c::l) 0=if !letterI c then false else nmGoR l:=by rw[nmGo,nm5_same];simp
  rw[h1]
  simp only[h0,decide_false,Bool.not_false,Bool.true_and,Bool.false_or,List.getD_cons_zero,List.drop_succ_cons,List.drop_zero]
  cases letterI c<;>by_cases h2:(12:Int)<s.size<;>simp[h2]<;>omega
end Go.Proofs.YtkhkhnellekofaaGreatDoor
