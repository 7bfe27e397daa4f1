/- Maps that the program makes: laws on look-up and store, for keys that are strings or structs of two ints. -/
import Derived.Test.YtmfbdfejhdkiaaaGreatDoorProg
import Derived.Test.YtmfbdfejhdkiaaaGreatDoorK0
import Derived.Test.YtmfbdfejhdkiaaaGreatDoorS0
set_option linter.all false
set_option maxRecDepth 100000
set_option maxHeartbeats 4000000
namespace Go.Proofs.YtmfbdfejhdkiaaaGreatDoor
open Go.RowKit
def locate{K V:Type}(eq:K->K->Bool)(k:K):List (K×V)->Nat->Option (Nat×V)
 | [],_=>none
 |p::l,i=>if eq k p.1 then some (i,p.2)else locate eq k l (i+1)
theorem zgW{K V:Type}(eq:K->K->Bool)(k:K):∀(m:List (K×V)) (i:Nat),(locate eq k m i).map (·.2)=mget eq k m
 | [],_=>rfl
 |p::l,i=>by unfold locate mget;split<;>simp[zgW eq k l]
structure MapTy (P:Program) (t kt et:TypeId) {K V:Type} (ek:K->Value) (ev:V->Value) (z:V) (eq:K->K->Bool):Prop where
 ht:P.underlying t=some (.map kt et)
 hz:∀w,(zeroValue et).run P w=.ok (ev z) w
 hck:∀empty k w,(Instr.checkKey empty 10000 kt (ek k)).run P w=.ok () w
 hfind:∀k (es:List MapEntry) (m:List (K×V)),es.map (fun e=>(e.key,e.val))=m.map (fun p=>(ek p.1,ev p.2))->∀w,(Instr.findKey kt (ek k) es).run P w=.ok ((locate eq k m 0).map fun p=>(p.1,ev p.2)) w
 hsame:∀k k',eq k k'=true->Instr.sameBits 10000 (ek k') (ek k)=true
def MapAt(w:World)(b:Nat){K V:Type}(ek:K->Value)(ev:V->Value)(m:List (K×V)):Prop:=
 ∃(es:Array MapEntry) (clock:Nat),w.heap[b]?=some (.map es clock)/\es.toList.map (fun e=>(e.key,e.val))=m.map (fun p=>(ek p.1,ev p.2))
section
variable {P:Program} {t kt et:TypeId} {K V:Type} {ek:K->Value} {ev:V->Value} {z:V} {eq:K->K->Bool} {w:World} {b:Nat} {m:List (K×V)}
theorem MapAt.lt(h:MapAt w b ek ev m):b<w.heap.size:=by
 obtain⟨es,c,h,_⟩:=h;exact(Array.getElem?_eq_some_iff.1 h).1
theorem zbX{r:Nat}{es:Array MapEntry}{c:Nat}(h:w.heap[r]?=some (.map es c)):(getObj r).run P w=.ok (.map es c) w:=by
 simp[getObj,Sem.run,h]
theorem zcp(T:MapTy P t kt et ek ev z eq)(h:MapAt w b ek ev m)(k:K):
 (Instr.lookup t (.map (some b)) (ek k) false).run P w=.ok (ev ((mget eq k m).getD z)) w:=by
 obtain⟨es,c,hh,hm⟩:=h;have h1:=T.hfind k es.toList m hm w;simp[Instr.lookup,run_underlying T.ht,zbX hh,T.hck,h1,<-zgW eq k m 0];cases locate eq k m 0<;>simp[T.hz]
theorem zka(T:MapTy P t kt et ek ev z eq)(h:MapAt w b ek ev m)(k:K):
 (Instr.lookup t (.map (some b)) (ek k) true).run P w=.ok (.tuple #[ev ((mget eq k m).getD z),.bool (mget eq k m).isSome]) w:=by
 obtain⟨es,c,hh,hm⟩:=h;have h1:=T.hfind k es.toList m hm w;simp[Instr.lookup,run_underlying T.ht,zbX hh,T.hck,h1,<-zgW eq k m 0];cases locate eq k m 0<;>simp[T.hz]
theorem zfU{k:K}:∀ {m:List (K×V)} {i j:Nat} {v:V},locate eq k m i=some (j,v)->i<=j/\∃p,m[j-i]?=some p/\eq k p.1=true/\∀v',mput eq k v' m=m.set (j-i) (k,v')
 | [],_,_,_,h=>by cases h
 |p::l,i,j,v,h=>by
  unfold locate at h;split at h
  ·rename_i he
   simp only[Option.some.injEq,Prod.mk.injEq]at h;obtain⟨rfl,rfl⟩:=h;exact⟨Qc,p,by simp,he,fun v'=>by simp[mput,he]⟩
  ·rename_i he
   obtain⟨h1,q,h2,h3,h4⟩:=zfU h;have e:j-i=(j-(i+1))+1:=by omega
   refine⟨by omega,q,?_,h3,fun v'=>?_⟩
   ·rw[e];simpa using h2
   ·rw[e,mput,if_neg he,h4 v'];rfl
theorem zfV{k:K}:∀ {m:List (K×V)} {i:Nat},locate eq k m i=none->∀v',mput eq k v' m=m++[(k,v')]
 | [],_,_,_=>rfl
 |p::l,i,h,v'=>by
  unfold locate at h;split at h
  ·cases h
  ·rename_i he
   rw[mput,if_neg he,zfV h v'];rfl
theorem zel{ops:Array Oper}{rest:List Oper}{o:Oper}{a:Act}{Q:Exit->Act->World->Prop}{T:TypeId}
 (hg:o.guard=none)(x i u:Operand)(ho:o.op=.mapUpdate T x i u)(vx vi vu:Value)(hx:a.eval x=vx)(hi:a.eval i=vi)(hu:a.eval u=vu)(w':World)(hrun:(Instr.mapUpdate T vx vi vu).run P w=.ok () w')
 (hK:wpList P ops Q rest (a.put o.dst undef) w'):wpList P ops Q (o::rest) a w:=by
 refine wpList_plain hg fun K' Kk=>?_
 unfold Oper.wp;simp[execOp,ho,hx,hi,hu,hrun,Result.andThen];exact Kk _ _ hK
end
/-! ### the two maps of the program -/
def ekS(s:ByteArray):Value:=.string s
def eqS(a b:ByteArray):Bool:=a.toList==b.toList
def evB(b:Bool):Value:=.bool b
theorem zjw(n:Nat)(a b:ByteArray):Instr.sameBits n (.string a) (.string b)=(a==b):=by cases n<;>rfl
theorem zok(e:Bool)(s:ByteArray)(w:World):(Instr.checkKey e 10000 9 (ekS s)).run Tryz.prog w=.ok () w:=by
 have h:∀n,(Instr.checkKey e (n+1) 9 (ekS s)).run Tryz.prog w=.ok () w:=fun n=>by simp[Instr.checkKey,ekS,run_underlying Tryz.underlying9]
 exact h 9999
