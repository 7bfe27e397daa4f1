/- A slice of one's own at whatever place of its block: taken from the front ('q[1:]') and appended to. -/
import Derived.Test.YtmfbdfejhdkiaaaGreatDoorM0
import Derived.Test.YtmfbdfejhdkiaaaGreatDoorR0
import Derived.Lib.SmallJoins
import Derived.Deep.AppendLies
set_option linter.all false
set_option maxRecDepth 100000
set_option maxHeartbeats 4000000
namespace Go.Proofs.YtmfbdfejhdkiaaaGreatDoor
open Go.RowKit
attribute [local go_sem] World.cell?_alloc_mark zae za4 zao za8 zav zaw zax zay zaz za0 za1
attribute [local go_sem] Oper.semAt_some
section
open Go.Shelf
structure Bk where
 A:Option Addr
 n:Nat
 c:Nat
 R:Option Addr
 rn:Nat
 rc:Nat
 c0:Int
 c1:Int
 c2:Int
 st:List Stay
 m:List (ByteArray×Int)
 day:Int
theorem zeW{α:Type}(f:α->List Value)(s:Nat)(ae:∀x,(f x).length=s):∀(xs:List α) (k:Nat) (x:α),xs[k]?=some x->∀j u,(f x)[j]?=some u->(xs.flatMap f)[k*s+j]?=some u
 | [],_,_,h,_,_,_=>by simp at h
 |y::xs,0,x,h,j,u,hu=>by
  have hj:j<s:=by have:=(List.getElem?_eq_some_iff.1 hu).1;rw[ae]at this;exact this
  simp at h;subst h;rw[List.flatMap_cons,List.getElem?_append_left (by rw[ae];omega)];simpa using hu
 |y::xs,k+1,x,h,j,u,hu=>by
  rw[List.flatMap_cons,List.getElem?_append_right (by rw[ae,Nat.succ_mul];omega),ae,show(k+1)*s+j-s=k*s+j from by rw[Nat.succ_mul];omega];exact zeW f s ae xs k x (by simpa using h) j u hu
end
theorem zab{W:World}{b:Nat}{o:Obj}(hb:W.heap[b]?=some o):b<W.heap.size:=(Array.getElem?_eq_some_iff.1 hb).1
theorem za2(w:World)(b i:Nat)(u:Value):w.grownBy (w.setCell ⟨b,i,none⟩ u) (some b):=
 ⟨rfl,rfl,rfl,by simp,fun k _ hk=>heap_setCell_other w ⟨b,i,none⟩ k u (fun e=>hk (by simp[e]))⟩
structure ElTy (P:Program) (t e:TypeId) (size bytes:Nat):Prop where
 ht:P.underlying t=some (.slice e)
 hi:∃i z,P.info? e=some i/\i.zero=some z/\i.size=size/\i.bytes=bytes/\z.cells.size=size
 hsz:0<size
theorem zhD{α:Type}(f:α->List Value)(s:Nat)(ae:∀x,(f x).length=s):∀(xs:List α) (j:Nat) (u:Value),(xs.flatMap f)[j]?=some u->∃k x i,xs[k]?=some x/\(f x)[i]?=some u/\j=k*s+i
 | [],j,u,h=>by simp at h
 |y::xs,j,u,h=>by
  rw[List.flatMap_cons]at h;by_cases hj:j<s
  ·rw[List.getElem?_append_left (by rw[ae];exact hj)]at h;exact⟨0,y,j,rfl,h,by omega⟩
  ·rw[List.getElem?_append_right (by rw[ae];omega),ae]at h;obtain⟨k,x,i,h1,h2,h3⟩:=zhD f s ae xs (j-s) u h;exact⟨k+1,x,i,by simpa using h1,h2,by rw[Nat.succ_mul];omega⟩
theorem zgr{α:Type}(f:α->List Value)(s:Nat)(ae:∀x,(f x).length=s):∀xs:List α,(xs.flatMap f).length=xs.length*s
 | []=>by simp
 |y::xs=>by rw[List.flatMap_cons,List.length_append,ae,zgr f s ae xs,List.length_cons,Nat.succ_mul,Nat.add_comm]
theorem sl_flat{α:Type}{f:α->List Value}{size:Nat}(ae:∀x,(f x).length=size){w:World}{b off:Nat}{ys:List α}(hc:∀k (x:α),ys[k]?=some x->∀j u,(f x)[j]?=some u->w.cell? ⟨b,off+k*size+j,none⟩=some u):
 ∀j u,(ys.flatMap f)[j]?=some u->w.cell? ((⟨b,off,none⟩:Addr).add j)=some u:=fun j u hj=>by
 obtain⟨k,x,q,h1,h2,h3⟩:=zhD f size ae ys j u hj;have:=hc k x h1 q u h2;rw[h3];have e1:(⟨b,off,none⟩:Addr).add (k*size+q)=⟨b,off+k*size+q,none⟩:=by
  unfold Addr.add;split
  ·rename_i h0
   rw[show off+k*size+q=off by omega]
  ·simp only[Addr.mk.injEq,and_true,true_and];omega
 rw[e1];exact this
section
variable {P:Program} {α:Type} {f:α->List Value} {t e:TypeId} {size bytes:Nat}
theorem zgs(T:ElTy P t e size bytes)(ae:∀x,(f x).length=size)(aL:∀x,∀u∈f x,u.oneCell'=true){w:World}{base ty n m c:Nat}{v:Value}{xs:List Value}(ac:w.ownsRow base e size v n xs)
 {A:Option Addr}{ys:List α}(hm:m=ys.length)(hS:Sl w size f A ys)(jO:n+m<=maxLen)(b8:(n+m)*bytes<=140737488355328)(aG:base<=w.heap.size):
 ∃v' w',(Builtin.append_ #[t,t] ty #[v,.slice A m c]).run P w=.ok v' w'/\w'.ownsRow base e size v' (n+m) (xs++ys.flatMap f)/\w.grownBy w' v.ownBlock/\(v'.ownBlock=v.ownBlock\/v'.ownBlock=some w.heap.size):=by
 subst hm;obtain⟨i,z,hi,hz,hs,hb,fm⟩:=T.hi;have f9:=zgr f size ae ys;cases A with
 |none=>
  have h0:ys=[]:=by
   cases ys with
   |nil=>rfl
   |cons y ys=>obtain⟨b,off,h,_⟩:=hS (by simp);cases h
  subst h0;refine⟨v,w,?_,by simpa using ac,World.grownBy.refl w _,.inl rfl⟩;have ht:=T.ht;rcases ac.2 with⟨rfl,rfl⟩|⟨g,cap,cur,rfl,_,_,Er,_⟩
  ·simp[Builtin.append_,run_underlying ht,sizeOf,typeInfo,hi,Builtin.lenOf,Builtin.firstCells]
  ·simp[Builtin.append_,run_underlying ht,sizeOf,typeInfo,hi,Builtin.lenOf,Builtin.firstCells,Er,storeCells]
 |some ad=>
  obtain⟨v',w',hrun,h2,h3,_,h5⟩:=run_append_own_at (P:=P) w base t ty e i z size bytes T.ht hi hz hs hb fm T.hsz v n xs ac ad ys.length c (ys.flatMap f) f9 (fun j u hj=>by
   obtain⟨k,x,q,h1,h2,h3⟩:=zhD f size ae ys j u hj;have hk:k<ys.length:=(List.getElem?_eq_some_iff.1 h1).1;obtain⟨b,off,hA,_,hc⟩:=hS (by omega);have we:ad=⟨b,off,none⟩:=by simpa using hA
   subst we;exact sl_flat ae hc j u hj) (fun u hu=>by
   obtain⟨x,_,hx⟩:=List.mem_flatMap.1 hu
   exact aL x u hx) jO b8 aG
  exact⟨v',w',hrun,h2,h3,h5⟩
theorem zkW{o:Oper}{a:Act}{K:Act->World->Prop}{Q:Exit->Act->World->Prop}(s x:Operand)(ho:o.op=.call {callee:=.builtin .append,args:= #[s,x],argTypes:= #[t,t]})
 (T:ElTy P t e size bytes)(ae:∀x,(f x).length=size)(aL:∀x,∀u∈f x,u.oneCell'=true){w:World}{base n m c:Nat}{v:Value}{xs:List Value}(hs:a.eval s=v)(ac:w.ownsRow base e size v n xs)
 {A:Option Addr}{ys:List α}(hx:a.eval x=.slice A m c)(hm:m=ys.length)(hS:Sl w size f A ys)(jO:n+m<=maxLen)(b8:(n+m)*bytes<=140737488355328)(aG:base<=w.heap.size)
 (h:∀v' w',w'.ownsRow base e size v' (n+m) (xs++ys.flatMap f)->w.grownBy w' v.ownBlock->(v'.ownBlock=v.ownBlock\/v'.ownBlock=some w.heap.size)->K (a.put o.dst v') w'):o.wp P a w K Q:=by
 obtain⟨v',w',hrun,h2,h3,h4⟩:=zgs (ty:=o.type) (c:=c) T ae aL ac hm hS jO b8 aG;unfold Oper.wp execOp;simp only[ho,resolve,invoke,builtin,Sem.run_bind,Sem.run_pure,Result.andThen_ok,List.map_toArray,List.map_cons,List.map_nil,hs,hx,hrun];exact h v' w' h2 h3 h4
theorem zcm{ops:Array Oper}{rest:List Oper}{o:Oper}{a:Act}{Q:Exit->Act->World->Prop}(bL:o.guard=none)(s x:Operand)(ho:o.op=.call {callee:=.builtin .append,args:= #[s,x],argTypes:= #[t,t]})
 (T:ElTy P t e size bytes)(ae:∀x,(f x).length=size)(aL:∀x,∀u∈f x,u.oneCell'=true){w:World}{base n m c:Nat}{v:Value}{xs:List Value}(hs:a.eval s=v)(ac:w.ownsRow base e size v n xs)
 {A:Option Addr}{ys:List α}(hx:a.eval x=.slice A m c)(hm:m=ys.length)(hS:Sl w size f A ys)(jO:n+m<=maxLen)(b8:(n+m)*bytes<=140737488355328)(aG:base<=w.heap.size)
 (h:∀v' w',w'.ownsRow base e size v' (n+m) (xs++ys.flatMap f)->w.grownBy w' v.ownBlock->(v'.ownBlock=v.ownBlock\/v'.ownBlock=some w.heap.size)->wpList P ops Q rest (a.put o.dst v') w'):wpList P ops Q (o::rest) a w:=
 wpList_plain bL fun _ hK=>zkW s x ho T ae aL hs ac hx hm hS jO b8 aG fun v' w' h2 h3 h4=>hK _ _ (h v' w' h2 h3 h4)
end
theorem zdC{P:Program}{t e:TypeId}{size bytes:Nat}{z:Value}(ht:P.underlying t=some (.slice e))(h:(P.info? e).map (fun i=>(i.zero,i.size,i.bytes))=some (some z,size,bytes))(hz:z.cells.size=size)(hsz:0<size):ElTy P t e size bytes:=by
 obtain⟨i,h1,h2,h3,h4⟩:=info_parts h;exact⟨ht,⟨i,z,h1,h2,h3,h4,hz⟩,hsz⟩
def OwnS{α:Type}(W:World)(base:Nat)(e:TypeId)(size:Nat)(f:α->List Value)(v:Value)(xs:List α):Prop:=
 (v=.slice none 0 0/\xs=[])\/∃g o cap cur,v=.slice (some ⟨g,o,none⟩) xs.length cap/\base<=g/\W.heap[g]?=some (.cells cur e (0,0))/\xs.length<=cap/\cap<=maxLen/\o+cap*size<=cur.size/\∀j u,(xs.flatMap f)[j]?=some u->cur[o+j]?=some u
def za6:Value->Option Nat
 | .slice (some a) _ _=>some a.block
 |_=>none
section
variable {α:Type} {W:World} {base:Nat} {e:TypeId} {size:Nat} {f:α->List Value} {v:Value} {xs:List α}
theorem OwnS.nil:OwnS W base e size f (.slice none 0 0) ([]:List α):=.inl ⟨rfl,rfl⟩
theorem OwnS.sl(ae:∀x,(f x).length=size)(h:OwnS W base e size f v xs):∃A c,v=.slice A xs.length c/\Sl W size f A xs/\xs.length<=c:=by
 rcases h with⟨rfl,rfl⟩|⟨g,o,cap,cur,rfl,hb,hg,hc,_,_,hx⟩
 ·exact⟨none,0,rfl,Sl.nil,Qc⟩
 ·refine⟨_,cap,rfl,fun _=>⟨g,o,rfl,(Array.getElem?_eq_some_iff.1 hg).1,fun k x hk j u hu=>?_⟩,hc⟩;have:=hx (k*size+j) u (zeW f size ae xs k x hk j u hu);simp only[World.cell?,hg,Nat.add_assoc];exact this
theorem OwnS.of_own(ae:∀x,(f x).length=size)(h:W.ownsRow base e size v xs.length (xs.flatMap f)):OwnS W base e size f v xs:=by
 rcases h.2 with⟨rfl,h0⟩|⟨g,cap,cur,rfl,hb,hg,hc,hm,hs,ht⟩
 ·exact .inl ⟨rfl,List.eq_nil_of_length_eq_zero h0⟩
 ·refine .inr ⟨g,0,cap,cur,rfl,hb,hg,hc,hm,by omega,fun j u hj=>?_⟩;rw[Nat.zero_add];rw[<-ht,List.getElem?_take]at hj;split at hj
  ·simpa using hj
  ·cases hj
theorem OwnS.grown{w':World}{row:Option Nat}(h:OwnS W base e size f v xs)(hg:W.grownBy w' row)(ag:za6 v=none\/za6 v≠row):OwnS w' base e size f v xs:=by
 rcases h with h|⟨g,o,cap,cur,rfl,hb,hh,rest⟩
 ·exact .inl h
 ·refine .inr ⟨g,o,cap,cur,rfl,hb,?_,rest⟩;rw[hg.block g (Array.getElem?_eq_some_iff.1 hh).1 (by simpa[za6]using ag)];exact hh
theorem OwnS.keep{w':World}{n:Nat}(h:OwnS W base e size f v xs)(hB:Below n W w')(hn:W.heap.size<=n:=by first|exact Qc|omega):OwnS w' base e size f v xs:=by
 rcases h with h|⟨g,o,cap,cur,rfl,hb,hh,rest⟩
 ·exact .inl h
 ·exact .inr ⟨g,o,cap,cur,rfl,hb,(hB.block g (Nat.lt_of_lt_of_le (Array.getElem?_eq_some_iff.1 hh).1 hn)).trans hh,rest⟩
theorem OwnS.ge(h:OwnS W base e size f v xs):∀g,za6 v=some g->base<=g/\g<W.heap.size:=by
 rcases h with⟨rfl,_⟩|⟨g,o,cap,cur,rfl,hb,hh,rest⟩
 ·intro g hg;cases hg
 ·intro k hk;simp only[za6,Option.some.injEq]at hk;subst hk;exact⟨hb,(Array.getElem?_eq_some_iff.1 hh).1⟩
theorem OwnS.tail(ae:∀x,(f x).length=size){x:α}{g o n cap:Nat}(h:OwnS W base e size f (.slice (some ⟨g,o,none⟩) n cap) (x::xs)):n=xs.length+1/\1<=cap/\OwnS W base e size f (.slice (some ⟨g,o+size,none⟩) xs.length (cap-1)) xs/\∀j u,(f x)[j]?=some u->W.cell? ⟨g,o+j,none⟩=some u:=by
 rcases h with⟨h,_⟩|⟨g',o',cap',cur,h,hb,hh,hc,hm,hs,hx⟩
 ·cases h
 ·simp only[Value.slice.injEq,Option.some.injEq,Addr.mk.injEq,and_true]at h;obtain⟨⟨rfl,rfl⟩,rfl,rfl⟩:=h;simp only[List.length_cons]at hc;have h1:1<=cap:=by omega
  refine⟨rfl,h1,.inr ⟨g,o+size,cap-1,cur,rfl,hb,hh,by omega,by omega,?_,fun j u hj=>?_⟩,fun j u hj=>?_⟩
  ·have:cap*size=(cap-1)*size+size:=by rw[<-Nat.succ_mul];congr 1;omega
   omega
  ·have:=hx (size+j) u (by rw[List.flatMap_cons,List.getElem?_append_right (by rw[ae];omega),ae,Nat.add_sub_cancel_left];exact hj);rw[Nat.add_assoc];exact this
  ·have:=hx j u (by rw[List.flatMap_cons,List.getElem?_append_left (List.getElem?_eq_some_iff.1 hj).1];exact hj);simp only[World.cell?,hh];exact this
end
theorem zc3(w:World)(row:Option Nat):w.grownBy w row:=⟨rfl,rfl,rfl,Qc,fun _ _ _=>rfl⟩
theorem zbD(g:Nat):∀(vs:List Value) (o:Nat) (w:World),w.grownBy (w.setCells g o vs) (some g)
 | [],_,w=>zc3 w _
 |v::r,o,w=>zbo (za2 w g o v) (zbD g r (o+1) _)
theorem zfO(g:Nat){e:TypeId}:∀(vs:List Value) (o:Nat) (w:World) (cur:Array Value),w.heap[g]?=some (.cells cur e (0,0))->o+vs.length<=cur.size->
 ∃cur',(w.setCells g o vs).heap[g]?=some (.cells cur' e (0,0))/\cur'.size=cur.size/\(∀j,j<o->cur'[j]?=cur[j]?)/\∀j u,vs[j]?=some u->cur'[o+j]?=some u
 | [],o,w,cur,hg,_=>⟨cur,hg,rfl,fun _ _=>rfl,fun j u h=>by simp at h⟩
 |v::r,o,w,cur,hg,hl=>by
  obtain⟨cur',h1,h2,h3,h4⟩:=zfO g r (o+1) (w.setCell ⟨g,o,none⟩ v) (cur.setIfInBounds o v) (heap_setCell_same w g o cur e v hg) (by simp at hl⊢;omega);refine⟨cur',h1,by simpa using h2,fun j hj=>?_,fun j u hu=>?_⟩
  ·rw[h3 j (by omega),Array.getElem?_setIfInBounds_ne (by omega)]
  ·cases j with
   |zero=>
    simp only[List.getElem?_cons_zero,Option.some.injEq]at hu;subst hu;rw[Nat.add_zero,h3 o (by omega)];exact Array.getElem?_setIfInBounds_self_of_lt (by simp at hl;omega)
   |succ j=>
    have:=h4 j u (by simpa using hu);rw[show o+(j+1)=o+1+j by omega];exact this
section
variable {P:Program} {α:Type} {f:α->List Value} {t e:TypeId} {size bytes:Nat}
theorem zkX(T:ElTy P t e size bytes)(ae:∀x,(f x).length=size)(aL:∀x,∀u∈f x,u.oneCell'=true){w:World}{base ty n m c:Nat}{v:Value}{xs ys:List α}(ac:OwnS w base e size f v xs)(hn:xs.length=n)
 {A:Option Addr}(hm:m=ys.length)(hS:Sl w size f A ys)(jO:n+m<=maxLen)(b8:(n+m)*bytes<=140737488355328)(aG:base<=w.heap.size):
 ∃v' w',(Builtin.append_ #[t,t] ty #[v,.slice A m c]).run P w=.ok v' w'/\OwnS w' base e size f v' (xs++ys)/\w.grownBy w' (za6 v)/\(∀g,za6 v'=some g->za6 v=some g\/w.heap.size<=g):=by
 subst hm hn;have ll:=fun zs:List α=>zgr f size ae zs
 rcases ac with⟨rfl,rfl⟩|⟨g,o,cap,cur,rfl,kw,hg,hc,ky,aQ,hx⟩
 ·obtain⟨v',w',h1,h2,h3,h4⟩:=zgs (P:=P) (ty:=ty) (c:=c) T ae aL (base:=base) (World.ownsRow_nil w base e size) (n:=0) rfl hS (by simpa using jO) (by simpa using b8) aG;refine⟨v',w',h1,OwnS.of_own ae (by simpa using h2),h3,?_⟩;rcases h2.2 with⟨rfl,_⟩|⟨g,cap,cur,rfl,_⟩
  ·intro g hg;cases hg
  ·intro k hk;rcases h4 with h4|h4
   ·cases h4
   ·simp only[za6,Value.ownBlock,Option.some.injEq]at hk h4;exact .inr (by omega)
 ·have nh:∀ys:List α,(xs++ys).flatMap f=xs.flatMap f++ys.flatMap f:=fun ys=>by simp
  cases A with
  |none=>
   have h0:ys=[]:=by
    cases ys with
    |nil=>rfl
    |cons y ys=>obtain⟨b,off,h,_⟩:=hS (by simp);cases h
   subst h0;obtain⟨i,z,hi,hz,hs,hb,fm⟩:=T.hi;have ht:=T.ht;refine⟨_,w,?_,by rw[List.append_nil];exact .inr ⟨g,o,cap,cur,rfl,kw,hg,hc,ky,aQ,hx⟩,zc3 w _,fun g hg=> .inl hg⟩;simp[Builtin.append_,run_underlying ht,sizeOf,typeInfo,hi,Builtin.lenOf,Builtin.firstCells,hc,storeCells]
  |some ad=>
   obtain⟨i,z,hi,hz,hs,hb,fm⟩:=T.hi;have qp:∀j u,(ys.flatMap f)[j]?=some u->w.cell? (ad.add j)=some u:=fun j u hj=>by
    obtain⟨k,x,q,h1,h2,h3⟩:=zhD f size ae ys j u hj;have hk:k<ys.length:=(List.getElem?_eq_some_iff.1 h1).1;obtain⟨b,off,hA,_,ah⟩:=hS (by omega);have we:ad=⟨b,off,none⟩:=by simpa using hA
    subst we;exact sl_flat ae ah j u hj
   have yC:∀u∈ys.flatMap f,u.oneCell'=true:=fun u hu=>by
    obtain⟨x,_,hx⟩:=List.mem_flatMap.1 hu;exact aL x u hx
   by_cases hr:xs.length+ys.length<=cap
   ·have dN:o+xs.length*size+(ys.flatMap f).length<=cur.size:=by
     rw[ll,Nat.add_assoc,<-Nat.add_mul];exact Nat.le_trans (Nat.add_le_add_left (Nat.mul_le_mul_right _ hr) _) aQ
    have hrun:=run_append_room_cells (P:=P) w t ty e i T.ht hi g o xs.length cap ad ys.length c (ys.flatMap f) (by rw[ll,hs]) qp yC hr
     (fun j hj=>by rw[hs];simp[World.cell?,hg];omega) (fun j hj=>by simp[World.frozen?,hg])
    rw[hs]at hrun;obtain⟨cur',h1,h2,h3,h4⟩:=zfO g (ys.flatMap f) (o+xs.length*size) w cur hg dN;refine⟨_,_,hrun,.inr ⟨g,o,cap,cur',by rw[List.length_append],kw,h1,by rw[List.length_append];exact hr,ky,by rw[h2];exact aQ,fun j u hj=>?_⟩,zbD g _ _ _,fun g hg=> .inl hg⟩;rw[nh]at hj;by_cases bM:j<(xs.flatMap f).length
    ·rw[List.getElem?_append_left bM]at hj;rw[h3 _ (by rw[ll]at bM;omega)];exact hx j u hj
    ·rw[List.getElem?_append_right (by omega)]at hj;have:=h4 _ u hj;rw[ll]at this bM;rw[show o+j=o+xs.length*size+(j-xs.length*size) by omega];exact this
   ·obtain⟨v',w',hrun,h1,h2⟩:=run_append_arg_grows (P:=P) w t ty e i z size bytes T.ht hi hz hs hb fm T.hsz ⟨g,o,none⟩ xs.length cap (xs.flatMap f) (ll xs)
     (fun j u hj=>by
       have:=hx j u hj;rw[Addr.add_lit];simp only[World.cell?,hg]
       exact this) ad ys.length c (ys.flatMap f) (ll ys) qp (by omega) jO b8
    have h3:OwnS w' w.heap.size e size f v' (xs++ys):=OwnS.of_own ae (by rw[List.length_append,nh];exact h1);refine⟨v',w',hrun,?_,⟨h2.os,h2.tape,h2.output,h2.size,fun k hk _=>h2.block k hk (by simp)⟩,?_⟩
    ·rcases h3 with h3|⟨g',o',cap',cur',e1,e2,e3⟩
     ·exact .inl h3
     ·exact .inr ⟨g',o',cap',cur',e1,Nat.le_trans aG e2,e3⟩
    ·intro k hk;rcases h3 with⟨rfl,_⟩|⟨g',o',cap',cur',rfl,e2,e3⟩
     ·cases hk
     ·simp only[za6,Option.some.injEq]at hk;exact .inr (by omega)
theorem zhY{o:Oper}{a:Act}{K:Act->World->Prop}{Q:Exit->Act->World->Prop}(s x:Operand)(ho:o.op=.call {callee:=.builtin .append,args:= #[s,x],argTypes:= #[t,t]})
 (T:ElTy P t e size bytes)(ae:∀x,(f x).length=size)(aL:∀x,∀u∈f x,u.oneCell'=true){w:World}{base n m c:Nat}{v:Value}{xs ys:List α}(hs:a.eval s=v)(ac:OwnS w base e size f v xs)(hn:xs.length=n)
 {A:Option Addr}(hx:a.eval x=.slice A m c)(hm:m=ys.length)(hS:Sl w size f A ys)(jO:n+m<=maxLen)(b8:(n+m)*bytes<=140737488355328)(aG:base<=w.heap.size)
 (h:∀v' w',OwnS w' base e size f v' (xs++ys)->w.grownBy w' (za6 v)->(∀g,za6 v'=some g->za6 v=some g\/w.heap.size<=g)->K (a.put o.dst v') w'):o.wp P a w K Q:=by
 obtain⟨v',w',hrun,h2,h3,h4⟩:=zkX (ty:=o.type) (c:=c) T ae aL ac hn hm hS jO b8 aG;unfold Oper.wp execOp;simp only[ho,resolve,invoke,builtin,Sem.run_bind,Sem.run_pure,Result.andThen_ok,List.map_toArray,List.map_cons,List.map_nil,hs,hx,hrun];exact h v' w' h2 h3 h4
theorem zas{ops:Array Oper}{rest:List Oper}{o:Oper}{a:Act}{Q:Exit->Act->World->Prop}(bL:o.guard=none)(s x:Operand)(ho:o.op=.call {callee:=.builtin .append,args:= #[s,x],argTypes:= #[t,t]})
 (T:ElTy P t e size bytes)(ae:∀x,(f x).length=size)(aL:∀x,∀u∈f x,u.oneCell'=true){w:World}{base n m c:Nat}{v:Value}{xs ys:List α}(hs:a.eval s=v)(ac:OwnS w base e size f v xs)(hn:xs.length=n)
 {A:Option Addr}(hx:a.eval x=.slice A m c)(hm:m=ys.length)(hS:Sl w size f A ys)(jO:n+m<=maxLen)(b8:(n+m)*bytes<=140737488355328)(aG:base<=w.heap.size)
 (h:∀v' w',OwnS w' base e size f v' (xs++ys)->w.grownBy w' (za6 v)->(∀g,za6 v'=some g->za6 v=some g\/w.heap.size<=g)->wpList P ops Q rest (a.put o.dst v') w'):wpList P ops Q (o::rest) a w:=
 wpList_plain bL fun _ hK=>zhY s x ho T ae aL hs ac hn hx hm hS jO b8 aG fun v' w' h2 h3 h4=>hK _ _ (h v' w' h2 h3 h4)
theorem zak{ops:Array Oper}{o:Oper}{a:Act}{K:Act->World->Prop}{Q:Exit->Act->World->Prop}{E:Prop}(bL:o.guard=none)(s x:Operand)(ho:o.op=.call {callee:=.builtin .append,args:= #[s,x],argTypes:= #[t,t]})
 (T:ElTy P t e size bytes)(ae:∀x,(f x).length=size)(aL:∀x,∀u∈f x,u.oneCell'=true){w:World}{base n m c:Nat}{v:Value}{xs ys:List α}(hs:a.eval s=v)(ac:OwnS w base e size f v xs)(hn:xs.length=n)
 {A:Option Addr}(hx:a.eval x=.slice A m c)(hm:m=ys.length)(hS:Sl w size f A ys)(jO:n+m<=maxLen)(b8:(n+m)*bytes<=140737488355328)(aG:base<=w.heap.size)
 (h:∀v' w',OwnS w' base e size f v' (xs++ys)->w.grownBy w' (za6 v)->(∀g,za6 v'=some g->za6 v=some g\/w.heap.size<=g)->K (a.put o.dst v') w'):
 if Region.wanted o (yielded ops a.tmps)=true then Oper.wp P o a w K Q else E:=by
 have hw:Region.wanted o (yielded ops a.tmps)=true:=by simp[Region.wanted,bL]
 rw[if_pos hw];exact zhY s x ho T ae aL hs ac hn hx hm hS jO b8 aG h
end
