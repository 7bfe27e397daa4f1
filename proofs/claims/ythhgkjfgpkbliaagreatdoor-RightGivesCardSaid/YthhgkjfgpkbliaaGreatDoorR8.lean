import Derived.Test.YthhgkjfgpkbliaaGreatDoorM0
import Derived.RangeFuncNested
import Derived.RangeFuncBound
import Derived.Shelf.RegionOpen
import Derived.OwnWalkIn
import Derived.LoopNIn
import Derived.LoopIn
import Derived.Test.YthhgkjfgpkbliaaGreatDoorK0
import Derived.Lib.SmallJoins
import Derived.Deep.AppendLies
set_option linter.all false
set_option maxRecDepth 100000
set_option maxHeartbeats 4000000
namespace Go.Proofs.YthhgkjfgpkbliaaGreatDoor
open Go.RowKit
attribute [local go_sem] World.cell?_alloc_mark zae zav zai zaw zam zan zao zap zaq zar zas
attribute [local go_sem] Oper.semAt_some
section
open Go.Shelf
structure Bk where
 A:Option Addr
 n:Nat
 c:Nat
 R:Option Addr
 rn:Nat
 rc:Nat
 c0:Int
 c1:Int
 c2:Int
 st:List Stay
 m:List (ByteArray×Int)
 day:Int
theorem zeF{α:Type}(f:α->List Value)(s:Nat)(af:∀x,(f x).length=s):∀(xs:List α) (k:Nat) (x:α),xs[k]?=some x->∀j u,(f x)[j]?=some u->(xs.flatMap f)[k*s+j]?=some u
 | [],_,_,h,_,_,_=>by simp at h
 |y::xs,0,x,h,j,u,hu=>by
  have hj:j<s:=by have:=(List.getElem?_eq_some_iff.1 hu).1;rw[af]at this;exact this
  simp at h;subst h;rw[List.flatMap_cons,List.getElem?_append_left (by rw[af];omega)];simpa using hu
 |y::xs,k+1,x,h,j,u,hu=>by
  rw[List.flatMap_cons,List.getElem?_append_right (by rw[af,Nat.succ_mul];omega),af,show(k+1)*s+j-s=k*s+j from by rw[Nat.succ_mul];omega];exact zeF f s af xs k x (by simpa using h) j u hu
end
theorem zad{W:World}{b:Nat}{o:Obj}(hb:W.heap[b]?=some o):b<W.heap.size:=(Array.getElem?_eq_some_iff.1 hb).1
theorem zay(w:World)(b i:Nat)(u:Value):w.grownBy (w.setCell ⟨b,i,none⟩ u) (some b):=
 ⟨rfl,rfl,rfl,by simp,fun k _ hk=>heap_setCell_other w ⟨b,i,none⟩ k u (fun e=>hk (by simp[e]))⟩
structure ElTy (P:Program) (t e:TypeId) (size bytes:Nat):Prop where
 ht:P.underlying t=some (.slice e)
 hi:∃i z,P.info? e=some i/\i.zero=some z/\i.size=size/\i.bytes=bytes/\z.cells.size=size
 hsz:0<size
theorem zgp{α:Type}(f:α->List Value)(s:Nat)(af:∀x,(f x).length=s):∀(xs:List α) (j:Nat) (u:Value),(xs.flatMap f)[j]?=some u->∃k x i,xs[k]?=some x/\(f x)[i]?=some u/\j=k*s+i
 | [],j,u,h=>by simp at h
 |y::xs,j,u,h=>by
  rw[List.flatMap_cons]at h;by_cases hj:j<s
  ·rw[List.getElem?_append_left (by rw[af];exact hj)]at h;exact⟨0,y,j,rfl,h,by omega⟩
  ·rw[List.getElem?_append_right (by rw[af];omega),af]at h;obtain⟨k,x,i,h1,h2,h3⟩:=zgp f s af xs (j-s) u h;exact⟨k+1,x,i,by simpa using h1,h2,by rw[Nat.succ_mul];omega⟩
theorem zeX{α:Type}(f:α->List Value)(s:Nat)(af:∀x,(f x).length=s):∀xs:List α,(xs.flatMap f).length=xs.length*s
 | []=>by simp
 |y::xs=>by rw[List.flatMap_cons,List.length_append,af,zeX f s af xs,List.length_cons,Nat.succ_mul,Nat.add_comm]
theorem sl_flat{α:Type}{f:α->List Value}{size:Nat}(af:∀x,(f x).length=size){w:World}{b off:Nat}{ys:List α}(hc:∀k (x:α),ys[k]?=some x->∀j u,(f x)[j]?=some u->w.cell? ⟨b,off+k*size+j,none⟩=some u):
 ∀j u,(ys.flatMap f)[j]?=some u->w.cell? ((⟨b,off,none⟩:Addr).add j)=some u:=fun j u hj=>by
 obtain⟨k,x,q,h1,h2,h3⟩:=zgp f size af ys j u hj;have:=hc k x h1 q u h2;rw[h3];have e1:(⟨b,off,none⟩:Addr).add (k*size+q)=⟨b,off+k*size+q,none⟩:=by
  unfold Addr.add;split
  ·rename_i h0
   rw[show off+k*size+q=off by omega]
  ·simp only[Addr.mk.injEq,and_true,true_and];omega
 rw[e1];exact this
section
variable {P:Program} {α:Type} {f:α->List Value} {t e:TypeId} {size bytes:Nat}
theorem zeY(T:ElTy P t e size bytes)(af:∀x,(f x).length=size)(aJ:∀x,∀u∈f x,u.oneCell'=true){w:World}{base ty n m c:Nat}{v:Value}{xs:List Value}(ae:w.ownsRow base e size v n xs)
 {A:Option Addr}{ys:List α}(hm:m=ys.length)(hS:Sl w size f A ys)(fQ:n+m<=maxLen)(av:(n+m)*bytes<=140737488355328)(ak:base<=w.heap.size):
 ∃v' w',(Builtin.append_ #[t,t] ty #[v,.slice A m c]).run P w=.ok v' w'/\w'.ownsRow base e size v' (n+m) (xs++ys.flatMap f)/\w.grownBy w' v.ownBlock/\(v'.ownBlock=v.ownBlock\/v'.ownBlock=some w.heap.size):=by
 subst hm;obtain⟨i,z,hi,hz,hs,hb,bH⟩:=T.hi;have gw:=zeX f size af ys;cases A with
 |none=>
  have h0:ys=[]:=by
   cases ys with
   |nil=>rfl
   |cons y ys=>obtain⟨b,off,h,_⟩:=hS (by simp);cases h
  subst h0;refine⟨v,w,?_,by simpa using ae,World.grownBy.refl w _,.inl rfl⟩;have ht:=T.ht;rcases ae.2 with⟨rfl,rfl⟩|⟨g,cap,cur,rfl,_,_,qP,_⟩
  ·simp[Builtin.append_,run_underlying ht,sizeOf,typeInfo,hi,Builtin.lenOf,Builtin.firstCells]
  ·simp[Builtin.append_,run_underlying ht,sizeOf,typeInfo,hi,Builtin.lenOf,Builtin.firstCells,qP,storeCells]
 |some ad=>
  obtain⟨v',w',ai,h2,h3,_,h5⟩:=run_append_own_at (P:=P) w base t ty e i z size bytes T.ht hi hz hs hb bH T.hsz v n xs ae ad ys.length c (ys.flatMap f) gw (fun j u hj=>by
   obtain⟨k,x,q,h1,h2,h3⟩:=zgp f size af ys j u hj;have hk:k<ys.length:=(List.getElem?_eq_some_iff.1 h1).1;obtain⟨b,off,hA,_,hc⟩:=hS (by omega);have ph:ad=⟨b,off,none⟩:=by simpa using hA
   subst ph;exact sl_flat af hc j u hj) (fun u hu=>by
   obtain⟨x,_,hx⟩:=List.mem_flatMap.1 hu
   exact aJ x u hx) fQ av ak
  exact⟨v',w',ai,h2,h3,h5⟩
theorem zje{o:Oper}{a:Act}{K:Act->World->Prop}{Q:Exit->Act->World->Prop}(s x:Operand)(ho:o.op=.call {callee:=.builtin .append,args:= #[s,x],argTypes:= #[t,t]})
 (T:ElTy P t e size bytes)(af:∀x,(f x).length=size)(aJ:∀x,∀u∈f x,u.oneCell'=true){w:World}{base n m c:Nat}{v:Value}{xs:List Value}(hs:a.eval s=v)(ae:w.ownsRow base e size v n xs)
 {A:Option Addr}{ys:List α}(hx:a.eval x=.slice A m c)(hm:m=ys.length)(hS:Sl w size f A ys)(fQ:n+m<=maxLen)(av:(n+m)*bytes<=140737488355328)(ak:base<=w.heap.size)
 (h:∀v' w',w'.ownsRow base e size v' (n+m) (xs++ys.flatMap f)->w.grownBy w' v.ownBlock->(v'.ownBlock=v.ownBlock\/v'.ownBlock=some w.heap.size)->K (a.put o.dst v') w'):o.wp P a w K Q:=by
 obtain⟨v',w',ai,h2,h3,h4⟩:=zeY (ty:=o.type) (c:=c) T af aJ ae hm hS fQ av ak;unfold Oper.wp execOp;simp only[ho,resolve,invoke,builtin,Sem.run_bind,Sem.run_pure,Result.andThen_ok,List.map_toArray,List.map_cons,List.map_nil,hs,hx,ai];exact h v' w' h2 h3 h4
theorem zbN{ops:Array Oper}{rest:List Oper}{o:Oper}{a:Act}{Q:Exit->Act->World->Prop}(aQ:o.guard=none)(s x:Operand)(ho:o.op=.call {callee:=.builtin .append,args:= #[s,x],argTypes:= #[t,t]})
 (T:ElTy P t e size bytes)(af:∀x,(f x).length=size)(aJ:∀x,∀u∈f x,u.oneCell'=true){w:World}{base n m c:Nat}{v:Value}{xs:List Value}(hs:a.eval s=v)(ae:w.ownsRow base e size v n xs)
 {A:Option Addr}{ys:List α}(hx:a.eval x=.slice A m c)(hm:m=ys.length)(hS:Sl w size f A ys)(fQ:n+m<=maxLen)(av:(n+m)*bytes<=140737488355328)(ak:base<=w.heap.size)
 (h:∀v' w',w'.ownsRow base e size v' (n+m) (xs++ys.flatMap f)->w.grownBy w' v.ownBlock->(v'.ownBlock=v.ownBlock\/v'.ownBlock=some w.heap.size)->wpList P ops Q rest (a.put o.dst v') w'):wpList P ops Q (o::rest) a w:=
 wpList_plain aQ fun _ hK=>zje s x ho T af aJ hs ae hx hm hS fQ av ak fun v' w' h2 h3 h4=>hK _ _ (h v' w' h2 h3 h4)
end
theorem zcZ{P:Program}{t e:TypeId}{size bytes:Nat}{z:Value}(ht:P.underlying t=some (.slice e))(h:(P.info? e).map (fun i=>(i.zero,i.size,i.bytes))=some (some z,size,bytes))(hz:z.cells.size=size)(hsz:0<size):ElTy P t e size bytes:=by
 obtain⟨i,h1,h2,h3,h4⟩:=info_parts h;exact⟨ht,⟨i,z,h1,h2,h3,h4,hz⟩,hsz⟩
def OwnS{α:Type}(W:World)(base:Nat)(e:TypeId)(size:Nat)(f:α->List Value)(v:Value)(xs:List α):Prop:=
 (v=.slice none 0 0/\xs=[])\/∃g o cap cur,v=.slice (some ⟨g,o,none⟩) xs.length cap/\base<=g/\W.heap[g]?=some (.cells cur e (0,0))/\xs.length<=cap/\cap<=maxLen/\o+cap*size<=cur.size/\∀j u,(xs.flatMap f)[j]?=some u->cur[o+j]?=some u
def za1:Value->Option Nat
 | .slice (some a) _ _=>some a.block
 |_=>none
section
variable {α:Type} {W:World} {base:Nat} {e:TypeId} {size:Nat} {f:α->List Value} {v:Value} {xs:List α}
theorem OwnS.nil:OwnS W base e size f (.slice none 0 0) ([]:List α):=.inl ⟨rfl,rfl⟩
theorem OwnS.sl(af:∀x,(f x).length=size)(h:OwnS W base e size f v xs):∃A c,v=.slice A xs.length c/\Sl W size f A xs/\xs.length<=c:=by
 rcases h with⟨rfl,rfl⟩|⟨g,o,cap,cur,rfl,hb,hg,hc,_,_,hx⟩
 ·exact⟨none,0,rfl,Sl.nil,Nat.le_refl _⟩
 ·refine⟨_,cap,rfl,fun _=>⟨g,o,rfl,(Array.getElem?_eq_some_iff.1 hg).1,fun k x hk j u hu=>?_⟩,hc⟩;have:=hx (k*size+j) u (zeF f size af xs k x hk j u hu);simp only[World.cell?,hg,Nat.add_assoc];exact this
theorem OwnS.of_own(af:∀x,(f x).length=size)(h:W.ownsRow base e size v xs.length (xs.flatMap f)):OwnS W base e size f v xs:=by
 rcases h.2 with⟨rfl,h0⟩|⟨g,cap,cur,rfl,hb,hg,hc,hm,hs,ht⟩
 ·exact .inl ⟨rfl,List.eq_nil_of_length_eq_zero h0⟩
 ·refine .inr ⟨g,0,cap,cur,rfl,hb,hg,hc,hm,by omega,fun j u hj=>?_⟩;rw[Nat.zero_add];rw[<-ht,List.getElem?_take]at hj;split at hj
  ·simpa using hj
  ·cases hj
theorem OwnS.grown{w':World}{row:Option Nat}(h:OwnS W base e size f v xs)(hg:W.grownBy w' row)(ag:za1 v=none\/za1 v≠row):OwnS w' base e size f v xs:=by
 rcases h with h|⟨g,o,cap,cur,rfl,hb,hh,rest⟩
 ·exact .inl h
 ·refine .inr ⟨g,o,cap,cur,rfl,hb,?_,rest⟩;rw[hg.block g (Array.getElem?_eq_some_iff.1 hh).1 (by simpa[za1]using ag)];exact hh
theorem OwnS.keep{w':World}{n:Nat}(h:OwnS W base e size f v xs)(hB:Below n W w')(hn:W.heap.size<=n:=by first|exact Nat.le_refl _|omega):OwnS w' base e size f v xs:=by
 rcases h with h|⟨g,o,cap,cur,rfl,hb,hh,rest⟩
 ·exact .inl h
 ·exact .inr ⟨g,o,cap,cur,rfl,hb,(hB.block g (Nat.lt_of_lt_of_le (Array.getElem?_eq_some_iff.1 hh).1 hn)).trans hh,rest⟩
theorem OwnS.ge(h:OwnS W base e size f v xs):∀g,za1 v=some g->base<=g/\g<W.heap.size:=by
 rcases h with⟨rfl,_⟩|⟨g,o,cap,cur,rfl,hb,hh,rest⟩
 ·intro g hg;cases hg
 ·intro k hk;simp only[za1,Option.some.injEq]at hk;subst hk;exact⟨hb,(Array.getElem?_eq_some_iff.1 hh).1⟩
theorem OwnS.tail(af:∀x,(f x).length=size){x:α}{g o n cap:Nat}(h:OwnS W base e size f (.slice (some ⟨g,o,none⟩) n cap) (x::xs)):n=xs.length+1/\1<=cap/\OwnS W base e size f (.slice (some ⟨g,o+size,none⟩) xs.length (cap-1)) xs/\∀j u,(f x)[j]?=some u->W.cell? ⟨g,o+j,none⟩=some u:=by
 rcases h with⟨h,_⟩|⟨g',o',cap',cur,h,hb,hh,hc,hm,hs,hx⟩
 ·cases h
 ·simp only[Value.slice.injEq,Option.some.injEq,Addr.mk.injEq,and_true]at h;obtain⟨⟨rfl,rfl⟩,rfl,rfl⟩:=h;simp only[List.length_cons]at hc;have h1:1<=cap:=by omega
  refine⟨rfl,h1,.inr ⟨g,o+size,cap-1,cur,rfl,hb,hh,by omega,by omega,?_,fun j u hj=>?_⟩,fun j u hj=>?_⟩
  ·have:cap*size=(cap-1)*size+size:=by rw[<-Nat.succ_mul];congr 1;omega
   omega
  ·have:=hx (size+j) u (by rw[List.flatMap_cons,List.getElem?_append_right (by rw[af];omega),af,Nat.add_sub_cancel_left];exact hj);rw[Nat.add_assoc];exact this
  ·have:=hx j u (by rw[List.flatMap_cons,List.getElem?_append_left (List.getElem?_eq_some_iff.1 hj).1];exact hj);simp only[World.cell?,hh];exact this
end
theorem zcW(w:World)(row:Option Nat):w.grownBy w row:=⟨rfl,rfl,rfl,Nat.le_refl _,fun _ _ _=>rfl⟩
theorem zbt(g:Nat):∀(vs:List Value) (o:Nat) (w:World),w.grownBy (w.setCells g o vs) (some g)
 | [],_,w=>zcW w _
 |v::r,o,w=>zbb (zay w g o v) (zbt g r (o+1) _)
theorem ze9(g:Nat){e:TypeId}:∀(vs:List Value) (o:Nat) (w:World) (cur:Array Value),w.heap[g]?=some (.cells cur e (0,0))->o+vs.length<=cur.size->
 ∃cur',(w.setCells g o vs).heap[g]?=some (.cells cur' e (0,0))/\cur'.size=cur.size/\(∀j,j<o->cur'[j]?=cur[j]?)/\∀j u,vs[j]?=some u->cur'[o+j]?=some u
 | [],o,w,cur,hg,_=>⟨cur,hg,rfl,fun _ _=>rfl,fun j u h=>by simp at h⟩
 |v::r,o,w,cur,hg,hl=>by
  obtain⟨cur',h1,h2,h3,h4⟩:=ze9 g r (o+1) (w.setCell ⟨g,o,none⟩ v) (cur.setIfInBounds o v) (heap_setCell_same w g o cur e v hg) (by simp at hl⊢;omega);refine⟨cur',h1,by simpa using h2,fun j hj=>?_,fun j u hu=>?_⟩
  ·rw[h3 j (by omega),Array.getElem?_setIfInBounds_ne (by omega)]
  ·cases j with
   |zero=>
    simp only[List.getElem?_cons_zero,Option.some.injEq]at hu;subst hu;rw[Nat.add_zero,h3 o (by omega)];exact Array.getElem?_setIfInBounds_self_of_lt (by simp at hl;omega)
   |succ j=>
    have:=h4 j u (by simpa using hu);rw[show o+(j+1)=o+1+j by omega];exact this
section
variable {P:Program} {α:Type} {f:α->List Value} {t e:TypeId} {size bytes:Nat}
theorem zjf(T:ElTy P t e size bytes)(af:∀x,(f x).length=size)(aJ:∀x,∀u∈f x,u.oneCell'=true){w:World}{base ty n m c:Nat}{v:Value}{xs ys:List α}(ae:OwnS w base e size f v xs)(hn:xs.length=n)
 {A:Option Addr}(hm:m=ys.length)(hS:Sl w size f A ys)(fQ:n+m<=maxLen)(av:(n+m)*bytes<=140737488355328)(ak:base<=w.heap.size):
 ∃v' w',(Builtin.append_ #[t,t] ty #[v,.slice A m c]).run P w=.ok v' w'/\OwnS w' base e size f v' (xs++ys)/\w.grownBy w' (za1 v)/\(∀g,za1 v'=some g->za1 v=some g\/w.heap.size<=g):=by
 subst hm hn;have jK:=fun zs:List α=>zeX f size af zs
 rcases ae with⟨rfl,rfl⟩|⟨g,o,cap,cur,rfl,ij,hg,hc,gu,aL,hx⟩
 ·obtain⟨v',w',h1,h2,h3,h4⟩:=zeY (P:=P) (ty:=ty) (c:=c) T af aJ (base:=base) (World.ownsRow_nil w base e size) (n:=0) rfl hS (by simpa using fQ) (by simpa using av) ak;refine⟨v',w',h1,OwnS.of_own af (by simpa using h2),h3,?_⟩;rcases h2.2 with⟨rfl,_⟩|⟨g,cap,cur,rfl,_⟩
  ·intro g hg;cases hg
  ·intro k hk;rcases h4 with h4|h4
   ·cases h4
   ·simp only[za1,Value.ownBlock,Option.some.injEq]at hk h4;exact .inr (by omega)
 ·have iF:∀ys:List α,(xs++ys).flatMap f=xs.flatMap f++ys.flatMap f:=fun ys=>by simp
  cases A with
  |none=>
   have h0:ys=[]:=by
    cases ys with
    |nil=>rfl
    |cons y ys=>obtain⟨b,off,h,_⟩:=hS (by simp);cases h
   subst h0;obtain⟨i,z,hi,hz,hs,hb,bH⟩:=T.hi;have ht:=T.ht;refine⟨_,w,?_,by rw[List.append_nil];exact .inr ⟨g,o,cap,cur,rfl,ij,hg,hc,gu,aL,hx⟩,zcW w _,fun g hg=> .inl hg⟩;simp[Builtin.append_,run_underlying ht,sizeOf,typeInfo,hi,Builtin.lenOf,Builtin.firstCells,hc,storeCells]
  |some ad=>
   obtain⟨i,z,hi,hz,hs,hb,bH⟩:=T.hi;have kH:∀j u,(ys.flatMap f)[j]?=some u->w.cell? (ad.add j)=some u:=fun j u hj=>by
    obtain⟨k,x,q,h1,h2,h3⟩:=zgp f size af ys j u hj;have hk:k<ys.length:=(List.getElem?_eq_some_iff.1 h1).1;obtain⟨b,off,hA,_,ah⟩:=hS (by omega);have ph:ad=⟨b,off,none⟩:=by simpa using hA
    subst ph;exact sl_flat af ah j u hj
   have qX:∀u∈ys.flatMap f,u.oneCell'=true:=fun u hu=>by
    obtain⟨x,_,hx⟩:=List.mem_flatMap.1 hu;exact aJ x u hx
   by_cases hr:xs.length+ys.length<=cap
   ·have bP:o+xs.length*size+(ys.flatMap f).length<=cur.size:=by
     rw[jK,Nat.add_assoc,<-Nat.add_mul];exact Nat.le_trans (Nat.add_le_add_left (Nat.mul_le_mul_right _ hr) _) aL
    have ai:=run_append_room_cells (P:=P) w t ty e i T.ht hi g o xs.length cap ad ys.length c (ys.flatMap f) (by rw[jK,hs]) kH qX hr
     (fun j hj=>by rw[hs];simp[World.cell?,hg];omega) (fun j hj=>by simp[World.frozen?,hg])
    rw[hs]at ai;obtain⟨cur',h1,h2,h3,h4⟩:=ze9 g (ys.flatMap f) (o+xs.length*size) w cur hg bP;refine⟨_,_,ai,.inr ⟨g,o,cap,cur',by rw[List.length_append],ij,h1,by rw[List.length_append];exact hr,gu,by rw[h2];exact aL,fun j u hj=>?_⟩,zbt g _ _ _,fun g hg=> .inl hg⟩;rw[iF]at hj;by_cases dQ:j<(xs.flatMap f).length
    ·rw[List.getElem?_append_left dQ]at hj;rw[h3 _ (by rw[jK]at dQ;omega)];exact hx j u hj
    ·rw[List.getElem?_append_right (by omega)]at hj;have:=h4 _ u hj;rw[jK]at this dQ;rw[show o+j=o+xs.length*size+(j-xs.length*size) by omega];exact this
   ·obtain⟨v',w',ai,h1,h2⟩:=run_append_arg_grows (P:=P) w t ty e i z size bytes T.ht hi hz hs hb bH T.hsz ⟨g,o,none⟩ xs.length cap (xs.flatMap f) (jK xs)
     (fun j u hj=>by
       have:=hx j u hj;rw[Addr.add_lit];simp only[World.cell?,hg]
       exact this) ad ys.length c (ys.flatMap f) (jK ys) kH (by omega) fQ av
    have h3:OwnS w' w.heap.size e size f v' (xs++ys):=OwnS.of_own af (by rw[List.length_append,iF];exact h1);refine⟨v',w',ai,?_,⟨h2.os,h2.tape,h2.output,h2.size,fun k hk _=>h2.block k hk (by simp)⟩,?_⟩
    ·rcases h3 with h3|⟨g',o',cap',cur',e1,e2,e3⟩
     ·exact .inl h3
     ·exact .inr ⟨g',o',cap',cur',e1,Nat.le_trans ak e2,e3⟩
    ·intro k hk;rcases h3 with⟨rfl,_⟩|⟨g',o',cap',cur',rfl,e2,e3⟩
     ·cases hk
     ·simp only[za1,Option.some.injEq]at hk;exact .inr (by omega)
theorem zgD{o:Oper}{a:Act}{K:Act->World->Prop}{Q:Exit->Act->World->Prop}(s x:Operand)(ho:o.op=.call {callee:=.builtin .append,args:= #[s,x],argTypes:= #[t,t]})
 (T:ElTy P t e size bytes)(af:∀x,(f x).length=size)(aJ:∀x,∀u∈f x,u.oneCell'=true){w:World}{base n m c:Nat}{v:Value}{xs ys:List α}(hs:a.eval s=v)(ae:OwnS w base e size f v xs)(hn:xs.length=n)
 {A:Option Addr}(hx:a.eval x=.slice A m c)(hm:m=ys.length)(hS:Sl w size f A ys)(fQ:n+m<=maxLen)(av:(n+m)*bytes<=140737488355328)(ak:base<=w.heap.size)
 (h:∀v' w',OwnS w' base e size f v' (xs++ys)->w.grownBy w' (za1 v)->(∀g,za1 v'=some g->za1 v=some g\/w.heap.size<=g)->K (a.put o.dst v') w'):o.wp P a w K Q:=by
 obtain⟨v',w',ai,h2,h3,h4⟩:=zjf (ty:=o.type) (c:=c) T af aJ ae hn hm hS fQ av ak;unfold Oper.wp execOp;simp only[ho,resolve,invoke,builtin,Sem.run_bind,Sem.run_pure,Result.andThen_ok,List.map_toArray,List.map_cons,List.map_nil,hs,hx,ai];exact h v' w' h2 h3 h4
theorem zaG{ops:Array Oper}{rest:List Oper}{o:Oper}{a:Act}{Q:Exit->Act->World->Prop}(aQ:o.guard=none)(s x:Operand)(ho:o.op=.call {callee:=.builtin .append,args:= #[s,x],argTypes:= #[t,t]})
 (T:ElTy P t e size bytes)(af:∀x,(f x).length=size)(aJ:∀x,∀u∈f x,u.oneCell'=true){w:World}{base n m c:Nat}{v:Value}{xs ys:List α}(hs:a.eval s=v)(ae:OwnS w base e size f v xs)(hn:xs.length=n)
 {A:Option Addr}(hx:a.eval x=.slice A m c)(hm:m=ys.length)(hS:Sl w size f A ys)(fQ:n+m<=maxLen)(av:(n+m)*bytes<=140737488355328)(ak:base<=w.heap.size)
 (h:∀v' w',OwnS w' base e size f v' (xs++ys)->w.grownBy w' (za1 v)->(∀g,za1 v'=some g->za1 v=some g\/w.heap.size<=g)->wpList P ops Q rest (a.put o.dst v') w'):wpList P ops Q (o::rest) a w:=
 wpList_plain aQ fun _ hK=>zgD s x ho T af aJ hs ae hn hx hm hS fQ av ak fun v' w' h2 h3 h4=>hK _ _ (h v' w' h2 h3 h4)
theorem zaV{ops:Array Oper}{o:Oper}{a:Act}{K:Act->World->Prop}{Q:Exit->Act->World->Prop}{E:Prop}(aQ:o.guard=none)(s x:Operand)(ho:o.op=.call {callee:=.builtin .append,args:= #[s,x],argTypes:= #[t,t]})
 (T:ElTy P t e size bytes)(af:∀x,(f x).length=size)(aJ:∀x,∀u∈f x,u.oneCell'=true){w:World}{base n m c:Nat}{v:Value}{xs ys:List α}(hs:a.eval s=v)(ae:OwnS w base e size f v xs)(hn:xs.length=n)
 {A:Option Addr}(hx:a.eval x=.slice A m c)(hm:m=ys.length)(hS:Sl w size f A ys)(fQ:n+m<=maxLen)(av:(n+m)*bytes<=140737488355328)(ak:base<=w.heap.size)
 (h:∀v' w',OwnS w' base e size f v' (xs++ys)->w.grownBy w' (za1 v)->(∀g,za1 v'=some g->za1 v=some g\/w.heap.size<=g)->K (a.put o.dst v') w'):
 if Region.wanted o (yielded ops a.tmps)=true then Oper.wp P o a w K Q else E:=by
 have hw:Region.wanted o (yielded ops a.tmps)=true:=by simp[Region.wanted,aQ]
 rw[if_pos hw];exact zgD s x ho T af aJ hs ae hn hx hm hS fQ av ak h
end
