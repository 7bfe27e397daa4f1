/- Appends: a slice that reads as a list of records is put behind a row of one's own. -/
import Derived.Test.YtmaidggpbihlgaaGreatDoorM0
import Derived.Test.YtmaidggpbihlgaaGreatDoorR0
import Derived.Lib.SmallJoins
import Derived.Deep.AppendLies
import Derived.Maps.AppendAt
import Derived.RegionTactic
set_option linter.unusedSimpArgs false
set_option linter.unusedVariables false
namespace Go.Proofs.YtmaidggpbihlgaaGreatDoor
open Go.RowKit Go.Shelf
attribute [local go_sem] World.cell?_alloc_mark ext_size ext_cell ext_frozen lt_add_r lt_add_r2 lt_add_r3 lt_add_r4 lt_add_r5 lt_add_r6 lt_add_r7 lt_add_r8
attribute [local go_sem] Oper.semAt_some
theorem alloc_get (w:World) (o:Obj) (k:Nat):(w.alloc o).heap[k]?=if k=w.heap.size then some o else w.heap[k]?:=by
 show(w.heap.push o)[k]?=_
 rw[Array.getElem?_push]
structure Bk where
 A:Option Addr
 n:Nat
 c:Nat
 R:Option Addr
 rn:Nat
 rc:Nat
 c0:Int
 c1:Int
 c2:Int
 st:List Stay
 m:List (ByteArray×Int)
 day:Int
theorem add_at (g n:Nat):(⟨g,0,none⟩:Addr).add n=⟨g,n,none⟩:=by
 unfold Addr.add
 split
 ·rename_i h;rw[h]
 ·simp
theorem flat_at {α:Type} (f:α->List Value) (s:Nat) (hlen: ∀x,(f x).length=s): ∀(xs:List α) (k:Nat) (x:α),xs[k]?=some x-> ∀j u,(f x)[j]?=some u->(xs.flatMap f)[k*s+j]?=some u
 | [],_,_,h,_,_,_=>by simp at h
 |y::xs,0,x,h,j,u,hu=>by
  have hj:j<s:=by have:=(List.getElem?_eq_some_iff.1 hu).1;rw[hlen]at this;exact this
  simp at h
  subst h
  rw[List.flatMap_cons,List.getElem?_append_left (by rw[hlen];omega)]
  simpa using hu
 |y::xs,k+1,x,h,j,u,hu=>by
  rw[List.flatMap_cons,List.getElem?_append_right (by rw[hlen,Nat.succ_mul];omega),hlen,show(k+1)*s+j-s=k*s+j from by rw[Nat.succ_mul];omega]
  exact flat_at f s hlen xs k x (by simpa using h) j u hu
theorem own_sl {α:Type} {w:World} {base:Nat} {e:TypeId} {s:Nat} {f:α->List Value} (hlen: ∀x,(f x).length=s) {v:Value} {xs:List α} (h:w.ownsRow base e s v xs.length (xs.flatMap f)):
 ∃A c,v= .slice A xs.length c/\Sl w s f A xs/\xs.length<=c:=by
 rcases h.2 with⟨rfl,h0⟩|⟨g,cap,cur,rfl,hb,hh,hnc,_⟩
 ·rw[h0]
  exact⟨none,0,rfl,fun hp=>by omega,Nat.le_refl _⟩
 ·refine⟨some ⟨g,0,none⟩,cap,rfl,fun _=>⟨g,0,rfl,(Array.getElem?_eq_some_iff.1 hh).1,fun k x hx j u hu=> ?_⟩,hnc⟩
  have hc:=h.cells (g:=g) rfl (k*s+j) u (flat_at f s hlen xs k x hx j u hu)
  rw[add_at]at hc
  rw[Nat.zero_add];exact hc
theorem stay_len (s:Stay):s.cells.length=7:=rfl
def lotsNow (st:List Stay):List Lot:=(st.filter fun s=>decide (s.till<0)).map (·.lot)
theorem lotsNow_snoc (st:List Stay) (s:Stay):lotsNow (st++[s])=lotsNow st++(if s.till<0 then[s.lot]else[]):=by
 unfold lotsNow
 rw[List.filter_append,List.map_append]
 congr 1
 by_cases h:s.till<0<;>simp[h]
theorem lotsNow_take {st:List Stay} {k:Nat} (h:k<st.length):lotsNow (st.take (k+1))=lotsNow (st.take k)++(if st[k].till<0 then[st[k].lot]else[]):=by
 rw[List.take_succ_eq_append_getElem h,lotsNow_snoc]
theorem lotsNow_prefix (st:List Stay) (k:Nat):lotsNow (st.take k) <+: lotsNow st:=by
 conv=>rhs;rw[<-List.take_append_drop k st]
 unfold lotsNow
 rw[List.filter_append,List.map_append]
 exact List.prefix_append _ _
def Lot.v (l:Lot):Value:= .agg #[.string l.remain, .int .i64 l.state, .string l.site, .int .i64 l.level, .int .i64 l.container, .int .i64 l.since]
def lotK (k:Bk) (nm:ByteArray):Option Lot:=(mget eqS nm k.m).bind fun i=>(k.st[i.toNat]?).map (·.lot)
def zeroLot:Lot:=⟨⟨#[]⟩,0,⟨#[]⟩,0,0,0⟩
def retLot (r:Option Lot):Value:= .tuple #[(r.getD zeroLot).v, .bool r.isSome]
end Go.Proofs.YtmaidggpbihlgaaGreatDoor
namespace Go.Proofs.YtmaidggpbihlgaaGreatDoor
open Go.RowKit
theorem flat_set (dy:Int): ∀(xs:List Stay) (j:Nat),j<xs.length->(xs.flatMap Stay.cells).set (j*7+6) (.int .i64 dy)=(xs.modify j fun s=> {s with till:=dy}).flatMap Stay.cells
 | [],_,h=>absurd h (by simp)
 |y::ys,0,_=>by simp[Stay.cells,Lot.cells]
 |y::ys,j+1,h=>by
  have hj:j<ys.length:=by simpa using h
  rw[List.flatMap_cons,List.set_append_right _ _ (by rw[stay_len];omega),stay_len,show(j+1)*7+6-7=j*7+6 by omega,flat_set dy ys j hj]
  simp
theorem own_ne {W:World} {base size n:Nat} {e t:TypeId} {v:Value} {xs:List Value} (hown:W.ownsRow base e size v n xs) {b:Nat} {cs:Array Value} {fr:Nat×Nat} (hb:W.heap[b]?=some (.cells cs t fr)) (ht:t≠e):some b≠v.ownBlock:=by
 rcases hown.2 with⟨rfl,_⟩|⟨g,cap,cur,rfl,_,hh,_⟩
 ·simp[Value.ownBlock]
 ·intro h
  have hg:b=g:=by simpa[Value.ownBlock]using h
  rw[<-hg,hb]at hh
  simp only[Option.some.injEq,Obj.cells.injEq]at hh
  exact ht hh.2.1
theorem own_ne_map {W:World} {base size n:Nat} {e:TypeId} {v:Value} {xs:List Value} (hown:W.ownsRow base e size v n xs) {b:Nat} {K V:Type} {ek:K->Value} {ev:V->Value} {m:List (K×V)} (hm:MapAt W b ek ev m):some b≠v.ownBlock:=by
 obtain⟨es,c,hb,_⟩:=hm
 rcases hown.2 with⟨rfl,_⟩|⟨g,cap,cur,rfl,_,hh,_⟩
 ·simp[Value.ownBlock]
 ·intro h
  have hg:b=g:=by simpa[Value.ownBlock]using h
  rw[<-hg,hb]at hh
  simp at hh
theorem blk_ne_map {W:World} {b c:Nat} {cs:Array Value} {t:TypeId} {fr:Nat×Nat} {K V:Type} {ek:K->Value} {ev:V->Value} {m:List (K×V)} (hb:W.heap[b]?=some (.cells cs t fr)) (hm:MapAt W c ek ev m):b≠c:=by
 obtain⟨es,k,hc,_⟩:=hm
 rintro rfl
 rw[hb]at hc
 simp at hc
theorem own_keep {w W:World} {base size k:Nat} {e:TypeId} {v:Value} {xs:List Value} (h:w.ownsRow base e size v k xs) {n:Nat} (hb:Below n w W) (hn:w.heap.size<=n:=by first|exact Nat.le_refl _|omega):W.ownsRow base e size v k xs:=by
 have hg:w.grownBy W none:=⟨hb.os,hb.tape,hb.output,hb.size,fun i hi _=>hb.block i (Nat.lt_of_lt_of_le hi hn)⟩
 refine h.kept hg ?_
 rcases hv:v.ownBlock with _|g
 ·exact .inl rfl
 ·exact .inr (by simp)
theorem own_ext {w:World} {base size k:Nat} {e:TypeId} {v:Value} {xs:List Value} (h:w.ownsRow base e size v k xs) (z:Ez):(w.ext z).ownsRow base e size v k xs:=own_keep h (below_ext w z)
theorem blk_lt {W:World} {b:Nat} {o:Obj} (hb:W.heap[b]?=some o):b<W.heap.size:=(Array.getElem?_eq_some_iff.1 hb).1
theorem grown_set (w:World) (b i:Nat) (u:Value):w.grownBy (w.setCell ⟨b,i,none⟩ u) (some b):=
 ⟨rfl,rfl,rfl,by simp,fun k _ hk=>heap_setCell_other w ⟨b,i,none⟩ k u (fun e=>hk (by simp[e]))⟩
end Go.Proofs.YtmaidggpbihlgaaGreatDoor
namespace Go.Proofs.YtmaidggpbihlgaaGreatDoor
open Go.RowKit
structure ElTy (P:Program) (t e:TypeId) (size bytes:Nat):Prop where
 ht:P.underlying t=some (.slice e)
 hi: ∃i z,P.info? e=some i/\i.zero=some z/\i.size=size/\i.bytes=bytes/\z.cells.size=size
 hsz:0<size
theorem flat_inv {α:Type} (f:α->List Value) (s:Nat) (hlen: ∀x,(f x).length=s): ∀(xs:List α) (j:Nat) (u:Value),(xs.flatMap f)[j]?=some u-> ∃k x i,xs[k]?=some x/\(f x)[i]?=some u/\j=k*s+i
 | [],j,u,h=>by simp at h
 |y::xs,j,u,h=>by
  rw[List.flatMap_cons]at h
  by_cases hj:j<s
  ·rw[List.getElem?_append_left (by rw[hlen];exact hj)]at h
   exact⟨0,y,j,rfl,h,by omega⟩
  ·rw[List.getElem?_append_right (by rw[hlen];omega),hlen]at h
   obtain⟨k,x,i,h1,h2,h3⟩:=flat_inv f s hlen xs (j-s) u h
   exact⟨k+1,x,i,by simpa using h1,h2,by rw[Nat.succ_mul];omega⟩
theorem flat_len {α:Type} (f:α->List Value) (s:Nat) (hlen: ∀x,(f x).length=s): ∀xs:List α,(xs.flatMap f).length=xs.length*s
 | []=>by simp
 |y::xs=>by rw[List.flatMap_cons,List.length_append,hlen,flat_len f s hlen xs,List.length_cons,Nat.succ_mul,Nat.add_comm]
theorem sl_flat {α:Type} {f:α->List Value} {size:Nat} (hlen: ∀x,(f x).length=size) {w:World} {b off:Nat} {ys:List α} (hc: ∀k (x:α),ys[k]?=some x-> ∀j u,(f x)[j]?=some u->w.cell? ⟨b,off+k*size+j,none⟩=some u):
 ∀j u,(ys.flatMap f)[j]?=some u->w.cell? ((⟨b,off,none⟩:Addr).add j)=some u:=fun j u hj=>by
 obtain⟨k,x,q,h1,h2,h3⟩:=flat_inv f size hlen ys j u hj
 have:=hc k x h1 q u h2
 rw[h3]
 have e1:(⟨b,off,none⟩:Addr).add (k*size+q)=⟨b,off+k*size+q,none⟩:=by
  unfold Addr.add
  split
  ·rename_i h0
   rw[show off+k*size+q=off by omega]
  ·simp only[Addr.mk.injEq,and_true,true_and];omega
 rw[e1];exact this
section
variable {P:Program} {α:Type} {f:α->List Value} {t e:TypeId} {size bytes:Nat}
theorem run_append_sl (T:ElTy P t e size bytes) (hlen: ∀x,(f x).length=size) (hone: ∀x,∀u∈f x,u.oneCell'=true) {w:World} {base ty n m c:Nat} {v:Value} {xs:List Value} (hown:w.ownsRow base e size v n xs)
 {A:Option Addr} {ys:List α} (hm:m=ys.length) (hS:Sl w size f A ys) (h63:n+m<=maxLen) (hbytes:(n+m)*bytes<=140737488355328) (hbase:base<=w.heap.size):
 ∃v' w',(Builtin.append_ #[t,t] ty #[v, .slice A m c]).run P w= .ok v' w'/\w'.ownsRow base e size v' (n+m) (xs++ys.flatMap f)/\w.grownBy w' v.ownBlock/\(v'.ownBlock=v.ownBlock\/v'.ownBlock=some w.heap.size):=by
 subst hm
 obtain⟨i,z,hi,hz,hs,hb,hzs⟩:=T.hi
 have hfl:=flat_len f size hlen ys
 cases A with
 |none=>
  have h0:ys=[]:=by
   cases ys with
   |nil=>rfl
   |cons y ys=>obtain⟨b,off,h,_⟩:=hS (by simp);cases h
  subst h0
  refine⟨v,w,?_,by simpa using hown,World.grownBy.refl w _, .inl rfl⟩
  have ht:=T.ht
  rcases hown.2 with⟨rfl,rfl⟩|⟨g,cap,cur,rfl,_,_,hnc,_⟩
  ·simp[Builtin.append_,run_underlying ht,sizeOf,typeInfo,hi,Builtin.lenOf,Builtin.firstCells]
  ·simp[Builtin.append_,run_underlying ht,sizeOf,typeInfo,hi,Builtin.lenOf,Builtin.firstCells,hnc,storeCells]
 |some ad=>
  obtain⟨v',w',hrun,h2,h3,_,h5⟩:=run_append_own_at (P:=P) w base t ty e i z size bytes T.ht hi hz hs hb hzs T.hsz v n xs hown ad ys.length c (ys.flatMap f) hfl (fun j u hj=>by
   obtain⟨k,x,q,h1,h2,h3⟩:=flat_inv f size hlen ys j u hj
   have hk:k<ys.length:=(List.getElem?_eq_some_iff.1 h1).1
   obtain⟨b,off,hA,_,hc⟩:=hS (by omega)
   have hA':ad=⟨b,off,none⟩:=by simpa using hA
   subst hA'
   exact sl_flat hlen hc j u hj) (fun u hu=>by
   obtain⟨x,_,hx⟩:=List.mem_flatMap.1 hu
   exact hone x u hx) h63 hbytes hbase
  exact⟨v',w',hrun,h2,h3,h5⟩
theorem wp_append_sl {o:Oper} {a:Act} {K:Act->World->Prop} {Q:Exit->Act->World->Prop} (s x:Operand) (ho:o.op= .call {callee:= .builtin .append,args:= #[s,x],argTypes:= #[t,t]})
 (T:ElTy P t e size bytes) (hlen: ∀x,(f x).length=size) (hone: ∀x,∀u∈f x,u.oneCell'=true) {w:World} {base n m c:Nat} {v:Value} {xs:List Value} (hs:a.eval s=v) (hown:w.ownsRow base e size v n xs)
 {A:Option Addr} {ys:List α} (hx:a.eval x= .slice A m c) (hm:m=ys.length) (hS:Sl w size f A ys) (h63:n+m<=maxLen) (hbytes:(n+m)*bytes<=140737488355328) (hbase:base<=w.heap.size)
 (h: ∀v' w',w'.ownsRow base e size v' (n+m) (xs++ys.flatMap f)->w.grownBy w' v.ownBlock->(v'.ownBlock=v.ownBlock\/v'.ownBlock=some w.heap.size)->K (a.put o.dst v') w'):o.wp P a w K Q:=by
 obtain⟨v',w',hrun,h2,h3,h4⟩:=run_append_sl (ty:=o.type) (c:=c) T hlen hone hown hm hS h63 hbytes hbase
 unfold Oper.wp execOp
 simp only[ho,resolve,invoke,builtin,Sem.run_bind,Sem.run_pure,Result.andThen_ok,List.map_toArray,List.map_cons,List.map_nil,hs,hx,hrun]
 exact h v' w' h2 h3 h4
theorem wpList_append_sl {ops:Array Oper} {rest:List Oper} {o:Oper} {a:Act} {Q:Exit->Act->World->Prop} (hgd:o.guard=none) (s x:Operand) (ho:o.op= .call {callee:= .builtin .append,args:= #[s,x],argTypes:= #[t,t]})
 (T:ElTy P t e size bytes) (hlen: ∀x,(f x).length=size) (hone: ∀x,∀u∈f x,u.oneCell'=true) {w:World} {base n m c:Nat} {v:Value} {xs:List Value} (hs:a.eval s=v) (hown:w.ownsRow base e size v n xs)
 {A:Option Addr} {ys:List α} (hx:a.eval x= .slice A m c) (hm:m=ys.length) (hS:Sl w size f A ys) (h63:n+m<=maxLen) (hbytes:(n+m)*bytes<=140737488355328) (hbase:base<=w.heap.size)
 (h: ∀v' w',w'.ownsRow base e size v' (n+m) (xs++ys.flatMap f)->w.grownBy w' v.ownBlock->(v'.ownBlock=v.ownBlock\/v'.ownBlock=some w.heap.size)->wpList P ops Q rest (a.put o.dst v') w'):wpList P ops Q (o::rest) a w:=
 wpList_plain hgd fun _ hK=>wp_append_sl s x ho T hlen hone hs hown hx hm hS h63 hbytes hbase fun v' w' h2 h3 h4=>hK _ _ (h v' w' h2 h3 h4)
theorem step_append_sl {ops:Array Oper} {o:Oper} {a:Act} {K:Act->World->Prop} {Q:Exit->Act->World->Prop} {E:Prop} (hgd:o.guard=none) (s x:Operand) (ho:o.op= .call {callee:= .builtin .append,args:= #[s,x],argTypes:= #[t,t]})
 (T:ElTy P t e size bytes) (hlen: ∀x,(f x).length=size) (hone: ∀x,∀u∈f x,u.oneCell'=true) {w:World} {base n m c:Nat} {v:Value} {xs:List Value} (hs:a.eval s=v) (hown:w.ownsRow base e size v n xs)
 {A:Option Addr} {ys:List α} (hx:a.eval x= .slice A m c) (hm:m=ys.length) (hS:Sl w size f A ys) (h63:n+m<=maxLen) (hbytes:(n+m)*bytes<=140737488355328) (hbase:base<=w.heap.size)
 (h: ∀v' w',w'.ownsRow base e size v' (n+m) (xs++ys.flatMap f)->w.grownBy w' v.ownBlock->(v'.ownBlock=v.ownBlock\/v'.ownBlock=some w.heap.size)->K (a.put o.dst v') w'):
 if Region.wanted o (yielded ops a.tmps)=true then Oper.wp P o a w K Q else E:=by
 have hw:Region.wanted o (yielded ops a.tmps)=true:=by simp[Region.wanted,hgd]
 rw[if_pos hw]
 exact wp_append_sl s x ho T hlen hone hs hown hx hm hS h63 hbytes hbase h
theorem run_append_fresh (T:ElTy P t e size bytes) (hlen: ∀x,(f x).length=size) (hone: ∀x,∀u∈f x,u.oneCell'=true) {w:World} {base ty g c m:Nat} (hg:w.heap[g]?=some (.cells #[] e (0,0))) (hbg:base<=g)
 {A:Option Addr} {ys:List α} (hm:m=ys.length) (hS:Sl w size f A ys) (hys:ys.length<=100000) (hby:bytes<=1000) (hbase:base<=w.heap.size):
 ∃v' z,(Builtin.append_ #[t,t] ty #[.slice (some ⟨g,0,none⟩) 0 0, .slice A m c]).run P w= .ok v' (w.ext z)/\(w.ext z).ownsRow base e size v' ys.length (ys.flatMap f):=by
 have hb1:(0+m)*bytes<=140737488355328:=by
  have:=Nat.mul_le_mul (show 0+m<=100000 by omega) hby
  omega
 have hb2:0+m<=maxLen:=by simp[maxLen];omega
 have hown:w.ownsRow base e size (.slice (some ⟨g,0,none⟩) 0 0) 0 []:=⟨by simp, .inr ⟨g,0,#[],rfl,hbg,hg,Nat.le_refl _,Nat.zero_le _,by simp,by simp⟩⟩
 obtain⟨v',w',hrun,h2,h3,h4⟩:=run_append_sl (ty:=ty) (c:=c) T hlen hone hown hm hS hb2 hb1 hbase
 rw[Nat.zero_add,List.nil_append,hm]at h2
 obtain⟨i,z,hi,hz,hs,hb,hzs⟩:=T.hi
 have ht:=T.ht
 subst hm
 by_cases h0:ys.length=0
 ·have hn:ys=[]:=List.eq_nil_of_length_eq_zero h0
  subst hn
  have hr:(Builtin.append_ #[t,t] ty #[.slice (some ⟨g,0,none⟩) 0 0, .slice A ([]:List α).length c]).run P w= .ok (.slice (some ⟨g,0,none⟩) 0 0) w:=by
   cases A<;>simp[Builtin.append_,run_underlying ht,sizeOf,typeInfo,hi,Builtin.lenOf,Builtin.firstCells,loadCells,loadCellsFrom,storeCells]
  rw[hr]at hrun
  simp only[Result.ok.injEq]at hrun
  obtain⟨rfl,rfl⟩:=hrun
  obtain⟨z,hz⟩:=ext_below (Below.refl w.heap.size w)
  exact⟨_,z,by rw[<-hz];exact hr,by rw[<-hz];exact h2⟩
 ·obtain⟨b,off,rfl,hb0,hc⟩:=hS (by omega)
  have hfl:=flat_len f size hlen ys
  have hr:=run_append_grow (P:=P) w t ty e i z ht hi hz ⟨g,0,none⟩ 0 0 [] (by simp) (by simp) ⟨b,off,none⟩ ys.length c (ys.flatMap f) (by rw[hfl,hs]) (sl_flat hlen hc) (by omega) (by omega) (growslice_fits (by omega) (by rw[hb];exact hb1))
  rw[hr]at hrun
  simp only[Result.ok.injEq]at hrun
  obtain⟨rfl,rfl⟩:=hrun
  have hB:Below w.heap.size w (w.drew.alloc (.cells ((([]:List Value).toArray++(ys.flatMap f).toArray++Builtin.zeroCells z.cells (grownCap w (0+ys.length) 0 e-(0+ys.length)))) e)):=B_alloc (B_drew (Below.refl _ _)) _ (Nat.le_refl _)
  obtain⟨z',hz'⟩:=ext_below hB
  exact⟨_,z',by rw[<-hz'];exact hr,by rw[<-hz'];exact h2⟩
theorem wp_append_fresh {o:Oper} {a:Act} {K:Act->World->Prop} {Q:Exit->Act->World->Prop} (s x:Operand) (ho:o.op= .call {callee:= .builtin .append,args:= #[s,x],argTypes:= #[t,t]})
 (T:ElTy P t e size bytes) (hlen: ∀x,(f x).length=size) (hone: ∀x,∀u∈f x,u.oneCell'=true) (hby:bytes<=1000) {w:World} {base g m c:Nat} (hs:a.eval s= .slice (some ⟨g,0,none⟩) 0 0) (hg:w.heap[g]?=some (.cells #[] e (0,0))) (hbg:base<=g)
 {A:Option Addr} {ys:List α} (hx:a.eval x= .slice A m c) (hm:m=ys.length) (hys:ys.length<=100000) (hS:Sl w size f A ys) (hbase:base<=w.heap.size)
 (h: ∀v' z,(w.ext z).ownsRow base e size v' ys.length (ys.flatMap f)->K (a.put o.dst v') (w.ext z)):o.wp P a w K Q:=by
 obtain⟨v',z,hrun,h2⟩:=run_append_fresh (ty:=o.type) (c:=c) T hlen hone hg hbg hm hS hys hby hbase
 unfold Oper.wp execOp
 simp only[ho,resolve,invoke,builtin,Sem.run_bind,Sem.run_pure,Result.andThen_ok,List.map_toArray,List.map_cons,List.map_nil,hs,hx,hrun]
 exact h v' z h2
theorem wpList_append_fresh {ops:Array Oper} {rest:List Oper} {o:Oper} {a:Act} {Q:Exit->Act->World->Prop} (hgd:o.guard=none) (s x:Operand) (ho:o.op= .call {callee:= .builtin .append,args:= #[s,x],argTypes:= #[t,t]})
 (T:ElTy P t e size bytes) (hlen: ∀x,(f x).length=size) (hone: ∀x,∀u∈f x,u.oneCell'=true) (hby:bytes<=1000) {w:World} {base g m c:Nat} (hs:a.eval s= .slice (some ⟨g,0,none⟩) 0 0) (hg:w.heap[g]?=some (.cells #[] e (0,0))) (hbg:base<=g)
 {A:Option Addr} {ys:List α} (hx:a.eval x= .slice A m c) (hm:m=ys.length) (hys:ys.length<=100000) (hS:Sl w size f A ys) (hbase:base<=w.heap.size)
 (h: ∀v' z,(w.ext z).ownsRow base e size v' ys.length (ys.flatMap f)->wpList P ops Q rest (a.put o.dst v') (w.ext z)):wpList P ops Q (o::rest) a w:=
 wpList_plain hgd fun _ hK=>wp_append_fresh s x ho T hlen hone hby hs hg hbg hx hm hys hS hbase fun v' z h2=>hK _ _ (h v' z h2)
theorem step_append_fresh {ops:Array Oper} {o:Oper} {a:Act} {K:Act->World->Prop} {Q:Exit->Act->World->Prop} {E:Prop} (hgd:o.guard=none) (s x:Operand) (ho:o.op= .call {callee:= .builtin .append,args:= #[s,x],argTypes:= #[t,t]})
 (T:ElTy P t e size bytes) (hlen: ∀x,(f x).length=size) (hone: ∀x,∀u∈f x,u.oneCell'=true) (hby:bytes<=1000) {w:World} {base g m c:Nat} (hs:a.eval s= .slice (some ⟨g,0,none⟩) 0 0) (hg:w.heap[g]?=some (.cells #[] e (0,0))) (hbg:base<=g)
 {A:Option Addr} {ys:List α} (hx:a.eval x= .slice A m c) (hm:m=ys.length) (hys:ys.length<=100000) (hS:Sl w size f A ys) (hbase:base<=w.heap.size)
 (h: ∀v' z,(w.ext z).ownsRow base e size v' ys.length (ys.flatMap f)->K (a.put o.dst v') (w.ext z)):
 if Region.wanted o (yielded ops a.tmps)=true then Oper.wp P o a w K Q else E:=by
 have hw:Region.wanted o (yielded ops a.tmps)=true:=by simp[Region.wanted,hgd]
 rw[if_pos hw]
 exact wp_append_fresh s x ho T hlen hone hby hs hg hbg hx hm hys hS hbase h
end
theorem event_len (e:Event):e.cells.length=7:=rfl
theorem site_len (e:Site):e.cells.length=6:=rfl
theorem rest_len (e:Rest):e.cells.length=3:=rfl
theorem lot_len (e:Lot):e.cells.length=6:=rfl
theorem berth_len (e:Berth):e.cells.length=2:=rfl
theorem event_one (e:Event): ∀u∈e.cells,u.oneCell'=true:=by simp[Event.cells,Value.oneCell']
theorem site_one (e:Site): ∀u∈e.cells,u.oneCell'=true:=by simp[Site.cells,Value.oneCell']
theorem rest_one (e:Rest): ∀u∈e.cells,u.oneCell'=true:=by simp[Rest.cells,Value.oneCell']
theorem lot_one (e:Lot): ∀u∈e.cells,u.oneCell'=true:=by simp[Lot.cells,Value.oneCell']
theorem berth_one (e:Berth): ∀u∈e.cells,u.oneCell'=true:=by simp[Berth.cells,Value.oneCell']
theorem stay_one (e:Stay): ∀u∈e.cells,u.oneCell'=true:=by simp[Stay.cells,Lot.cells,Value.oneCell']
theorem elTy_of {P:Program} {t e:TypeId} {size bytes:Nat} {z:Value} (ht:P.underlying t=some (.slice e)) (h:(P.info? e).map (fun i=>(i.zero,i.size,i.bytes))=some (some z,size,bytes)) (hz:z.cells.size=size) (hsz:0<size):ElTy P t e size bytes:=by
 obtain⟨i,h1,h2,h3,h4⟩:=info_parts h
 exact⟨ht,⟨i,z,h1,h2,h3,h4,hz⟩,hsz⟩
end Go.Proofs.YtmaidggpbihlgaaGreatDoor
