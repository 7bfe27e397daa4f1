/- Walks of chapter 5's people: contains, marriages, who is dead. -/
import Derived.Test.YtckkbkdcdkhglaaGreatDoorJI
set_option linter.unusedSimpArgs false
set_option linter.unusedVariables false
set_option maxRecDepth 100000
set_option maxHeartbeats 4000000
namespace Go.Proofs.YtckkbkdcdkhglaaGreatDoor
open Go.RowKit Go.Shelf
attribute [local go_sem] World.cell?_alloc_mark zag za5 zaq za8 zaw zax zay zaz za0 za1 za2
attribute [local go_sem] zap zad
theorem zor {P:Program} (w:World) (t e ty:TypeId) (z:Value) (ht:P.underlying t=some (.slice e)) (hv: ∀w,(zeroValue e).run P w= .ok z w) (h1: ∀u∈z.cells,u.oneCell'=true) (hp:0<z.cells.size) (b o n c:Nat) (hn:0<n)
 (hc: ∀j,j<n*z.cells.size->(w.cell? ⟨b,o+j,none⟩).isSome=true) (hf: ∀j,j<n*z.cells.size->w.frozen? ⟨b,o+j,none⟩=false):
 (Builtin.clear_ #[t] ty #[.slice (some ⟨b,o,none⟩) n c]).run P w= .ok (.tuple #[]) (w.setCells b o (Builtin.zeroCells z.cells n).toList):=by
 have hl:(Builtin.zeroCells z.cells n).toList.length=n*z.cells.size:=by simp[Builtin.zeroCells]
 have am:=run_storeCells_cells (P:=P) b o (Builtin.zeroCells z.cells n).toList 0 w (by rw[hl];simpa using hc) (by rw[hl];simpa using hf) (by
  intro v jC;refine h1 v ?_;obtain⟨i,hi,rfl⟩:=List.getElem_of_mem jC;simp[Builtin.zeroCells]at hi⊢
  first|done|exact Array.getElem_mem _|simp[Nat.mod_lt _ hp])
 simp only[Nat.add_zero]at am;obtain⟨m,rfl⟩: ∃m,n=m+1:=⟨n-1,by omega⟩
 simp[Builtin.clear_,run_underlying ht,hv,am]
theorem zeN {P:Program} {ops:Array Oper} {o:Oper} {a:Act} {w:World} {K:Act->World->Prop} {Q:Exit->Act->World->Prop} {E:Prop}
 (hg:o.guard=none) (d x:Operand) (dT sT:TypeId) (Kt:o.op=Op.call {callee:=Callee.builtin Builtin.append,args:= #[d,x],argTypes:= #[dT,sT]})
 (v u:Value) (hd:a.eval d=v) (hx:a.eval x=u) {v':Value} {w':World} (hr:(Builtin.append_ #[dT,sT] o.type #[v,u]).run P w= .ok v' w') (hK:K (a.put o.dst v') w'):
 if Region.wanted o (yielded ops a.tmps)=true then Oper.wp P o a w K Q else E:=by
 have hw:Region.wanted o (yielded ops a.tmps)=true:=by simp[Region.wanted,hg]
 rw[if_pos hw];unfold Oper.wp;simp[execOp,Kt,resolve,invoke,builtin,hd,hx,hr,Result.andThen];exact hK
theorem del_any (base:Nat) (xs:Parts) (w:World) (hl:xs.length<=100000) (v:Value) (ae:OwnS w base 63 3 zaa v xs) (i:Nat) (hi:i<xs.length):
 Calls Tryz.prog 178 #[v, .int .i64 i, .int .i64 (i+1:Nat)] w (zfb w base v (xs.take i++xs.drop (i+1))):=by
 rcases ae with⟨rfl,rfl⟩|⟨g,o,c,cur,rfl,kh,hg,hc,km,bm,hx⟩
 ·simp at hi
 have mixed:Tryz.prog.follows .mixedOrders=true:=Mcm;obtain⟨i0,z,eN,Ag,fx,Ah,uj⟩:=zdO.hi;have hsz:(Tryz.prog.info? 63).map (·.size)=some 3:=by rw[eN];simp[fx]
 have bz:((xs.drop (i+1)).flatMap zaa).length=(xs.length-(i+1))*3:=Md6;have bk: ∀j,j<c*3->(w.cell? ⟨g,o+j,none⟩).isSome=true:=fun j hj=>by simp[World.cell?,hg];omega
 have cN:((xs.take (i+1)).flatMap zaa).length=(i+1)*3:=Mc3;have cV:xs.flatMap zaa=(xs.take (i+1)).flatMap zaa++(xs.drop (i+1)).flatMap zaa:=Mdb;have nB: ∀(A:Addr),(i+1<xs.length->A=⟨g,o+(i+1)*3,none⟩)-> ∀ty cc,(Builtin.append_ #[28,28] ty #[.slice (some ⟨g,o,none⟩) i c, .slice (some A) (xs.length-(i+1)) cc]).run Tryz.prog w.drew= .ok (.slice (some ⟨g,o,none⟩) (i+(xs.length-(i+1))) c) (w.drew.setCells g (o+i*3) ((xs.drop (i+1)).flatMap zaa)):=fun A hA ty cc=>by
  have:=run_append_room_cells (P:=Tryz.prog) w.drew 28 ty 63 i0 Tryz.underlying28 eN g o i c A (xs.length-(i+1)) cc ((xs.drop (i+1)).flatMap zaa) (by rw[bz,fx])
   (fun j u hj=>by
     have d9:=(List.getElem?_eq_some_iff.1 hj).1;rw[hA Mcl,Addr.add_lit];have e:(xs.flatMap zaa)[(i+1)*3+j]?=some u:=by rw[cV,List.getElem?_append_right Mcl,cN,Nat.add_sub_cancel_left];exact hj
     have:=hx _ _ e;show w.cell? _=_;simp only[World.cell?,hg,Nat.add_assoc]
     exact this) (zir _) Mcl (fun j hj=>by rw[fx];rw[bz]at hj;show(w.cell? _).isSome=_;rw[Nat.add_assoc];exact bk _ Mcl) (fun j hj=>by show w.frozen? _=_;simp[World.frozen?,hg])
  rw[fx]at this;exact this
 have aN:i+(xs.length-(i+1))=xs.length-1:=Mcl;rw[aN]at nB;obtain⟨cur1,k1,k2,k3,k4⟩:=zbM g ((xs.drop (i+1)).flatMap zaa) (o+i*3) w.drew cur hg (by rw[bz];omega);have bP:=zbG g ((xs.drop (i+1)).flatMap zaa) (o+i*3) w.drew;obtain⟨W1,aV⟩: ∃W1,W1=w.drew.setCells g (o+i*3) ((xs.drop (i+1)).flatMap zaa):=⟨_,rfl⟩
 rw[<-aV]at nB k1 bP;have Cu: ∀ty cc,(Builtin.clear_ #[28] ty #[.slice (some ⟨g,o+(xs.length-1)*3,none⟩) (xs.length-(xs.length-1)) cc]).run Tryz.prog W1= .ok (.tuple #[]) (W1.setCells g (o+(xs.length-1)*3) (Builtin.zeroCells (Value.agg #[.string ⟨#[]⟩, .int .i64 0, .int .i64 0]).cells (xs.length-(xs.length-1))).toList):=fun ty cc=>
  zor W1 28 63 ty (.agg #[.string ⟨#[]⟩, .int .i64 0, .int .i64 0]) Tryz.underlying28 Tryz.zeroValue63 (by simp[Value.cells,Value.oneCell']) (by simp[Value.cells]) g _ _ cc Mcl
   (fun j hj=>by simp[Value.cells]at hj;simp[World.cell?,k1,k2];omega) (fun j hj=>by simp[World.frozen?,k1])
 have HF:Hid (zfb w base (.slice (some ⟨g,o,none⟩) xs.length c) (xs.take i++xs.drop (i+1)) (.returned (.slice (some ⟨g,o,none⟩) (xs.length-1) c)) (W1.setCells g (o+(xs.length-1)*3) (Builtin.zeroCells (Value.agg #[.string ⟨#[]⟩, .int .i64 0, .int .i64 0]).cells (xs.length-(xs.length-1))).toList)):=by
  have sG:w.grownBy W1 (some g):=⟨bP.os,bP.tape,bP.output,bP.size,bP.block⟩
  have yE:(Builtin.zeroCells (Value.agg #[.string ⟨#[]⟩, .int .i64 0, .int .i64 0]).cells (xs.length-(xs.length-1))).toList.length=3:=by
   rw[Array.length_toList,zee];simp[Value.cells];omega
  obtain⟨cur2,l1,l2,l3,l4⟩:=zbM g _ (o+(xs.length-1)*3) W1 cur1 k1 (by rw[yE,k2];omega);have ag:(xs.take i++xs.drop (i+1)).length=xs.length-1:=Mcq;refine⟨_,rfl, .inr ⟨g,o,c,cur2,by rw[ag],kh,l1,by rw[ag];omega,km,by rw[l2,k2];exact bm,fun j u hj=> ?_⟩,zbn sG (zbG _ _ _ _),fun g' h=> .inl h⟩;have d9:=(List.getElem?_eq_some_iff.1 hj).1;rw[zes,ag]at d9;rw[l3 _ (.inl Mcl)];have KE:((xs.take i).flatMap zaa).length=i*3:=Mc3;rw[List.flatMap_append]at hj;by_cases cq:j<i*3
  ·rw[List.getElem?_append_left Mcl]at hj;rw[k3 _ (.inl Mcl)];refine hx j u ?_;exact MaI
  ·rw[List.getElem?_append_right Mcl,KE]at hj;have:=k4 _ u hj;rwa [show o+i*3+(j-i*3)=o+j by omega]at this
 have aZ:(i:Int)+1<=(xs.length:Int):=Mcl;have ba:(0:Int)<=(i:Int):=Mcl;have bF: ¬((i:Int)=(i:Int)+1):=Mcl;have av:(xs.length:Int)<=(c:Int):=Mcl;have aD:(i:Int)<=(c:Int):=Mcl;have aj: ¬(c=xs.length-1):=Mcl;have aE:((xs.length-1:Nat):Int)<=(xs.length:Int):=Mcl;have bG:(0:Int)<=(i:Int)+1:=Mcl;have fS:((i:Int)+1).toNat=i+1:=Mcl;clear aV k1 k2 k3 k4 bP bk hx bz cN cV hg aN;go_enter Tryz.func178,Tryz.ntmps178
 by_cases hlast:c=i+1
 ·clear av aD aj aE aZ hl;generalize hm:xs.length=m at*;obtain rfl:m=i+1:=by omega
  subst hlast;clear hm hc hi;have df:(i:Int)<=(i:Int)+1:=Mcl;simp only[Nat.add_sub_cancel,Nat.add_sub_cancel_left,Nat.sub_self]at nB Cu HF;go_wp2_with fail
  go_region_law_o (go_loud(refine zeN rfl _ _ 28 28 rfl _ (.slice (some ⟨g,o,none⟩) 0 0) Mda (by simp[Act.eval,Act.put]) (nB _ (fun h=>absurd h Mcl) _ _) ?_))
  go_wp2_with fail
  go_ret
  exact HF.o
 ·go_wp2_with fail
  go_region_law_o (go_loud(refine zeN rfl _ _ 28 28 rfl _ _ Mda Mda (nB _ (fun _=>rfl) _ _) ?_))
  go_wp2_with fail
  go_ret
  exact HF.o
theorem ins_any (base:Nat) (xs:Parts) (p:ByteArray×Rat) (vb:Nat) (w:World) (hl:xs.length<=100000) (dF:w.heap[vb]?=some (.cells #[.string p.1, .int .i64 p.2.num, .int .i64 p.2.den] 63)) (aQ:base<=w.heap.size) (v:Value)
 (ae:OwnS w base 63 3 zaa v xs) (ai:za7 v≠some vb) (i:Nat) (hi:i<=xs.length):
 Calls Tryz.prog 179 #[v, .int .i64 i, .slice (some ⟨vb,0,none⟩) 1 1] w (zfb w base v (xs.take i++p::xs.drop i)):=by
 by_cases he:i=xs.length
 ·subst he;rw[List.take_of_length_le (Nat.le_refl _),List.drop_eq_nil_of_le (Nat.le_refl _)];exact zoq base xs p vb w hl dF aQ v ae
 ·have aa:i<xs.length:=Mcl;rcases ae with⟨rfl,rfl⟩|⟨g,o,c,cur,rfl,kh,hg,hc,km,bm,hx⟩
  ·simp at aa
  ·by_cases hr:xs.length+1<=c
   ·exact zm6 base xs p vb w hl dF aQ g o c cur kh hg hr km bm hx i aa (fun e=>ai (by rw[e];rfl))
   ·have e:c=xs.length:=Mcl;subst e;exact zm7 base xs p vb w hl dF aQ g o cur hg hx i aa
theorem zhF {W:World} {base:Nat} {e t:TypeId} {size:Nat} {f:ByteArray×Rat->List Value} {v:Value} {xs:Parts} {T:Nat} {cs:Array Value} {fr:Nat×Nat} (h:OwnS W base e size f v xs) (hT:W.heap[T]?=some (.cells cs t fr)) (ai:t≠e):za7 v≠some T:=by
 exact M4
def zkt (w:World) (base T:Nat) (pl:ByteArray) (cl fr en:Int) (dv v:Value) (ys:Parts) (e:Ending) (w':World):Prop:=
 e= .returned (.tuple #[])/\ ∃v',zbv w' T pl cl fr en v' dv/\OwnS w' base 63 3 zaa v' ys/\Below base w w'/\ ∀k,k<w.heap.size->k≠T->za7 v≠some k->w'.heap[k]?=w.heap[k]?
theorem numZ (q:Rat):(q==0)=(q.num==0):=by
 rw[Bool.eq_iff_iff,beq_iff_eq,beq_iff_eq,Rat.num_eq_zero]
theorem set_at {P Q:Parts} {nm:ByteArray} {q:Rat} (hP: ∀p∈P,zbo p.1 nm=true) (hQ: ∀p∈Q,zbo p.1 nm=false):
 setP (P++Q) nm q=if q.num==0 then(if zdN Q nm then P++Q.drop 1 else P++Q)else if zdN Q nm then P++(nm,q)::Q.drop 1 else P++(nm,q)::Q:=by
 rw[zep hP,<-numZ];cases Q with
 |nil=>simp[setP,zdN];split<;>simp
 |cons b Q=>
  rw[setP,hQ b Mco];simp only[zdN,Bool.false_eq_true,if_false,List.drop_succ_cons,List.drop_zero];split<;>split<;>simp_all
theorem zgn {W:World} {T:Nat} {pl:ByteArray} {cl fr en:Int} {v dv:Value} (h:zbv W T pl cl fr en v dv) (v':Value):zbv (W.setCell ⟨T,4,none⟩ v') T pl cl fr en v' dv:=by
 unfold zbv at*;have:=Joins.block_setCell (i:=4) h v';simpa using this
theorem own_set2 {W:World} {base g o n c:Nat} {P Q:Parts} {b:ByteArray×Rat} {q:Rat} (h:OwnS W base 63 3 zaa (.slice (some ⟨g,o,none⟩) n c) (P++b::Q)):
 OwnS ((W.setCell ⟨g,o+P.length*3+1,none⟩ (.int .i64 q.num)).setCell ⟨g,o+P.length*3+1+1,none⟩ (.int .i64 q.den)) base 63 3 zaa (.slice (some ⟨g,o,none⟩) n c) (P++(b.1,q)::Q):=by
 rcases h with⟨h,_⟩|⟨g',o',c',cur,h,hb,hg,hc,hm,hs,hx⟩
 ·cases h
 ·simp only[Value.slice.injEq,Option.some.injEq,Addr.mk.injEq,and_true]at h;obtain⟨⟨rfl,rfl⟩,rfl,rfl⟩:=h;refine .inr ⟨g,o,c,(cur.setIfInBounds (o+P.length*3+1) (.int .i64 q.num)).setIfInBounds (o+P.length*3+1+1) (.int .i64 q.den),by simp,hb,heap_setCell_same _ g _ _ _ _ (heap_setCell_same W g _ cur _ _ hg),by simpa using hc,hm,by simpa using hs,fun j u hj=> ?_⟩;have hl:(P.flatMap zaa).length=P.length*3:=zes P;have d9:=(List.getElem?_eq_some_iff.1 hj).1;rw[zes]at d9;simp only[List.length_append,List.length_cons]at d9 hc;rw[List.flatMap_append,List.flatMap_cons]at hj;by_cases h1:j<P.length*3
  ·rw[List.getElem?_append_left Mcl]at hj;rw[Array.getElem?_setIfInBounds_ne Mcl,Array.getElem?_setIfInBounds_ne Mcl];refine hx j u ?_;rw[List.flatMap_append,List.getElem?_append_left Mcl];exact hj
  ·rw[List.getElem?_append_right Mcl,hl]at hj;by_cases h2:j-P.length*3<3
   ·rw[List.getElem?_append_left (by rw[zan];exact h2)]at hj;obtain h3|h3|h3:j-P.length*3=0\/j-P.length*3=1\/j-P.length*3=2:=by omega
    ·rw[h3]at hj;rw[Array.getElem?_setIfInBounds_ne Mcl,Array.getElem?_setIfInBounds_ne Mcl];refine hx j u ?_;rw[List.flatMap_append,List.flatMap_cons,List.getElem?_append_right Mcl,hl,List.getElem?_append_left (by rw[zan];exact h2),h3];exact hj
    ·rw[h3]at hj;rw[Array.getElem?_setIfInBounds_ne Mcl,show o+j=o+P.length*3+1 by omega,Array.getElem?_setIfInBounds_self_of_lt Mcl];simpa[zaa]using hj
    ·rw[h3]at hj;rw[show o+j=o+P.length*3+1+1 by omega,Array.getElem?_setIfInBounds_self_of_lt Mcq];simpa[zaa]using hj
   ·rw[List.getElem?_append_right Md4,zan]at hj;rw[Array.getElem?_setIfInBounds_ne Mcl,Array.getElem?_setIfInBounds_ne Mcl];refine hx j u ?_;rw[List.flatMap_append,List.flatMap_cons,List.getElem?_append_right Mcl,hl,List.getElem?_append_right Md4,zan];exact hj
theorem zis (base T:Nat) (xs:Parts) (v:Value) (pl:ByteArray) (cl fr en:Int) (dv:Value) (nm:ByteArray) (q:Rat) (w:World) (hT:zbv w T pl cl fr en v dv) (rF:base<=T) (ae:OwnS w base 63 3 zaa v xs) (hA:AscP xs) (hl:xs.length<=90000):
 Calls Tryz.prog 159 #[.pointer (some ⟨T,0,none⟩), .string nm, .agg #[.int .i64 q.num, .int .i64 q.den]] w (zkt w base T pl cl fr en dv v (setP xs nm q)):=by
 unfold zbv at hT;have aa:T<w.heap.size:=zab hT;have zK:base<=w.heap.size:=Mcl;have zB:za7 v≠some T:=zhF ae hT Mcn;have fF:=ae.ge;obtain⟨A,c,Gm,hS,hc⟩:=ae.sl zan;have kj:w.cell? ⟨T,4,none⟩=some v:=by simp[World.cell?,hT]
 have JG:w.frozen? ⟨T,4,none⟩=false:=by simp[World.frozen?,hT]
 have ai:T≠w.heap.size:=Mcl;have HO:=zHi ae;have HS:=zHi hS;have HA:=zHi hA;have HV:=zHi Gm;have HT:=zHi hT;clear hS hA ae Gm hT;go_enter Tryz.func159,Tryz.ntmps159
 go_upto_region 3 with(go_at_call 177;refine(znF xs A c T nm _ (by rw[<-HV.o];simp[go_sem,aa,kj]) Mcl HA.o (HS.o.keep (n:=w.heap.size) Bw)).mono ?_;rintro e wq ⟨P,Q,bw,hP,hQ,rfl,z,rfl⟩;subst bw)
 have iJ:=set_at (q:=q) hP hQ;have gx:=zHi iJ;clear iJ hP hQ;generalize hh:zdN Q nm=ok at*;have HH:=zHi hh;clear hh;obtain⟨W,hW⟩: ∃W,W=(w.alloc (.cells #[.int .i64 q.num, .int .i64 q.den] 58)).ext z:=⟨_,rfl⟩
 have f9:Below w.heap.size w W:=by rw[hW];exact Bw
 have q0:W.cell? ⟨w.heap.size,0,none⟩=some (.int .i64 q.num):=by rw[hW];simp[go_sem]
 have q1:W.cell? ⟨w.heap.size,1,none⟩=some (.int .i64 q.den):=by rw[hW];simp[go_sem]
 have rp:zbv W T pl cl fr en v dv:=(f9.block T aa).trans HT.o;have hWs:w.heap.size<W.heap.size:=by rw[hW];simp[zag];omega
 have vQ:=zHi (HO.o.keep (n:=w.heap.size) f9);have we:T<W.heap.size:=zab rp;rw[<-hW];clear hW;have c4:W.cell? ⟨T,4,none⟩=some v:=by unfold zbv at rp;simp[World.cell?,rp]
 have f4:W.frozen? ⟨T,4,none⟩=false:=by unfold zbv at rp;simp[World.frozen?,rp]
 have qI:=zHi rp;clear rp kj JG ai;have fq:P.length<=(P++Q).length:=Mco;have HB:Hid (∀w1,W.grownBy w1 (za7 v)->Below base w w1/\w1.heap[T]?=W.heap[T]?):=fun w1 h2=>⟨Below.grown (f9.mono zK) h2 (Nat.le_trans zK f9.size) (fun j hj=>(fF j hj).1),h2.block T we (fun e=>zB e.symm)⟩
 have uC:Hid (∀w1 v' ys,W.grownBy w1 (za7 v)->OwnS w1 base 63 3 zaa v' ys->(∀g,za7 v'=some g->za7 v=some g\/W.heap.size<=g)->setP (P++Q) nm q=ys->zkt w base T pl cl fr en dv v (setP (P++Q) nm q) (.returned (.tuple #[])) (w1.setCell ⟨T,4,none⟩ v')):=fun w1 v' ys h2 h1 h3 hs=>by
  obtain⟨aZ,u9⟩:=HB.o w1 h2;have jC:za7 v'≠some T:=fun e=>by
   rcases h3 T e with h|h
   ·exact zB h
   ·omega
  rw[hs];refine⟨rfl,v',zgn (u9.trans qI.o) v',h1.grown (zau _ _ _ _) (.inr jC),zaO aZ rF _,fun k hk zY oF=> ?_⟩;have FI:k<W.heap.size:=Nat.lt_of_lt_of_le hk f9.size;rw[(zau w1 T 4 v').block k (Nat.lt_of_lt_of_le FI h2.size) (fun e=>zY MdH),h2.block k FI (fun e=>oF e.symm),f9.block k hk]
 cases hq:(q.num==0)
 ·have HQ:=zHi hq;have gR: ¬q.num=0:=by simpa using hq
  clear hq;cases ok
  ·
   have jd:Hid (setP (P++Q) nm q=(P++Q).take P.length++(nm,q)::(P++Q).drop P.length):=by
    show _=_;rw[gx.o,HQ.o,List.take_left,List.drop_left];simp
   have eG:Hid (((P++Q).take P.length++(nm,q)::(P++Q).drop P.length).length=P.length+(Q.length+1)):=by show _=_;simp
   go_upto_region 2 with fail
   go_region_law (go_simp;go_at_call 179
                  refine(ins_any base (P++Q) (nm,q) W.heap.size _ Mcl ?q1 ?q2 v ?q3 ?q4 P.length Mcl).mono ?_
                  case q1=>(first|exact zar _ _ _ rfl|(refine J_drew ?_;exact zar _ _ _ rfl))
                  case q2=>simp;omega
                  case q3=>exact vQ.o.keep (n:=W.heap.size) Bw
                  case q4=>(intro e;have:=(fF _ e).2;omega)
                  rintro e w1 ⟨v',rfl,h1,h2,h3⟩;obtain⟨A',c',jC,_,_⟩:=h1.sl zan;rw[eG.o]at jC;subst jC;have t1:=(h2.block T Mcq (fun e=>zB e.symm)).trans (show _=some (Obj.cells #[.string pl, .int .i64 cl, .int .i64 fr, .int .i64 en,v,dv] 75 (0,0)) from(Below.heap_alloc _ _ _ we).trans qI.o);have k1:w1.cell? ⟨T,4,none⟩=some v:=by simp[World.cell?,t1]
                  have k2:w1.frozen? ⟨T,4,none⟩=false:=by simp[World.frozen?,t1])
   all_goals go_wp2_with fail
   all_goals go_end0
   all_goals exact uC.o w1 _ _ (zbn (World.grownBy_alloc W _ _) ⟨h2.os,h2.tape,h2.output,h2.size,h2.block⟩) h1 (fun g hg=>(h3 g hg).imp id (fun h=>by simp at h;omega)) jd.o
  ·
   cases Q with
   |nil=>have:=HH.o;simp[zdN]at this
   |cons b Q=>
    have gZ:b.1=nm:=zat.1 HH.o;rcases vQ.o with⟨_,h'⟩|⟨g,o,cap,cur,hv,hb,hg,bo,km,bm,hx⟩
    ·simp at h'
    subst hv;have hl:(P.flatMap zaa).length=P.length*3:=zes P;have gX: ∀j u,(zaa b)[j]?=some u->cur[o+P.length*3+j]?=some u:=fun j u hj=>by
     have:=hx (P.length*3+j) u (by rw[List.flatMap_append,List.flatMap_cons,List.getElem?_append_right Mcl,hl,Nat.add_sub_cancel_left,List.getElem?_append_left (List.getElem?_eq_some_iff.1 hj).1];exact hj);rwa [<-Nat.add_assoc]at this
    have k1:W.cell? ⟨g,o+P.length*3+1,none⟩=some (.int .i64 b.2.num):=by simp only[World.cell?,hg];exact gX 1 _ rfl
    have k2:W.cell? ⟨g,o+P.length*3+1+1,none⟩=some (.int .i64 b.2.den):=by simp only[World.cell?,hg];exact gX 2 _ rfl
    have k3:W.frozen? ⟨g,o+P.length*3+1,none⟩=false:=by simp[World.frozen?,hg]
    have k4:W.frozen? ⟨g,o+P.length*3+1+1,none⟩=false:=by simp[World.frozen?,hg]
    have Fz:T≠g:=fun e=>zB (by rw[e];rfl)
    have iR:g≠w.heap.size:=by have:=(fF g rfl).2;omega
    have tO:(P.length:Int)<((P++b::Q).length:Int):=Mcq;have eN:(0:Int)<=(P.length:Int):=Mcl;have jd:Hid (setP (P++b::Q) nm q=P++(b.1,q)::Q):=by
     show _=_;rw[gx.o,HQ.o,gZ];simp
    clear hx gX hg;go_upto_region 7 with fail
    go_region
    all_goals go_wp2_with fail
    all_goals go_end0
    all_goals exact⟨rfl,_,(J_ne Fz (J_ne Fz qI.o):_),by rw[jd.o];exact own_set2 vQ.o,by have hBb:=f9.mono zK;exact Bw,fun k hk zY oF=>((zbn (zau W g _ _) (zau _ g _ _)).block k (Nat.lt_of_lt_of_le hk f9.size) (fun e=>oF (by rw[e];rfl))).trans (f9.block k hk)⟩
 ·have HQ:=zHi hq;have gR:q.num=0:=by simpa using hq
  clear hq;cases ok
  ·
   go_wp2_with fail
   go_end0
   exact⟨rfl,v,qI.o,by rw[gx.o,HQ.o];exact vQ.o,f9.mono zK,fun k hk _ _=>f9.block k hk⟩
  ·
   have bD:P.length<(P++Q).length:=by
    cases Q with
    |nil=>have:=HH.o;simp[zdN]at this
    |cons b Q=>simp
   have jd:Hid (setP (P++Q) nm q=(P++Q).take P.length++(P++Q).drop (P.length+1)):=by
    show _=_;rw[gx.o,HQ.o,List.take_left,List.drop_append];simp
   have eG:Hid (((P++Q).take P.length++(P++Q).drop (P.length+1)).length=P.length+(Q.length-1)):=by show _=_;simp
   have wM:=del_any base (P++Q) W Mcl v vQ.o P.length bD;rw[show((P.length+1:Nat):Int)=(P.length:Int)+1 by omega]at wM;have jD:IntKind.i64.wrap ((P.length:Int)+1)=(P.length:Int)+1:=McX;go_wp2_with (go_at_call 178;go_loud(refine wM.mono ?_;rintro e w1 ⟨v',rfl,h1,h2,h3⟩;obtain⟨A',c',jC,_,_⟩:=h1.sl zan;rw[eG.o]at jC;subst jC;have t1:w1.heap[T]?=some (Obj.cells #[.string pl, .int .i64 cl, .int .i64 fr, .int .i64 en,v,dv] 75 (0,0)):=(HB.o w1 h2).2.trans qI.o;have k1:w1.cell? ⟨T,4,none⟩=some v:=(by simp[World.cell?,t1]);have k2:w1.frozen? ⟨T,4,none⟩=false:=(by simp[World.frozen?,t1])))
   go_end0
   exact uC.o w1 _ _ h2 h1 h3 jd.o
end Go.Proofs.YtckkbkdcdkhglaaGreatDoor
namespace Go.Proofs.YtckkbkdcdkhglaaGreatDoor
open Go.RowKit
attribute [local go_sem] World.cell?_alloc_mark zag za5 zaq za8 zaw zax zay zaz za0 za1 za2
theorem zjF {V:Type} (ev:V->Value) (s:ByteArray): ∀(es:List MapEntry) (m:List (ByteArray×V)),es.map (fun e=>(e.key,e.val))=m.map (fun p=>(ekS p.1,ev p.2))-> ∀i,
 Instr.findNow .string (.string s) es i=some ((locate eqS s m i).map fun p=>(p.1,ev p.2))
 | [],[],_,_=>rfl
 | [],_::_,h,_=>by simp at h
 |_::_,[],h,_=>by simp at h
 |e::es,p::m,h,i=>by
  simp only[List.map_cons,List.cons.injEq,Prod.mk.injEq]at h;obtain⟨⟨hk,hv⟩,ht⟩:=h;unfold Instr.findNow locate;rw[hk,hv,ekS,Instr.sameNow,beq_toListBytes];cases hq:eqS s p.1
  ·rw[eqS]at hq;rw[hq];simpa using zjF ev s es m ht (i+1)
  ·rw[eqS]at hq;rw[hq];rfl
theorem zku {V:Type} {t et:TypeId} {ev:V->Value} {z:V} (ht:Tryz.prog.underlying t=some (.map 9 et)) (hz: ∀w,(zeroValue et).run Tryz.prog w= .ok (ev z) w):MapTy Tryz.prog t 9 et ekS ev z eqS where
 ht:=ht
 hz:=hz
 hck:=zoi
 hfind:=fun k es m h w=>by
  simp[Instr.findKey,run_underlying Tryz.underlying9,ekS,zjF ev k es m h 0]
 hsame:=fun k k' h=>by
  rw[ekS,ekS,zgL,beq_toListBytes];rw[eqS]at h;rw[eq_of_beq h];exact beq_self_eq_true _
def nilS:Value:= .slice none 0 0
theorem zos:MapTy Tryz.prog 82 9 4 ekS evB false eqS:=zku Tryz.underlying82 (fun w=>by kernel_rfl)
theorem zm8:MapTy Tryz.prog 83 9 36 ekS (fun v:Value=>v) nilS eqS:=zku Tryz.underlying83 (fun w=>by kernel_rfl)
theorem mapSP:MapTy Tryz.prog 84 9 28 ekS (fun v:Value=>v) nilS eqS:=zku Tryz.underlying84 (fun w=>by kernel_rfl)
theorem mapSF:MapTy Tryz.prog 125 9 58 ekS (fun v:Value=>v) (.agg #[.int .i64 0, .int .i64 0]) eqS:=zku Tryz.underlying125 (fun w=>by kernel_rfl)
def ekP (p:ByteArray×ByteArray):Value:= .agg #[.string p.1, .string p.2]
def eqP (a b:ByteArray×ByteArray):Bool:=eqS a.1 b.1&&eqS a.2 b.2
theorem info_str: ∃i,Tryz.prog.info? 9=some i:=⟨_,(by kernel_rfl:Tryz.prog.info? 9=some (Tryz.prog.info? 9).get!)⟩
theorem cells_str:Tryz.prog.cellsOf 9=1:=by kernel_rfl
theorem zln (d:Nat) (a c a' c':ByteArray) (w:World):(Op.equalIn (d+2) 136 (.agg #[.string a, .string c]) (.agg #[.string a', .string c'])).run Tryz.prog w= .ok (eqS a a'&&eqS c c') w:=by
 obtain⟨i,hi⟩:=info_str;rw[run_equalIn_array w (d+1) _ _ Tryz.underlying136 hi,cells_str];have hr:List.range 2=[0,1]:=rfl;rw[hr];simp only[Op.eqItems,Sem.run_bind,Nat.zero_mul,Nat.one_mul];have hp: ∀(v:Array Value) (j:Nat) (x:ByteArray),v[j]?=some (.string x)-> ∀W,(part 9 v j).run Tryz.prog W= .ok (.string x) W:=fun v j x hv W=>by
  simp[part,isAgg,run_underlying Tryz.underlying9,hv]
 rw[hp _ 0 a rfl,Result.andThen_ok,hp _ 0 a' rfl,Result.andThen_ok,run_equalIn_string w d 9 a a' Tryz.underlying9,Result.andThen_ok];cases h1:(a.toList==a'.toList)
 ·simp[eqS,h1]
 ·simp only[Bool.not_true,Bool.false_eq_true,if_false,Sem.run_bind];rw[hp _ 1 c rfl,Result.andThen_ok,hp _ 1 c' rfl,Result.andThen_ok,run_equalIn_string w d 9 c c' Tryz.underlying9,Result.andThen_ok];cases h2:(c.toList==c'.toList)<;>simp[eqS,h1,h2]
theorem equal_p (a c a' c':ByteArray) (w:World):(Op.equal 136 (.agg #[.string a, .string c]) (.agg #[.string a', .string c'])).run Tryz.prog w= .ok (eqS a a'&&eqS c c') w:=zln 9998 a c a' c' w
theorem findNow_p (v:Value) (e:MapEntry) (es:List MapEntry) (n:Nat) (t:TypeId) (i:Nat):Instr.findNow (.array n t) v (e::es) i=none:=by
 unfold Instr.findNow;cases v<;>simp[Instr.sameNow]
theorem zhs (p:ByteArray×ByteArray) (w:World): ∀(es:List MapEntry) (m:List ((ByteArray×ByteArray)×Bool)),es.map (fun e=>(e.key,e.val))=m.map (fun p=>(ekP p.1,evB p.2))-> ∀i,
 (Instr.findAsking 136 (ekP p) es i).run Tryz.prog w= .ok ((locate eqP p m i).map fun p=>(p.1,evB p.2)) w
 | [],[],_,_=>by simp[Instr.findAsking,locate]
 | [],_::_,h,_=>by simp at h
 |_::_,[],h,_=>by simp at h
 |e::es,q::m,h,i=>by
  simp only[List.map_cons,List.cons.injEq,Prod.mk.injEq]at h;obtain⟨⟨hk,hv⟩,ht⟩:=h;unfold Instr.findAsking locate;have h1:=equal_p p.1 p.2 q.1.1 q.1.2 w;have h2:=zhs p w es m ht (i+1);rw[hk,hv];simp only[ekP]at h1 h2⊢;simp only[Sem.run_bind,h1,Result.andThen_ok];change Sem.run _ (if(eqP p q.1)=true then _ else _) w=_;cases hq:eqP p q.1
  ·simpa using h2
  ·simp
theorem zot (e:Bool) (p:ByteArray×ByteArray) (w:World):(Instr.checkKey e 10000 136 (ekP p)).run Tryz.prog w= .ok () w:=by
 obtain⟨a,c⟩:=p;cases e<;>kernel_rfl
theorem zou (a c a' c':ByteArray) (h1:a=a') (h2:c=c'):Instr.sameBits 10000 (.agg #[.string a, .string c]) (.agg #[.string a', .string c'])=true:=by
 subst h1 h2;have h2: ∀n,Instr.sameBits (n+1) (.agg #[.string a, .string c]) (.agg #[.string a, .string c])=true:=fun n=>by simp[Instr.sameBits,zgL,beq_toListBytes]
 exact h2 9999
theorem eqS_eq {a b:ByteArray} (h:eqS a b=true):a=b:=zat.1 h
theorem mapPB:MapTy Tryz.prog 85 136 4 ekP evB false eqP where
 ht:=Tryz.underlying85
 hz:=fun w=>by kernel_rfl
 hck:=zot
 hfind:=fun k es m h w=>by
  match es,m,h with
  | [],[],_=>simp[Instr.findKey,run_underlying Tryz.underlying136,Instr.findNow,locate]
  | [],_::_,h=>simp at h
  |e::es,m,h=>
   simp only[Instr.findKey,Sem.run_bind,run_underlying Tryz.underlying136,Result.andThen_ok,findNow_p];exact zhs k w (e::es) m h 0
 hsame:=fun k k' h=>by
  obtain⟨a,c⟩:=k;obtain⟨a',c'⟩:=k';simp only[eqP,Bool.and_eq_true]at h;exact zou a' c' a c (eqS_eq h.1).symm (eqS_eq h.2).symm
end Go.Proofs.YtckkbkdcdkhglaaGreatDoor
namespace Go.Proofs.YtckkbkdcdkhglaaGreatDoor
open Go.RowKit
def sC (s:ByteArray):List Value:=[.string s]
theorem zaB (s:ByteArray):(sC s).length=1:=rfl
theorem zbJ (s:ByteArray): ∀u∈sC s,u.oneCell'=true:=by simp[sC,Value.oneCell']
theorem zbk (p:ByteArray×ByteArray):(zaT p).length=2:=rfl
theorem zdB (p:ByteArray×ByteArray): ∀u∈zaT p,u.oneCell'=true:=by simp[zaT,Value.oneCell']
def ptrC (T:Nat):List Value:=[.pointer (some ⟨T,0,none⟩)]
theorem zcY (T:Nat):(ptrC T).length=1:=rfl
theorem znG (T:Nat): ∀u∈ptrC T,u.oneCell'=true:=by simp[ptrC,Value.oneCell']
theorem zbK:ElTy Tryz.prog 36 9 1 16:=zd5 (z:= .string ⟨#[]⟩) Mcm Mcm rfl Mcn
theorem zgo:ElTy Tryz.prog 37 136 2 32:=zd5 (z:= .agg #[.string ⟨#[]⟩, .string ⟨#[]⟩]) Mcm Mcm rfl Mcn
theorem elTomb:ElTy Tryz.prog 88 72 1 8:=zd5 (z:= .pointer none) Mcm Mcm rfl Mcn
def Ro {α:Type} (W:World) (e:TypeId) (f:α->List Value) (A:Option Addr) (xs:List α):Prop:=
 0<xs.length-> ∃b off cur fr,A=some ⟨b,off,none⟩/\W.heap[b]?=some (.cells cur e fr)/\ ∀j u,(xs.flatMap f)[j]?=some u->cur[off+j]?=some u
section
variable {α:Type} {W W':World} {e:TypeId} {size base:Nat} {f:α->List Value} {A:Option Addr} {xs:List α} {v:Value}
theorem Ro.sl (ag: ∀x,(f x).length=size) (h:Ro W e f A xs):Sl W size f A xs:=fun hl=>by
 obtain⟨b,off,cur,fr,hA,hb,hx⟩:=h hl;refine⟨b,off,hA,(Array.getElem?_eq_some_iff.1 hb).1,fun k x hk j u hu=> ?_⟩;have:=hx (k*size+j) u (zeR f size ag xs k x hk j u hu);simp only[World.cell?,hb,Nat.add_assoc];exact this
theorem Ro.same (h:Ro W e f A xs) (hk: ∀b cur fr,W.heap[b]?=some (.cells cur e fr)->(∀off,A=some ⟨b,off,none⟩->True)->W'.heap[b]?=W.heap[b]?):Ro W' e f A xs:=fun hl=>by
 obtain⟨b,off,cur,fr,hA,hb,hx⟩:=h hl;exact⟨b,off,cur,fr,hA,(hk b cur fr hb fun _ _=>trivial).trans hb,hx⟩
theorem Ro.keep {n:Nat} (h:Ro W e f A xs) (hB:Below n W W') (hn:W.heap.size<=n:=by first|exact Nat.le_refl _|omega):Ro W' e f A xs:=
 h.same fun b cur fr hb _=>hB.block b (Nat.lt_of_lt_of_le (Array.getElem?_eq_some_iff.1 hb).1 hn)
theorem Ro.nil:Ro W e f A ([]:List α):=fun h=>absurd h Mco
theorem OwnS.ro (h:OwnS W base e size f v xs): ∃A c,v= .slice A xs.length c/\xs.length<=c/\Ro W e f A xs:=by
 rcases h with⟨rfl,rfl⟩|⟨g,o,c,cur,rfl,_,hg,hc,_,_,hx⟩
 ·exact⟨none,0,rfl,Nat.le_refl _,Ro.nil⟩
 ·exact⟨_,c,rfl,hc,fun _=>⟨g,o,cur,_,rfl,hg,hx⟩⟩
theorem OwnS.kept {g:Nat} {cs:Array Value} {t:TypeId} {fr:Nat×Nat} (h:OwnS W base e size f v xs) (hg:W.grownBy W' (some g)) (hx:W.heap[g]?=some (.cells cs t fr)) (ai:t≠e):OwnS W' base e size f v xs:=
 h.grown hg (by
  rcases h with⟨rfl,_⟩|⟨g',o,c,cur,rfl,_,eA,_⟩
  ·exact .inl rfl
  ·refine .inr fun e'=> ?_
   simp only[za7,Option.some.injEq]at e';subst e';rw[eA]at hx;simp only[Option.some.injEq,Obj.cells.injEq]at hx
   exact ai hx.2.1.symm)
theorem OwnS.keptM {g:Nat} {es:Array MapEntry} {c:Nat} (h:OwnS W base e size f v xs) (hg:W.grownBy W' (some g)) (hx:W.heap[g]?=some (.map es c)):OwnS W' base e size f v xs:=
 h.grown hg (by
  rcases h with⟨rfl,_⟩|⟨g',o,c,cur,rfl,_,eA,_⟩
  ·exact .inl rfl
  ·refine .inr fun e'=> ?_
   simp only[za7,Option.some.injEq]at e';subst e';rw[eA]at hx
   simp at hx)
theorem Ro.kept {g:Nat} {cs:Array Value} {t:TypeId} {fr:Nat×Nat} (h:Ro W e f A xs) (hg:W.grownBy W' (some g)) (hx:W.heap[g]?=some (.cells cs t fr)) (ai:t≠e):Ro W' e f A xs:=
 h.same fun b cur fr' hb _=>hg.block b (Array.getElem?_eq_some_iff.1 hb).1 (fun e'=>by
  simp only[Option.some.injEq]at e';subst e';rw[hb]at hx;simp only[Option.some.injEq,Obj.cells.injEq]at hx
  exact ai hx.2.1.symm)
theorem Ro.keptM {g:Nat} {es:Array MapEntry} {c:Nat} (h:Ro W e f A xs) (hg:W.grownBy W' (some g)) (hx:W.heap[g]?=some (.map es c)):Ro W' e f A xs:=
 h.same fun b cur fr' hb _=>hg.block b (Array.getElem?_eq_some_iff.1 hb).1 (fun e'=>by
  simp only[Option.some.injEq]at e';subst e';rw[hb]at hx
  simp at hx)
end
theorem MapS.keptC {W W':World} {b g:Nat} {K V:Type} {ek:K->Value} {ev:V->Value} {m:List (K×V)} {cs:Array Value} {t:TypeId} {fr:Nat×Nat} (h:MapS W b ek ev m) (hg:W.grownBy W' (some g)) (hx:W.heap[g]?=some (.cells cs t fr)):MapS W' b ek ev m:=
 h.grown hg (fun e=>by
  simp only[Option.some.injEq]at e;subst e;obtain⟨es,c,h1,_⟩:=h;rw[h1]at hx
  simp at hx)
def RowIs (W:World) (base:Nat) (m:List (ByteArray×Value)) (n:ByteArray) (xs:List ByteArray):Prop:=
 (mget eqS n m=none/\xs=[])\/ ∃v,mget eqS n m=some v/\OwnS W base 9 1 sC v xs
def WillIs (W:World) (m:List (ByteArray×Value)) (n:ByteArray) (xs:Parts):Prop:=
 (mget eqS n m=none/\xs=[])\/ ∃A c,mget eqS n m=some (.slice A xs.length c)/\Ro W 63 zaa A xs
def zaX (m:List (ByteArray×Value)):List Nat:=m.filterMap fun e=>za7 e.2
structure PplAt (base:Nat) (W:World) (B:List Nat) (d c p wl r:Nat) (mv:Value) (s:St):Prop where
 nd:[d,c,p,wl,r].Nodup
 ge:base<=d/\base<=c/\base<=p/\base<=wl/\base<=r
 dead:MapS W d ekS evB (s.dead.map fun n=>(n,true))
 rows: ∃mc mp,MapS W c ekS (fun v:Value=>v) mc/\MapS W p ekS (fun v:Value=>v) mp/\(∀n,RowIs W base mc n (zai s n))/\(∀n,RowIs W base mp n (zbQ s n))/\B=zaX (mc++mp)/\(B.Nodup/\(mc.map (·.1)).Nodup/\(mp.map (·.1)).Nodup)
 marr:OwnS W base 136 2 zaT mv s.marriages
 wills: ∃m,MapS W wl ekS (fun v:Value=>v) m/\ ∀n,WillIs W m n (zbu s n)
 ren:MapS W r ekP evB (s.renounce.map fun x=>(x,true))
def TombAt (W:World) (base:Nat) (B:List Nat) (T:Nat) (g:Grave):Prop:=
 ∃H hc D dc fr,zbv W T g.place g.cls fr g.fin (.slice H g.holders.length hc) (.slice D g.died.length dc)/\base<=T/\g.holders.length<=hc/\g.died.length<=dc/\Ro W 63 zaa H g.holders/\Ro W 9 sC D g.died/\(0<g.died.length-> ∀a,D=some a->a.block∉B)
structure TombsAt (base:Nat) (W:World) (B:List Nat) (tv:Value) (ps:List Nat) (gs:List Grave):Prop where
 own:OwnS W base 72 1 ptrC tv ps
 len:ps.length=gs.length
 nd:ps.Nodup
 all: ∀(i T:Nat) (g:Grave),ps[i]?=some T->gs[i]?=some g->TombAt W base B T g
def WldC (W:World) (b d c p wl r:Nat) (mv tv:Value) (last count:Int):Prop:=W.heap[b]?=some (.cells #[.map (some d), .map (some c), .map (some p),mv, .map (some wl), .map (some r),tv, .int .i64 last, .int .i64 count] 90)
def WldAt (base:Nat) (W:World) (b:Nat) (s:St) (last count:Int):Prop:=
 ∃B d c p wl r mv tv ps,base<=b/\WldC W b d c p wl r mv tv last count/\PplAt base W B d c p wl r mv s/\TombsAt base W B tv ps s.graves
def PeoAt (base:Nat) (W:World) (b:Nat) (s:St):Prop:= ∃B d c p wl r mv tv la co,WldC W b d c p wl r mv tv la co/\PplAt base W B d c p wl r mv s
section
variable {base n:Nat} {W W':World} {B:List Nat} {d c p wl r:Nat} {mv tv:Value} {s:St} {m:List (ByteArray×Value)} {nm:ByteArray}
theorem RowIs.keep {xs:List ByteArray} (h:RowIs W base m nm xs) (hB:Below n W W') (hn:W.heap.size<=n:=by first|exact Nat.le_refl _|omega):RowIs W' base m nm xs:=by
 rcases h with h|⟨v,h1,h2⟩
 ·exact .inl h
 ·exact .inr ⟨v,h1,h2.keep hB hn⟩
theorem WillIs.keep {xs:Parts} (h:WillIs W m nm xs) (hB:Below n W W') (hn:W.heap.size<=n:=by first|exact Nat.le_refl _|omega):WillIs W' m nm xs:=by
 rcases h with h|⟨A,c,h1,h2⟩
 ·exact .inl h
 ·exact .inr ⟨A,c,h1,h2.keep hB hn⟩
theorem PplAt.keep (h:PplAt base W B d c p wl r mv s) (hB:Below n W W') (hn:W.heap.size<=n:=by first|exact Nat.le_refl _|omega):PplAt base W' B d c p wl r mv s:=by
 obtain⟨mc,mp,k1,k2,k3,k4,k5,k6⟩:=h.rows;obtain⟨m,k7,k8⟩:=h.wills;exact⟨h.nd,h.ge,h.dead.below hB hn,⟨mc,mp,k1.below hB hn,k2.below hB hn,fun x=>(k3 x).keep hB hn,fun x=>(k4 x).keep hB hn,k5,k6⟩,h.marr.keep hB hn,⟨m,k7.below hB hn,fun x=>(k8 x).keep hB hn⟩,h.ren.below hB hn⟩
theorem TombAt.keep {T:Nat} {g:Grave} (h:TombAt W base B T g) (hB:Below n W W') (hn:W.heap.size<=n:=by first|exact Nat.le_refl _|omega):TombAt W' base B T g:=by
 obtain⟨H,hc,D,dc,fr,h1,h2,h3,h4,h5,h6,h7⟩:=h;exact⟨H,hc,D,dc,fr,(hB.block T (Nat.lt_of_lt_of_le (zab h1) hn)).trans h1,h2,h3,h4,h5.keep hB hn,h6.keep hB hn,h7⟩
theorem TombsAt.keep {ps:List Nat} {gs:List Grave} (h:TombsAt base W B tv ps gs) (hB:Below n W W') (hn:W.heap.size<=n:=by first|exact Nat.le_refl _|omega):TombsAt base W' B tv ps gs:=
 ⟨h.own.keep hB hn,h.len,h.nd,fun i T g h1 h2=>(h.all i T g h1 h2).keep hB hn⟩
theorem WldC.keep {b:Nat} {la co:Int} (h:WldC W b d c p wl r mv tv la co) (hB:Below n W W') (hn:W.heap.size<=n:=by first|exact Nat.le_refl _|omega):WldC W' b d c p wl r mv tv la co:=
 (hB.block b (Nat.lt_of_lt_of_le (zab h) hn)).trans h
theorem WldAt.keep {b:Nat} {la co:Int} (h:WldAt base W b s la co) (hB:Below n W W') (hn:W.heap.size<=n:=by first|exact Nat.le_refl _|omega):WldAt base W' b s la co:=by
 obtain⟨B,d,c,p,wl,r,mv,tv,ps,h1,h2,h3,h4⟩:=h;exact⟨B,d,c,p,wl,r,mv,tv,ps,h1,h2.keep hB hn,h3.keep hB hn,h4.keep hB hn⟩
theorem PeoAt.keep {b:Nat} (h:PeoAt base W b s) (hB:Below n W W') (hn:W.heap.size<=n:=by first|exact Nat.le_refl _|omega):PeoAt base W' b s:=by
 obtain⟨B,d,c,p,wl,r,mv,tv,la,co,h1,h2⟩:=h;exact⟨B,d,c,p,wl,r,mv,tv,la,co,h1.keep hB hn,h2.keep hB hn⟩
theorem WldAt.peo {b:Nat} {la co:Int} (h:WldAt base W b s la co):PeoAt base W b s:=by
 obtain⟨B,d,c,p,wl,r,mv,tv,ps,h1,h2,h3,h4⟩:=h;exact⟨B,d,c,p,wl,r,mv,tv,la,co,h2,h3⟩
theorem WldAt.lt {b:Nat} {la co:Int} (h:WldAt base W b s la co):b<W.heap.size/\base<=b:=by
 obtain⟨B,d,c,p,wl,r,mv,tv,ps,h1,h2,h3,h4⟩:=h;exact⟨zab h2,h1⟩
end
theorem PplAt.kept {base:Nat} {W W':World} {B:List Nat} {d c p wl r g:Nat} {mv:Value} {s:St} {cs:Array Value} {t:TypeId} {fr:Nat×Nat} (h:PplAt base W B d c p wl r mv s) (hg:W.grownBy W' (some g)) (hx:W.heap[g]?=some (.cells cs t fr))
 (h1:t≠9) (h2:t≠136) (h3:t≠63):PplAt base W' B d c p wl r mv s:=by
 obtain⟨mc,mp,k1,k2,k3,k4,k5,k6⟩:=h.rows;obtain⟨m,k7,k8⟩:=h.wills;have bi: ∀ {m:List (ByteArray×Value)} {nm:ByteArray} {xs:List ByteArray},RowIs W base m nm xs->RowIs W' base m nm xs:=fun h=>by
  rcases h with h|⟨v,pg,ID⟩
  ·exact .inl h
  ·exact .inr ⟨v,pg,ID.kept hg hx h1⟩
 refine⟨h.nd,h.ge,h.dead.keptC hg hx,⟨mc,mp,k1.keptC hg hx,k2.keptC hg hx,fun x=>bi (k3 x),fun x=>bi (k4 x),k5,k6⟩,h.marr.kept hg hx h2,⟨m,k7.keptC hg hx,fun x=> ?_⟩,h.ren.keptC hg hx⟩;rcases k8 x with h'|⟨A,c,e1,e2⟩
 ·exact .inl h'
 ·exact .inr ⟨A,c,e1,e2.kept hg hx h3⟩
end Go.Proofs.YtckkbkdcdkhglaaGreatDoor
namespace Go.Proofs.YtckkbkdcdkhglaaGreatDoor
open Go.RowKit Go.Shelf
attribute [local go_sem] World.cell?_alloc_mark zag za5 zaq za8 zaw zax zay zaz za0 za1 za2
attribute [local go_sem] zap zad
theorem zhG (n:ByteArray): ∀l:List ByteArray,(mget eqS n (l.map fun x=>(x,true))).getD false=l.any (zae n)
 | []=>rfl
 |x::l=>by
  rw[List.map_cons,mget,List.any_cons];show(if eqS n x=true then some true else _).getD false=_;have e:eqS n x=zae n x:=rfl;rw[e];cases h:zae n x
  ·simpa using zhG n l
  ·rfl
theorem zm9 (k:ByteArray×ByteArray): ∀l:List (ByteArray×ByteArray),(mget eqP k (l.map fun x=>(x,true))).getD false=l.any fun r=>zae r.1 k.1&&zae r.2 k.2
 | []=>rfl
 |x::l=>by
  rw[List.map_cons,mget,List.any_cons];have e1: ∀a b:ByteArray,zae a b=zae b a:=fun a b=>by
   rw[Bool.eq_iff_iff,zat,zat];exact⟨Eq.symm,Eq.symm⟩
  have e:eqP k x=(zae x.1 k.1&&zae x.2 k.2):=by rw[e1 x.1,e1 x.2];rfl
  show(if eqP k x=true then some true else _).getD false=_;rw[e];cases h:(zae x.1 k.1&&zae x.2 k.2)
  ·simpa using zm9 k l
  ·rfl
theorem zcZ {base:Nat} {W:World} {B:List Nat} {d c p wl r:Nat} {mv:Value} {s:St} (h:PplAt base W B d c p wl r mv s) (n:ByteArray):
 (Instr.lookup 82 (.map (some d)) (.string n) false).run Tryz.prog W= .ok (.bool (zaH s n)) W:=by
 have:=zb0 zos h.dead.at n;rw[zhG]at this;exact this
theorem znH {base:Nat} {W:World} {B:List Nat} {d c p wl r:Nat} {mv:Value} {s:St} (h:PplAt base W B d c p wl r mv s) (a b:ByteArray):
 (Instr.lookup 85 (.map (some r)) (.agg #[.string a, .string b]) false).run Tryz.prog W= .ok (.bool (s.renounce.any fun x=>zae x.1 a&&zae x.2 b)) W:=by
 have:=zb0 mapPB h.ren.at (a,b);rw[zm9]at this;exact this
theorem PplAt.drewN {base:Nat} {W:World} {B:List Nat} {d c p wl r:Nat} {mv:Value} {s:St} (h:PplAt base W B d c p wl r mv s) (q:Nat):PplAt base (W.drewN q) B d c p wl r mv s:=h.keep (n:=W.heap.size) ⟨rfl,rfl,rfl,Nat.le_refl _,fun _ _=>rfl⟩
theorem zlo (base b X:Nat) (s:St) (q:RPart) (w:World) (hW:PeoAt base w b s) (hX:X<w.heap.size) (hc:w.cell? ⟨X,0,none⟩=some (.pointer (some ⟨b,0,none⟩))):
 Calls Tryz.prog 175 #[.agg #[.string q.name, .int .i64 q.num, .int .i64 q.den], .pointer (some ⟨X,0,none⟩)] w (Ret w (.bool (zaH s q.name))):=by
 obtain⟨B,d,c,p,wl,r,mv,tv,la,co,h1,h2⟩:=hW;have hb:=zab h1;unfold WldC at h1;have c0:w.cell? ⟨b,0,none⟩=some (.map (some d)):=Mej;have eB: ∀o q',(Instr.lookup 82 (.map (some d)) (.string q.name) false).run Tryz.prog ((w.alloc o).drewN q')= .ok (.bool (zaH s q.name)) ((w.alloc o).drewN q'):=fun o q'=>zcZ ((h2.keep (n:=w.heap.size) (zac (Below.refl _ _) o)).drewN q') _
 have hXn:X≠w.heap.size:=Mcl;have gZ:b≠w.heap.size:=Mcl;clear h1 h2;go_enter Tryz.func175,Tryz.ntmps175
 go_wp2_with fail
 go_quiet (fail)
 exact Mau
theorem zkv (base b X:Nat) (s:St) (xs:List RPart) (w:World) (hW:PeoAt base w b s) (hX:X<w.heap.size) (hc:w.cell? ⟨X,0,none⟩=some (.pointer (some ⟨b,0,none⟩))):
 zeY 175 #[.pointer (some ⟨X,0,none⟩)] (fun x=> .agg (RPart.cells x).toArray) (fun q=>zaH s q.name) xs w:=fun x _ W hB=>by
 refine(zlo base b X s x W (hW.keep hB) (Nat.lt_of_lt_of_le hX hB.size) ((hB.cell (p:=⟨X,0,none⟩) hX).trans hc)).mono ?_;rintro e wq ⟨rfl,z,rfl⟩;exact⟨rfl,hB.trans ((zam W z).mono hB.size)⟩
theorem zit (base b:Nat) (s:St) (xs:List RPart) (A:Option Addr) (n c:Nat) (w:World) (hn:n=xs.length) (hl:xs.length<=100000) (hW:PeoAt base w b s) (hS:Sl w 3 RPart.cells A xs):
 Calls Tryz.prog 157 #[.pointer (some ⟨b,0,none⟩), .slice A n c] w (Ret w (.bool (zdW s xs))):=by
 have eg: ∀args w,(callFunc 175 args).run Tryz.prog w= .ok (.enter 175 args) w:=enters_of Tryz.func175 Mcm rfl;have HS:=zHi hS;have HW:=zHi hW;have HN:=zHi hn;clear hS hW hn;go_enter Tryz.func157,Tryz.ntmps157
 go_wp2_with (go_at_call 83
              refine(zcO _ _ eg (fun q=>zaH s q.name) _ n _ xs _ HN.o hl (HS.o.keep (n:=w.heap.size) Bw) (zkv base b _ s xs _ (HW.o.keep (n:=w.heap.size) Bw) Mco McN)).mono ?_
              rintro e wq ⟨rfl,z,rfl⟩)
 go_ret
 exact Ret.of rfl Bw
theorem zlp (xs:List ByteArray) (x:ByteArray) (A:Option Addr) (n c:Nat) (w:World) (hn:n=xs.length) (hl:xs.length<=100000) (hS:Sl w 1 sC A xs):
 Calls Tryz.prog 49 #[.slice A n c, .string x] w (Ret0 w (.bool (xs.any (zae x)))):=by
 subst hn;by_cases h0:xs.length=0
 ·have hx:xs=[]:=List.eq_nil_of_length_eq_zero h0;subst hx;have bC:=AnyE.slices_Contains_empty coStr A c (.string x) w;change Calls Tryz.prog 49 _ _ _ at bC;exact Mbh
 ·obtain⟨b,off,rfl,hb,hc⟩:=hS Mcl;haveI:Inhabited ByteArray:=⟨⟨#[]⟩⟩
  have bC:=AnyE.slices_Contains coStr Value.string (fun a b:ByteArray=>a.toList==b.toList) (EqlAt.string _ _) b off xs.length c xs x w (Nat.le_refl _) Mcl (fun j hj=>by
   rw[getElem!_pos xs j hj];have:=hc j _ (List.getElem?_eq_getElem hj) 0 _ rfl
   simpa using this)
  rw[List.take_of_length_le (Nat.le_refl _)]at bC;change Calls Tryz.prog 49 _ _ _ at bC;exact Mbh
theorem eqlPair:EqlAt Tryz.prog 136 (fun x:ByteArray×ByteArray=> .agg (zaT x).toArray) eqP:=by
 refine⟨fun x y w=> ?_,GuardAt.agg _ Mcm⟩;show(binOp .eql 136 (.agg #[.string x.1, .string x.2]) (.agg #[.string y.1, .string y.2])).run Tryz.prog w=_;rw[run_eql_struct,zln 9998 x.1 x.2 y.1 y.2 w];rfl
theorem ixPairNil (A:Option Addr) (c:Nat) (a b:ByteArray) (w:World):Calls Tryz.prog 114 #[.slice A 0 c, .agg #[.string a, .string b]] w (Ret w (.int .i64 (-1))):=by
 go_enter Tryz.func114,Tryz.ntmps114
 go_wp2_with fail
 go_loopw [5,8] (fun _ i wr=>i= .int .i64 0/\ ∃z,wr=w.ext z) (fun _ _ _=>0)
 case atStart=>exact⟨rfl,zbb Bw⟩
 case round=>
  obtain⟨rfl,z,rfl⟩:=hrel;exact Mau
theorem coPairNil (A:Option Addr) (c:Nat) (a b:ByteArray) (w:World):Calls Tryz.prog 85 #[.slice A 0 c, .agg #[.string a, .string b]] w (Ret w (.bool false)):=by
 go_enter Tryz.func85,Tryz.ntmps85
 go_wp2_with (go_at_call 114;refine(ixPairNil _ _ _ _ _).mono ?_;rintro e wq ⟨rfl,z,rfl⟩)
 go_ret
 exact Ret.of rfl Bw
theorem zov (xs:List (ByteArray×ByteArray)) (a b:ByteArray) (A:Option Addr) (n c:Nat) (w:World) (hn:n=xs.length) (hl:xs.length<=100000) (hS:Sl w 2 zaT A xs):
 Calls Tryz.prog 85 #[.slice A n c, .agg #[.string a, .string b]] w (Ret w (.bool (xs.any fun y=>eqP (a,b) y))):=by
 subst hn;by_cases h0:xs.length=0
 ·have hx:xs=[]:=List.eq_nil_of_length_eq_zero h0;subst hx;refine(coPairNil _ _ _ _ _).mono ?_;rintro e wq ⟨rfl,z,rfl⟩;exact Ret.of rfl Bw
 ·obtain⟨b',off,rfl,hb,hc⟩:=hS Mcl;haveI:Inhabited (ByteArray×ByteArray):=⟨(⟨#[]⟩,⟨#[]⟩)⟩
  have bC:=AnyQ.slices_Contains coPair 2 Tryz.isAgg136 Tryz.sizeOf136 zaT (fun _=>rfl) eqP eqlPair b' off xs.length c xs (a,b) w (Nat.le_refl _) Mcl (fun j hj i v hi=>by
   rw[getElem!_pos xs j hj]at hi
   exact hc j _ (List.getElem?_eq_getElem hj) i v hi)
  rw[List.take_of_length_le (Nat.le_refl _)]at bC;change Calls Tryz.prog 85 _ _ _ at bC;exact Mbg
def zhH (s:St) (a b:ByteArray):Bool:=s.marriages.any (fun y=>eqP (a,b) y)||s.marriages.any fun y=>eqP (b,a) y
theorem ziu (base b:Nat) (s:St) (x y:ByteArray) (w:World) (hW:PeoAt base w b s) (hl:s.marriages.length<=100000):
 Calls Tryz.prog 47 #[.pointer (some ⟨b,0,none⟩), .string x, .string y] w (Ret w (.bool (zhH s x y))):=by
 obtain⟨B,d,c,p,wl,r,mv,tv,la,co,h1,h2⟩:=hW;obtain⟨A,cc,rfl,hS,hc⟩:=h2.marr.sl zbk;have hb:=zab h1;unfold WldC at h1;have c3:w.cell? ⟨b,3,none⟩=some (.slice A s.marriages.length cc):=Mej;have HS:=zHi hS;clear h1 h2 hS;go_enter Tryz.func47,Tryz.ntmps47
 go_wp2_with (go_at_call 85;refine(zov s.marriages _ _ A _ cc _ rfl hl (HS.o.keep (n:=w.heap.size) Bw)).mono ?_;intro e wq hq;rcases Ret.bools hq with⟨zq,rfl,⟨hb,rfl⟩|⟨hb,rfl⟩⟩<;>clear hq)
 all_goals go_ret
 all_goals exact Ret.of (zaP (by simp[zhH, *])) Bw
end Go.Proofs.YtckkbkdcdkhglaaGreatDoor
