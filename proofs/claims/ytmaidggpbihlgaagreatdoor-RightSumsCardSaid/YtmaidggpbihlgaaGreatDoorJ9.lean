/- Walk of chapter 5's tomb.set. -/
import Derived.Test.YtmaidggpbihlgaaGreatDoorJI
set_option linter.unusedSimpArgs false
set_option linter.unusedVariables false
namespace Go.Proofs.YtmaidggpbihlgaaGreatDoor
open Go.RowKit Go.Shelf
attribute [local go_sem] World.cell?_alloc_mark ext_size ext_cell ext_frozen lt_add_r lt_add_r2 lt_add_r3 lt_add_r4 lt_add_r5 lt_add_r6 lt_add_r7 lt_add_r8
attribute [local go_sem] ext_setCell alloc_setCell_lt
theorem run_clearK {P:Program} (w:World) (t e ty:TypeId) (z:Value) (ht:P.underlying t=some (.slice e)) (hv: ∀w,(zeroValue e).run P w= .ok z w) (h1: ∀u∈z.cells,u.oneCell'=true) (hp:0<z.cells.size) (b o n c:Nat) (hn:0<n)
 (hc: ∀j,j<n*z.cells.size->(w.cell? ⟨b,o+j,none⟩).isSome=true) (hf: ∀j,j<n*z.cells.size->w.frozen? ⟨b,o+j,none⟩=false):
 (Builtin.clear_ #[t] ty #[.slice (some ⟨b,o,none⟩) n c]).run P w= .ok (.tuple #[]) (w.setCells b o (Builtin.zeroCells z.cells n).toList):=by
 have hl:(Builtin.zeroCells z.cells n).toList.length=n*z.cells.size:=by simp[Builtin.zeroCells]
 have hst:=run_storeCells_cells (P:=P) b o (Builtin.zeroCells z.cells n).toList 0 w (by rw[hl];simpa using hc) (by rw[hl];simpa using hf) (by
  intro v hv'
  refine h1 v ?_
  obtain⟨i,hi,rfl⟩:=List.getElem_of_mem hv'
  simp[Builtin.zeroCells]at hi⊢
  first|done|exact Array.getElem_mem _|simp[Nat.mod_lt _ hp])
 simp only[Nat.add_zero]at hst
 obtain⟨m,rfl⟩: ∃m,n=m+1:=⟨n-1,by omega⟩
 simp[Builtin.clear_,run_underlying ht,hv,hst]
theorem step_append_runP {P:Program} {ops:Array Oper} {o:Oper} {a:Act} {w:World} {K:Act->World->Prop} {Q:Exit->Act->World->Prop} {E:Prop}
 (hg:o.guard=none) (d x:Operand) (dT sT:TypeId) (hop:o.op=Op.call {callee:=Callee.builtin Builtin.append,args:= #[d,x],argTypes:= #[dT,sT]})
 (v u:Value) (hd:a.eval d=v) (hx:a.eval x=u) {v':Value} {w':World} (hr:(Builtin.append_ #[dT,sT] o.type #[v,u]).run P w= .ok v' w') (hK:K (a.put o.dst v') w'):
 if Region.wanted o (yielded ops a.tmps)=true then Oper.wp P o a w K Q else E:=by
 have hw:Region.wanted o (yielded ops a.tmps)=true:=by simp[Region.wanted,hg]
 rw[if_pos hw]
 unfold Oper.wp
 simp[execOp,hop,resolve,invoke,builtin,hd,hx,hr,Result.andThen]
 exact hK
set_option maxRecDepth 100000 in
set_option maxHeartbeats 2000000 in
theorem del_any (base:Nat) (xs:Parts) (w:World) (hl:xs.length<=100000) (v:Value) (hown:OwnS w base 49 3 partCells v xs) (i:Nat) (hi:i<xs.length):
 Calls Tryz.prog 170 #[v, .int .i64 i, .int .i64 (i+1:Nat)] w (InsPost w base v (xs.take i++xs.drop (i+1))):=by
 rcases hown with⟨rfl,rfl⟩|⟨g,o,c,cur,rfl,hbg,hg,hc,hcm,hcs,hx⟩
 ·simp at hi
 have mixed:Tryz.prog.follows .mixedOrders=true:=by kernel_rfl
 obtain⟨i0,z,hi0,hz0,hzs,hzb,hzz⟩:=elPart.hi
 have hsz:(Tryz.prog.info? 49).map (·.size)=some 3:=by rw[hi0];simp[hzs]
 have hdl:((xs.drop (i+1)).flatMap partCells).length=(xs.length-(i+1))*3:=by rw[parts_len,List.length_drop]
 have hcell: ∀j,j<c*3->(w.cell? ⟨g,o+j,none⟩).isSome=true:=fun j hj=>by simp[World.cell?,hg];omega
 have htl:((xs.take (i+1)).flatMap partCells).length=(i+1)*3:=by rw[parts_len,List.length_take];congr 1;omega
 have hsplit:xs.flatMap partCells=(xs.take (i+1)).flatMap partCells++(xs.drop (i+1)).flatMap partCells:=by rw[<-List.flatMap_append,List.take_append_drop]
 have hap: ∀(A:Addr),(i+1<xs.length->A=⟨g,o+(i+1)*3,none⟩)-> ∀ty cc,(Builtin.append_ #[41,41] ty #[.slice (some ⟨g,o,none⟩) i c, .slice (some A) (xs.length-(i+1)) cc]).run Tryz.prog w.drew= .ok (.slice (some ⟨g,o,none⟩) (i+(xs.length-(i+1))) c) (w.drew.setCells g (o+i*3) ((xs.drop (i+1)).flatMap partCells)):=fun A hA ty cc=>by
  have:=run_append_room_cells (P:=Tryz.prog) w.drew 41 ty 49 i0 Tryz.underlying41 hi0 g o i c A (xs.length-(i+1)) cc ((xs.drop (i+1)).flatMap partCells) (by rw[hdl,hzs])
   (fun j u hj=>by
     have hjl:=(List.getElem?_eq_some_iff.1 hj).1
     rw[hA (by omega),Addr.add_lit]
     have e:(xs.flatMap partCells)[(i+1)*3+j]?=some u:=by rw[hsplit,List.getElem?_append_right (by omega),htl,Nat.add_sub_cancel_left];exact hj
     have:=hx _ _ e
     show w.cell? _=_
     simp only[World.cell?,hg,Nat.add_assoc]
     exact this) (parts_one _) (by omega) (fun j hj=>by rw[hzs];rw[hdl]at hj;show(w.cell? _).isSome=_;rw[Nat.add_assoc];exact hcell _ (by omega)) (fun j hj=>by show w.frozen? _=_;simp[World.frozen?,hg])
  rw[hzs]at this
  exact this
 have hin:i+(xs.length-(i+1))=xs.length-1:=by omega
 rw[hin]at hap
 obtain⟨cur1,k1,k2,k3,k4⟩:=setCells_blockO g ((xs.drop (i+1)).flatMap partCells) (o+i*3) w.drew cur hg (by rw[hdl];omega)
 have hgr1:=setCells_grown g ((xs.drop (i+1)).flatMap partCells) (o+i*3) w.drew
 obtain⟨W1,hW1⟩: ∃W1,W1=w.drew.setCells g (o+i*3) ((xs.drop (i+1)).flatMap partCells):=⟨_,rfl⟩
 rw[<-hW1]at hap k1 hgr1
 have hclr: ∀ty cc,(Builtin.clear_ #[41] ty #[.slice (some ⟨g,o+(xs.length-1)*3,none⟩) (xs.length-(xs.length-1)) cc]).run Tryz.prog W1= .ok (.tuple #[]) (W1.setCells g (o+(xs.length-1)*3) (Builtin.zeroCells (Value.agg #[.string ⟨#[]⟩, .int .i64 0, .int .i64 0]).cells (xs.length-(xs.length-1))).toList):=fun ty cc=>
  run_clearK W1 41 49 ty (.agg #[.string ⟨#[]⟩, .int .i64 0, .int .i64 0]) Tryz.underlying41 Tryz.zeroValue49 (by simp[Value.cells,Value.oneCell']) (by simp[Value.cells]) g _ _ cc (by omega)
   (fun j hj=>by simp[Value.cells]at hj;simp[World.cell?,k1,k2];omega) (fun j hj=>by simp[World.frozen?,k1])
 have HF:Hid (InsPost w base (.slice (some ⟨g,o,none⟩) xs.length c) (xs.take i++xs.drop (i+1)) (.returned (.slice (some ⟨g,o,none⟩) (xs.length-1) c)) (W1.setCells g (o+(xs.length-1)*3) (Builtin.zeroCells (Value.agg #[.string ⟨#[]⟩, .int .i64 0, .int .i64 0]).cells (xs.length-(xs.length-1))).toList)):=by
  have hwW:w.grownBy W1 (some g):=⟨hgr1.os,hgr1.tape,hgr1.output,hgr1.size,hgr1.block⟩
  have hzl:(Builtin.zeroCells (Value.agg #[.string ⟨#[]⟩, .int .i64 0, .int .i64 0]).cells (xs.length-(xs.length-1))).toList.length=3:=by
   rw[Array.length_toList,size_zeroCells];simp[Value.cells];omega
  obtain⟨cur2,l1,l2,l3,l4⟩:=setCells_blockO g _ (o+(xs.length-1)*3) W1 cur1 k1 (by rw[hzl,k2];omega)
  have hlen:(xs.take i++xs.drop (i+1)).length=xs.length-1:=by simp;omega
  refine⟨_,rfl, .inr ⟨g,o,c,cur2,by rw[hlen],hbg,l1,by rw[hlen];omega,hcm,by rw[l2,k2];exact hcs,fun j u hj=> ?_⟩,grown_trans hwW (setCells_grown _ _ _ _),fun g' h=> .inl h⟩
  have hjl:=(List.getElem?_eq_some_iff.1 hj).1
  rw[parts_len,hlen]at hjl
  rw[l3 _ (.inl (by omega))]
  have hti:((xs.take i).flatMap partCells).length=i*3:=by rw[parts_len,List.length_take];congr 1;omega
  rw[List.flatMap_append]at hj
  by_cases hji:j<i*3
  ·rw[List.getElem?_append_left (by omega)]at hj
   rw[k3 _ (.inl (by omega))]
   refine hx j u ?_
   have e:xs.flatMap partCells=(xs.take i).flatMap partCells++(xs.drop i).flatMap partCells:=by rw[<-List.flatMap_append,List.take_append_drop]
   rw[e,List.getElem?_append_left (by omega)]
   exact hj
  ·rw[List.getElem?_append_right (by omega),hti]at hj
   have:=k4 _ u hj
   rwa [show o+i*3+(j-i*3)=o+j by omega]at this
 have hb1:(i:Int)+1<=(xs.length:Int):=by omega
 have hb0:(0:Int)<=(i:Int):=by omega
 have hb2: ¬((i:Int)=(i:Int)+1):=by omega
 have hb3:(xs.length:Int)<=(c:Int):=by omega
 have hb4:(i:Int)<=(c:Int):=by omega
 have hb5: ¬(c=xs.length-1):=by omega
 have hb6:((xs.length-1:Nat):Int)<=(xs.length:Int):=by omega
 have hb7:(0:Int)<=(i:Int)+1:=by omega
 have htn:((i:Int)+1).toNat=i+1:=by omega
 clear hW1 k1 k2 k3 k4 hgr1 hcell hx hdl htl hsplit hg hin
 go_enter Tryz.func170,Tryz.ntmps170
 by_cases hlast:c=i+1
 ·clear hb3 hb4 hb5 hb6 hb1 hl
  generalize hm:xs.length=m at*
  obtain rfl:m=i+1:=by omega
  subst hlast
  clear hm hc hi
  have hq1:(i:Int)<=(i:Int)+1:=by omega
  simp only[Nat.add_sub_cancel,Nat.add_sub_cancel_left,Nat.sub_self]at hap hclr HF
  go_wp2_with fail
  go_region_law_o (go_loud(refine step_append_runP rfl _ _ 41 41 rfl _ (.slice (some ⟨g,o,none⟩) 0 0) (by first|(simp[Act.eval,Act.put];done)|(simp[Act.eval,Act.put];rfl)) (by simp[Act.eval,Act.put]) (hap _ (fun h=>absurd h (by omega)) _ _) ?_))
  go_wp2_with fail
  go_ret
  exact HF.out
 ·go_wp2_with fail
  go_region_law_o (go_loud(refine step_append_runP rfl _ _ 41 41 rfl _ _ (by first|(simp[Act.eval,Act.put];done)|(simp[Act.eval,Act.put];rfl)) (by first|(simp[Act.eval,Act.put];done)|(simp[Act.eval,Act.put];rfl)) (hap _ (fun _=>rfl) _ _) ?_))
  go_wp2_with fail
  go_ret
  exact HF.out
end Go.Proofs.YtmaidggpbihlgaaGreatDoor
namespace Go.Proofs.YtmaidggpbihlgaaGreatDoor
open Go.RowKit Go.Shelf
attribute [local go_sem] World.cell?_alloc_mark ext_size ext_cell ext_frozen lt_add_r lt_add_r2 lt_add_r3 lt_add_r4 lt_add_r5 lt_add_r6 lt_add_r7 lt_add_r8
attribute [local go_sem] ext_setCell alloc_setCell_lt
theorem ins_any (base:Nat) (xs:Parts) (p:ByteArray×Rat) (vb:Nat) (w:World) (hl:xs.length<=100000) (hvb:w.heap[vb]?=some (.cells #[.string p.1, .int .i64 p.2.num, .int .i64 p.2.den] 49)) (hbase:base<=w.heap.size) (v:Value)
 (hown:OwnS w base 49 3 partCells v xs) (hne:blkOf v≠some vb) (i:Nat) (hi:i<=xs.length):
 Calls Tryz.prog 171 #[v, .int .i64 i, .slice (some ⟨vb,0,none⟩) 1 1] w (InsPost w base v (xs.take i++p::xs.drop i)):=by
 by_cases he:i=xs.length
 ·subst he
  rw[List.take_of_length_le (Nat.le_refl _),List.drop_eq_nil_of_le (Nat.le_refl _)]
  exact insEnd_any base xs p vb w hl hvb hbase v hown
 ·have hlt:i<xs.length:=by omega
  rcases hown with⟨rfl,rfl⟩|⟨g,o,c,cur,rfl,hbg,hg,hc,hcm,hcs,hx⟩
  ·simp at hlt
  ·by_cases hr:xs.length+1<=c
   ·exact insRoom_any base xs p vb w hl hvb hbase g o c cur hbg hg hr hcm hcs hx i hlt (fun e=>hne (by rw[e];rfl))
   ·have e:c=xs.length:=by omega
    subst e
    exact insGrow_any base xs p vb w hl hvb hbase g o cur hg hx i hlt
theorem own_type {W:World} {base:Nat} {e t:TypeId} {size:Nat} {f:ByteArray×Rat->List Value} {v:Value} {xs:Parts} {T:Nat} {cs:Array Value} {fr:Nat×Nat} (h:OwnS W base e size f v xs) (hT:W.heap[T]?=some (.cells cs t fr)) (hne:t≠e):blkOf v≠some T:=by
 rcases h with⟨rfl,_⟩|⟨g,o,c,cur,rfl,_,hg,_⟩
 ·simp[blkOf]
 ·intro h
  simp only[blkOf,Option.some.injEq]at h
  subst h
  rw[hg]at hT
  simp only[Option.some.injEq,Obj.cells.injEq]at hT
  exact hne hT.2.1.symm
def SetPost (w:World) (base T:Nat) (pl:ByteArray) (cl fr en:Int) (dv v:Value) (ys:Parts) (e:Ending) (w':World):Prop:=
 e= .returned (.tuple #[])/\ ∃v',TombC w' T pl cl fr en v' dv/\OwnS w' base 49 3 partCells v' ys/\Below base w w'/\ ∀k,k<w.heap.size->k≠T->blkOf v≠some k->w'.heap[k]?=w.heap[k]?
theorem numZ (q:Rat):(q==0)=(q.num==0):=by
 rw[Bool.eq_iff_iff,beq_iff_eq,beq_iff_eq,Rat.num_eq_zero]
theorem set_at {P Q:Parts} {nm:ByteArray} {q:Rat} (hP: ∀p∈P,lessN p.1 nm=true) (hQ: ∀p∈Q,lessN p.1 nm=false):
 setP (P++Q) nm q=if q.num==0 then(if headIs Q nm then P++Q.drop 1 else P++Q)else if headIs Q nm then P++(nm,q)::Q.drop 1 else P++(nm,q)::Q:=by
 rw[set_split hP,<-numZ]
 cases Q with
 |nil=>simp[setP,headIs];split<;>simp
 |cons b Q=>
  rw[setP,hQ b (by simp)]
  simp only[headIs,Bool.false_eq_true,if_false,List.drop_succ_cons,List.drop_zero]
  split<;>split<;>simp_all
theorem tomb_set4 {W:World} {T:Nat} {pl:ByteArray} {cl fr en:Int} {v dv:Value} (h:TombC W T pl cl fr en v dv) (v':Value):TombC (W.setCell ⟨T,4,none⟩ v') T pl cl fr en v' dv:=by
 unfold TombC at*
 have:=Joins.block_setCell (i:=4) h v'
 simpa using this
theorem own_set2 {W:World} {base g o n c:Nat} {P Q:Parts} {b:ByteArray×Rat} {q:Rat} (h:OwnS W base 49 3 partCells (.slice (some ⟨g,o,none⟩) n c) (P++b::Q)):
 OwnS ((W.setCell ⟨g,o+P.length*3+1,none⟩ (.int .i64 q.num)).setCell ⟨g,o+P.length*3+1+1,none⟩ (.int .i64 q.den)) base 49 3 partCells (.slice (some ⟨g,o,none⟩) n c) (P++(b.1,q)::Q):=by
 rcases h with⟨h,_⟩|⟨g',o',c',cur,h,hb,hg,hc,hm,hs,hx⟩
 ·cases h
 ·simp only[Value.slice.injEq,Option.some.injEq,Addr.mk.injEq,and_true]at h
  obtain⟨⟨rfl,rfl⟩,rfl,rfl⟩:=h
  refine .inr ⟨g,o,c,(cur.setIfInBounds (o+P.length*3+1) (.int .i64 q.num)).setIfInBounds (o+P.length*3+1+1) (.int .i64 q.den),by simp,hb,heap_setCell_same _ g _ _ _ _ (heap_setCell_same W g _ cur _ _ hg),by simpa using hc,hm,by simpa using hs,fun j u hj=> ?_⟩
  have hl:(P.flatMap partCells).length=P.length*3:=parts_len P
  have hjl:=(List.getElem?_eq_some_iff.1 hj).1
  rw[parts_len]at hjl
  simp only[List.length_append,List.length_cons]at hjl hc
  rw[List.flatMap_append,List.flatMap_cons]at hj
  by_cases h1:j<P.length*3
  ·rw[List.getElem?_append_left (by omega)]at hj
   rw[Array.getElem?_setIfInBounds_ne (by omega),Array.getElem?_setIfInBounds_ne (by omega)]
   refine hx j u ?_
   rw[List.flatMap_append,List.getElem?_append_left (by omega)]
   exact hj
  ·rw[List.getElem?_append_right (by omega),hl]at hj
   by_cases h2:j-P.length*3<3
   ·rw[List.getElem?_append_left (by rw[part_len];exact h2)]at hj
    obtain h3|h3|h3:j-P.length*3=0\/j-P.length*3=1\/j-P.length*3=2:=by omega
    ·rw[h3]at hj
     rw[Array.getElem?_setIfInBounds_ne (by omega),Array.getElem?_setIfInBounds_ne (by omega)]
     refine hx j u ?_
     rw[List.flatMap_append,List.flatMap_cons,List.getElem?_append_right (by omega),hl,List.getElem?_append_left (by rw[part_len];exact h2),h3]
     exact hj
    ·rw[h3]at hj
     rw[Array.getElem?_setIfInBounds_ne (by omega),show o+j=o+P.length*3+1 by omega,Array.getElem?_setIfInBounds_self_of_lt (by omega)]
     simpa[partCells]using hj
    ·rw[h3]at hj
     rw[show o+j=o+P.length*3+1+1 by omega,Array.getElem?_setIfInBounds_self_of_lt (by simp;omega)]
     simpa[partCells]using hj
   ·rw[List.getElem?_append_right (by rw[part_len];omega),part_len]at hj
    rw[Array.getElem?_setIfInBounds_ne (by omega),Array.getElem?_setIfInBounds_ne (by omega)]
    refine hx j u ?_
    rw[List.flatMap_append,List.flatMap_cons,List.getElem?_append_right (by omega),hl,List.getElem?_append_right (by rw[part_len];omega),part_len]
    exact hj
set_option maxRecDepth 100000 in
set_option maxHeartbeats 2000000 in
theorem set_any (base T:Nat) (xs:Parts) (v:Value) (pl:ByteArray) (cl fr en:Int) (dv:Value) (nm:ByteArray) (q:Rat) (w:World) (hT:TombC w T pl cl fr en v dv) (hbT:base<=T) (hown:OwnS w base 49 3 partCells v xs) (hA:AscP xs) (hl:xs.length<=90000):
 Calls Tryz.prog 131 #[.pointer (some ⟨T,0,none⟩), .string nm, .agg #[.int .i64 q.num, .int .i64 q.den]] w (SetPost w base T pl cl fr en dv v (setP xs nm q)):=by
 unfold TombC at hT
 have hlt:T<w.heap.size:=blk_lt hT
 have hbv:base<=w.heap.size:=by omega
 have hTv:blkOf v≠some T:=own_type hown hT (by decide)
 have hge:=hown.ge
 obtain⟨A,c,hvv,hS,hc⟩:=hown.sl part_len
 have hc4:w.cell? ⟨T,4,none⟩=some v:=by simp[World.cell?,hT]
 have hf4:w.frozen? ⟨T,4,none⟩=false:=by simp[World.frozen?,hT]
 have hne:T≠w.heap.size:=by omega
 have HO:=Lib.hid hown
 have HS:=Lib.hid hS
 have HA:=Lib.hid hA
 have HV:=Lib.hid hvv
 have HT:=Lib.hid hT
 clear hS hA hown hvv hT
 go_enter Tryz.func131,Tryz.ntmps131
 go_upto_region 3 with(go_at_call 169;refine(find_any xs A c T nm _ (by rw[<-HV.out];simp[go_sem,hlt,hc4]) (by omega) HA.out (HS.out.keep (n:=w.heap.size) Bw)).mono ?_;rintro e wq ⟨P,Q,hxs,hP,hQ,rfl,z,rfl⟩;subst hxs)
 have hset:=set_at (q:=q) hP hQ
 have HSET:=Lib.hid hset
 clear hset hP hQ
 generalize hh:headIs Q nm=ok at*
 have HH:=Lib.hid hh
 clear hh
 obtain⟨W,hW⟩: ∃W,W=(w.alloc (.cells #[.int .i64 q.num, .int .i64 q.den] 45)).ext z:=⟨_,rfl⟩
 have hBW:Below w.heap.size w W:=by rw[hW];repeat(first|exact B_refl|exact Below.refl _ _|assumption|with_reducible refine B_alloc ?_ _|with_reducible refine B_ext ?_ _|with_reducible refine B_drew ?_|with_reducible refine B_drewN ?_ _|with_reducible refine B_set ?_ (by simp;omega) _)
 have q0:W.cell? ⟨w.heap.size,0,none⟩=some (.int .i64 q.num):=by rw[hW];simp[go_sem]
 have q1:W.cell? ⟨w.heap.size,1,none⟩=some (.int .i64 q.den):=by rw[hW];simp[go_sem]
 have hTW:TombC W T pl cl fr en v dv:=(hBW.block T hlt).trans HT.out
 have hWs:w.heap.size<W.heap.size:=by rw[hW];simp[ext_size];omega
 have hOW:=Lib.hid (HO.out.keep (n:=w.heap.size) hBW)
 have hTWl:T<W.heap.size:=blk_lt hTW
 rw[<-hW]
 clear hW
 have c4:W.cell? ⟨T,4,none⟩=some v:=by unfold TombC at hTW;simp[World.cell?,hTW]
 have f4:W.frozen? ⟨T,4,none⟩=false:=by unfold TombC at hTW;simp[World.frozen?,hTW]
 have HTW:=Lib.hid hTW
 clear hTW hc4 hf4 hne
 have hll:P.length<=(P++Q).length:=by simp
 have HB:Hid (∀w1,W.grownBy w1 (blkOf v)->Below base w w1/\w1.heap[T]?=W.heap[T]?):=fun w1 h2=>⟨Below.grown (hBW.mono hbv) h2 (Nat.le_trans hbv hBW.size) (fun j hj=>(hge j hj).1),h2.block T hTWl (fun e=>hTv e.symm)⟩
 have HFIN:Hid (∀w1 v' ys,W.grownBy w1 (blkOf v)->OwnS w1 base 49 3 partCells v' ys->(∀g,blkOf v'=some g->blkOf v=some g\/W.heap.size<=g)->setP (P++Q) nm q=ys->SetPost w base T pl cl fr en dv v (setP (P++Q) nm q) (.returned (.tuple #[])) (w1.setCell ⟨T,4,none⟩ v')):=fun w1 v' ys h2 h1 h3 hs=>by
  obtain⟨hb1,ht1⟩:=HB.out w1 h2
  have hv':blkOf v'≠some T:=fun e=>by
   rcases h3 T e with h|h
   ·exact hTv h
   ·omega
  rw[hs]
  refine⟨rfl,v',tomb_set4 (ht1.trans HTW.out) v',h1.grown (grown_set _ _ _ _) (.inr hv'),B_set hb1 hbT _,fun k hk hkT hkv=> ?_⟩
  have hkW:k<W.heap.size:=Nat.lt_of_lt_of_le hk hBW.size
  rw[(grown_set w1 T 4 v').block k (Nat.lt_of_lt_of_le hkW h2.size) (fun e=>hkT (by simpa using e)),h2.block k hkW (fun e=>hkv e.symm),hBW.block k hk]
 cases hq:(q.num==0)
 ·have HQ:=Lib.hid hq
  have hq2: ¬q.num=0:=by simpa using hq
  clear hq
  cases ok
  ·
   have HS1:Hid (setP (P++Q) nm q=(P++Q).take P.length++(nm,q)::(P++Q).drop P.length):=by
    show _=_
    rw[HSET.out,HQ.out,List.take_left,List.drop_left]
    simp
   have HLN:Hid (((P++Q).take P.length++(nm,q)::(P++Q).drop P.length).length=P.length+(Q.length+1)):=by show _=_;simp
   go_upto_region 2 with fail
   go_region_law (go_simp;go_at_call 171
                  refine(ins_any base (P++Q) (nm,q) W.heap.size _ (by omega) ?q1 ?q2 v ?q3 ?q4 P.length (by omega)).mono ?_
                  case q1=>(first|exact J_new _ _ _ rfl|(refine J_drew ?_;exact J_new _ _ _ rfl))
                  case q2=>simp;omega
                  case q3=>exact hOW.out.keep (n:=W.heap.size) Bw
                  case q4=>(intro e;have:=(hge _ e).2;omega)
                  rintro e w1 ⟨v',rfl,h1,h2,h3⟩
                  obtain⟨A',c',hv',_,_⟩:=h1.sl part_len
                  rw[HLN.out]at hv'
                  subst hv'
                  have t1:=(h2.block T (by simp;omega) (fun e=>hTv e.symm)).trans (show _=some (Obj.cells #[.string pl, .int .i64 cl, .int .i64 fr, .int .i64 en,v,dv] 86 (0,0)) from(Below.heap_alloc _ _ _ hTWl).trans HTW.out)
                  have k1:w1.cell? ⟨T,4,none⟩=some v:=by simp[World.cell?,t1]
                  have k2:w1.frozen? ⟨T,4,none⟩=false:=by simp[World.frozen?,t1])
   all_goals go_wp2_with fail
   all_goals go_end0
   all_goals exact HFIN.out w1 _ _ (grown_trans (World.grownBy_alloc W _ _) ⟨h2.os,h2.tape,h2.output,h2.size,h2.block⟩) h1 (fun g hg=>(h3 g hg).imp id (fun h=>by simp at h;omega)) HS1.out
  ·
   cases Q with
   |nil=>have:=HH.out;simp[headIs]at this
   |cons b Q=>
    have hbn:b.1=nm:=same_iff.1 HH.out
    rcases hOW.out with⟨_,h'⟩|⟨g,o,cap,cur,hv,hb,hg,hcl,hcm,hcs,hx⟩
    ·simp at h'
    subst hv
    have hl:(P.flatMap partCells).length=P.length*3:=parts_len P
    have hat: ∀j u,(partCells b)[j]?=some u->cur[o+P.length*3+j]?=some u:=fun j u hj=>by
     have:=hx (P.length*3+j) u (by rw[List.flatMap_append,List.flatMap_cons,List.getElem?_append_right (by omega),hl,Nat.add_sub_cancel_left,List.getElem?_append_left (List.getElem?_eq_some_iff.1 hj).1];exact hj)
     rwa [<-Nat.add_assoc]at this
    have k1:W.cell? ⟨g,o+P.length*3+1,none⟩=some (.int .i64 b.2.num):=by simp only[World.cell?,hg];exact hat 1 _ rfl
    have k2:W.cell? ⟨g,o+P.length*3+1+1,none⟩=some (.int .i64 b.2.den):=by simp only[World.cell?,hg];exact hat 2 _ rfl
    have k3:W.frozen? ⟨g,o+P.length*3+1,none⟩=false:=by simp[World.frozen?,hg]
    have k4:W.frozen? ⟨g,o+P.length*3+1+1,none⟩=false:=by simp[World.frozen?,hg]
    have hgT:T≠g:=fun e=>hTv (by rw[e];rfl)
    have hgw:g≠w.heap.size:=by have:=(hge g rfl).2;omega
    have hi1:(P.length:Int)<((P++b::Q).length:Int):=by simp;omega
    have hi0:(0:Int)<=(P.length:Int):=by omega
    have HS1:Hid (setP (P++b::Q) nm q=P++(b.1,q)::Q):=by
     show _=_
     rw[HSET.out,HQ.out,hbn]
     simp
    clear hx hat hg
    go_upto_region 7 with fail
    go_region
    all_goals go_wp2_with fail
    all_goals go_end0
    all_goals exact⟨rfl,_,(J_ne hgT (J_ne hgT HTW.out):_),by rw[HS1.out];exact own_set2 hOW.out,by have hBb:=hBW.mono hbv;repeat(first|exact B_refl|exact Below.refl _ _|assumption|with_reducible refine B_alloc ?_ _|with_reducible refine B_ext ?_ _|with_reducible refine B_drew ?_|with_reducible refine B_drewN ?_ _|with_reducible refine B_set ?_ (by simp;omega) _),fun k hk hkT hkv=>((grown_trans (grown_set W g _ _) (grown_set _ g _ _)).block k (Nat.lt_of_lt_of_le hk hBW.size) (fun e=>hkv (by rw[e];rfl))).trans (hBW.block k hk)⟩
 ·have HQ:=Lib.hid hq
  have hq2:q.num=0:=by simpa using hq
  clear hq
  cases ok
  ·
   go_wp2_with fail
   go_end0
   exact⟨rfl,v,HTW.out,by rw[HSET.out,HQ.out];exact hOW.out,hBW.mono hbv,fun k hk _ _=>hBW.block k hk⟩
  ·
   have hlt2:P.length<(P++Q).length:=by
    cases Q with
    |nil=>have:=HH.out;simp[headIs]at this
    |cons b Q=>simp
   have HS1:Hid (setP (P++Q) nm q=(P++Q).take P.length++(P++Q).drop (P.length+1)):=by
    show _=_
    rw[HSET.out,HQ.out,List.take_left,List.drop_append]
    simp
   have HLN:Hid (((P++Q).take P.length++(P++Q).drop (P.length+1)).length=P.length+(Q.length-1)):=by show _=_;simp
   have hdel:=del_any base (P++Q) W (by omega) v hOW.out P.length hlt2
   rw[show((P.length+1:Nat):Int)=(P.length:Int)+1 by omega]at hdel
   have hw1:IntKind.i64.wrap ((P.length:Int)+1)=(P.length:Int)+1:=by rw[IntKind.wrap_i64];omega
   go_wp2_with (go_at_call 170;go_loud(refine hdel.mono ?_;rintro e w1 ⟨v',rfl,h1,h2,h3⟩;obtain⟨A',c',hv',_,_⟩:=h1.sl part_len;rw[HLN.out]at hv';subst hv';have t1:w1.heap[T]?=some (Obj.cells #[.string pl, .int .i64 cl, .int .i64 fr, .int .i64 en,v,dv] 86 (0,0)):=(HB.out w1 h2).2.trans HTW.out;have k1:w1.cell? ⟨T,4,none⟩=some v:=(by simp[World.cell?,t1]);have k2:w1.frozen? ⟨T,4,none⟩=false:=(by simp[World.frozen?,t1])))
   go_end0
   exact HFIN.out w1 _ _ h2 h1 h3 HS1.out
end Go.Proofs.YtmaidggpbihlgaaGreatDoor
