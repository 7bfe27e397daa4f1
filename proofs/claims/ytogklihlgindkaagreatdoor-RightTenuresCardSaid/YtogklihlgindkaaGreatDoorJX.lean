import Derived.Test.YtogklihlgindkaaGreatDoorJI
set_option linter.all false
set_option maxRecDepth 100000
set_option maxHeartbeats 4000000
namespace Go.Proofs.YtogklihlgindkaaGreatDoor
open Go.RowKit
attribute [local go_sem] World.cell?_alloc_mark zaf za3 zam za6 zat zau zav zaw zax zay zaz
section
open Go.Shelf
attribute [local go_sem] zao zac
def zoU{P:Program}(w:World)(t e ty:TypeId)(z:Value)(ht:P.underlying t=some (.slice e))(hv:∀w,(zeroValue e).run P w=.ok z w)(h1:∀u∈z.cells,u.oneCell'=true)(hp:0<z.cells.size)(b o n c:Nat)(hn:0<n)
 (hc:∀j,j<n*z.cells.size->(w.cell? ⟨b,o+j,none⟩).isSome=true)(hf:∀j,j<n*z.cells.size->w.frozen? ⟨b,o+j,none⟩=false):
 (Builtin.clear_ #[t] ty #[.slice (some ⟨b,o,none⟩) n c]).run P w=.ok (.tuple #[]) (w.setCells b o (Builtin.zeroCells z.cells n).toList):=by
 have hl:(Builtin.zeroCells z.cells n).toList.length=n*z.cells.size:=by simp[Builtin.zeroCells]
 have aq:=run_storeCells_cells (P:=P) b o (Builtin.zeroCells z.cells n).toList 0 w (by rw[hl];simpa using hc) (by rw[hl];simpa using hf) (by
  intro v jT;refine h1 v ?_;obtain⟨i,hi,rfl⟩:=List.getElem_of_mem jT;simp[Builtin.zeroCells]at hi⊢
  first|done|exact Array.getElem_mem _|simp[Nat.mod_lt _ hp])
 simp only[Nat.add_zero]at aq;obtain⟨m,rfl⟩:∃m,n=m+1:=⟨n-1,by omega⟩
 simp[Builtin.clear_,run_underlying ht,hv,aq]
def zeQ{P:Program}{ops:Array Oper}{o:Oper}{a:Act}{w:World}{K:Act->World->Prop}{Q:Exit->Act->World->Prop}{E:Prop}
 (hg:o.guard=none)(d x:Operand)(dT sT:TypeId)(LP:o.op=Op.call {callee:=Callee.builtin Builtin.append,args:= #[d,x],argTypes:= #[dT,sT]})
 (v u:Value)(hd:a.eval d=v)(hx:a.eval x=u){v':Value}{w':World}(hr:(Builtin.append_ #[dT,sT] o.type #[v,u]).run P w=.ok v' w')(hK:K (a.put o.dst v') w'):
 if Region.wanted o (yielded ops a.tmps)=true then Oper.wp P o a w K Q else E:=by
 have hw:Region.wanted o (yielded ops a.tmps)=true:=by simp[Region.wanted,hg]
 rw[if_pos hw];unfold Oper.wp;simp[execOp,LP,resolve,invoke,builtin,hd,hx,hr,Result.andThen];exact hK
def del_any(base:Nat)(xs:Parts)(w:World)(hl:xs.length<=100000)(v:Value)(aa:OwnS w base 55 3 zaa v xs)(i:Nat)(hi:i<xs.length):
 Calls Tryz.prog 143 #[v,.int .i64 i,.int .i64 (i+1:Nat)] w (zfi w base v (xs.take i++xs.drop (i+1))):=by
 rcases aa with⟨rfl,rfl⟩|⟨g,o,c,cur,rfl,io,hg,hc,ir,aY,hx⟩
 ·simp at hi
 have mixed:Tryz.prog.follows .mixedOrders=true:=McT;obtain⟨i0,z,eE,lX,eI,Bh,uS⟩:=zdR.hi;have hsz:(Tryz.prog.info? 55).map (·.size)=some 3:=by rw[eE];simp[eI]
 have bA:((xs.drop (i+1)).flatMap zaa).length=(xs.length-(i+1))*3:=MeG;have bo:∀j,j<c*3->(w.cell? ⟨g,o+j,none⟩).isSome=true:=λj hj=>by simp[World.cell?,hg];omega
 have cF:((xs.take (i+1)).flatMap zaa).length=(i+1)*3:=MdA;have da:xs.flatMap zaa=(xs.take (i+1)).flatMap zaa++(xs.drop (i+1)).flatMap zaa:=MdF;have o8:∀(A:Addr),(i+1<xs.length->A=⟨g,o+(i+1)*3,none⟩)->∀ty cc,(Builtin.append_ #[36,36] ty #[.slice (some ⟨g,o,none⟩) i c,.slice (some A) (xs.length-(i+1)) cc]).run Tryz.prog w.drew=.ok (.slice (some ⟨g,o,none⟩) (i+(xs.length-(i+1))) c) (w.drew.setCells g (o+i*3) ((xs.drop (i+1)).flatMap zaa)):=λA hA ty cc=>by
  have:=run_append_room_cells (P:=Tryz.prog) w.drew 36 ty 55 i0 Tryz.underlying36 eE g o i c A (xs.length-(i+1)) cc ((xs.drop (i+1)).flatMap zaa) (by rw[bA,eI])
   (λj u hj=>by
     have cO:=(List.getElem?_eq_some_iff.1 hj).1;rw[hA McS,Addr.add_lit];have e:(xs.flatMap zaa)[(i+1)*3+j]?=some u:=by rw[da,List.getElem?_append_right McS,cF,Nat.add_sub_cancel_left];exact hj
     have:=hx _ _ e;show w.cell? _=_;simp only[World.cell?,hg,Nat.add_assoc]
     exact this) (zi3 _) McS (λj hj=>by rw[eI];rw[bA]at hj;show(w.cell? _).isSome=_;rw[Nat.add_assoc];exact bo _ McS) (λj hj=>by show w.frozen? _=_;simp[World.frozen?,hg])
  rw[eI]at this;exact this
 have aQ:i+(xs.length-(i+1))=xs.length-1:=McS;rw[aQ]at o8;obtain⟨cur1,k1,k2,k3,k4⟩:=zbw g ((xs.drop (i+1)).flatMap zaa) (o+i*3) w.drew cur hg (by rw[bA];omega);have bR:=zbu g ((xs.drop (i+1)).flatMap zaa) (o+i*3) w.drew;obtain⟨W1,aX⟩:=Qd (w.drew.setCells g (o+i*3) ((xs.drop (i+1)).flatMap zaa))
 rw[<-aX]at o8 k1 bR;have DF:∀ty cc,(Builtin.clear_ #[36] ty #[.slice (some ⟨g,o+(xs.length-1)*3,none⟩) (xs.length-(xs.length-1)) cc]).run Tryz.prog W1=.ok (.tuple #[]) (W1.setCells g (o+(xs.length-1)*3) (Builtin.zeroCells (Value.agg #[.string ⟨#[]⟩,.int .i64 0,.int .i64 0]).cells (xs.length-(xs.length-1))).toList):=λty cc=>
  zoU W1 36 55 ty (.agg #[.string ⟨#[]⟩,.int .i64 0,.int .i64 0]) Tryz.underlying36 Tryz.zeroValue55 (by simp[Value.cells,Value.oneCell']) (by simp[Value.cells]) g _ _ cc McS
   (λj hj=>by simp[Value.cells]at hj;simp[World.cell?,k1,k2];omega) (λj hj=>by simp[World.frozen?,k1])
 have HF:Hid (zfi w base (.slice (some ⟨g,o,none⟩) xs.length c) (xs.take i++xs.drop (i+1)) (.returned (.slice (some ⟨g,o,none⟩) (xs.length-1) c)) (W1.setCells g (o+(xs.length-1)*3) (Builtin.zeroCells (Value.agg #[.string ⟨#[]⟩,.int .i64 0,.int .i64 0]).cells (xs.length-(xs.length-1))).toList)):=by
  have tE:w.grownBy W1 (some g):=⟨bR.os,bR.tape,bR.output,bR.size,bR.block⟩
  have zK:(Builtin.zeroCells (Value.agg #[.string ⟨#[]⟩,.int .i64 0,.int .i64 0]).cells (xs.length-(xs.length-1))).toList.length=3:=by
   rw[Array.length_toList,zej];simp[Value.cells];omega
  obtain⟨cur2,l1,l2,l3,l4⟩:=zbw g _ (o+(xs.length-1)*3) W1 cur1 k1 (by rw[zK,k2];omega);have ag:(xs.take i++xs.drop (i+1)).length=xs.length-1:=McX;refine⟨_,rfl,.inr ⟨g,o,c,cur2,by rw[ag],io,l1,by rw[ag];omega,ir,by rw[l2,k2];exact aY,λj u hj=>?_⟩,zbm tE (zbu _ _ _ _),λg' h=> .inl h⟩;have cO:=(List.getElem?_eq_some_iff.1 hj).1;rw[zew,ag]at cO;rw[l3 _ (.inl McS)];have N4:((xs.take i).flatMap zaa).length=i*3:=MdA;rw[List.flatMap_append]at hj;by_cases cd:j<i*3
  ·rw[List.getElem?_append_left McS]at hj;rw[k3 _ (.inl McS)];refine hx j u ?_;exact MaT
  ·rw[List.getElem?_append_right McS,N4]at hj;have:=k4 _ u hj;rwa [show o+i*3+(j-i*3)=o+j by omega]at this
 have aW:(i:Int)+1<=(xs.length:Int):=McS;have ba:(0:Int)<=(i:Int):=McS;have bM:¬((i:Int)=(i:Int)+1):=McS;have ax:(xs.length:Int)<=(c:Int):=McS;have aB:(i:Int)<=(c:Int):=McS;have ar:¬(c=xs.length-1):=McS;have aS:((xs.length-1:Nat):Int)<=(xs.length:Int):=McS;have bj:(0:Int)<=(i:Int)+1:=McS;have dU:((i:Int)+1).toNat=i+1:=McS;clear aX k1 k2 k3 k4 bR bo hx bA cF da hg aQ;go_enter Tryz.func143,Tryz.ntmps143
 by_cases hlast:c=i+1
 ·clear ax aB ar aS aW hl;generalize hm:xs.length=m at*;obtain rfl:m=i+1:=by omega
  subst hlast;clear hm hc hi;have cJ:(i:Int)<=(i:Int)+1:=McS;simp only[Nat.add_sub_cancel,Nat.add_sub_cancel_left,Nat.sub_self]at o8 DF HF;go_wp2_with fail
  go_region_law_o (go_loud(refine zeQ rfl _ _ 36 36 rfl _ (.slice (some ⟨g,o,none⟩) 0 0) MdE (by simp[Act.eval,Act.put]) (o8 _ (λh=>absurd h McS) _ _) ?_))
  go_wp2_with fail
  go_ret
  exact HF.o
 ·go_wp2_with fail
  go_region_law_o (go_loud(refine zeQ rfl _ _ 36 36 rfl _ _ MdE MdE (o8 _ (λ_=>rfl) _ _) ?_))
  go_wp2_with fail
  go_ret
  exact HF.o
def ins_any(base:Nat)(xs:Parts)(p:ByteArray×Rat)(vb:Nat)(w:World)(hl:xs.length<=100000)(dg:w.heap[vb]?=some (.cells #[.string p.1,.int .i64 p.2.num,.int .i64 p.2.den] 55))(aC:base<=w.heap.size)(v:Value)
 (aa:OwnS w base 55 3 zaa v xs)(ai:za4 v≠some vb)(i:Nat)(hi:i<=xs.length):
 Calls Tryz.prog 144 #[v,.int .i64 i,.slice (some ⟨vb,0,none⟩) 1 1] w (zfi w base v (xs.take i++p::xs.drop i)):=by
 by_cases he:i=xs.length
 ·subst he;rw[List.take_of_length_le Qc,List.drop_eq_nil_of_le Qc];exact zoT base xs p vb w hl dg aC v aa
 ·have ae:i<xs.length:=McS;rcases aa with⟨rfl,rfl⟩|⟨g,o,c,cur,rfl,io,hg,hc,ir,aY,hx⟩
  ·simp at ae
  ·by_cases hr:xs.length+1<=c
   ·exact zmX base xs p vb w hl dg aC g o c cur io hg hr ir aY hx i ae (λe=>ai (by rw[e];rfl))
   ·have e:c=xs.length:=McS;subst e;exact zmY base xs p vb w hl dg aC g o cur hg hx i ae
def zhO{W:World}{base:Nat}{e t:TypeId}{size:Nat}{f:ByteArray×Rat->List Value}{v:Value}{xs:Parts}{T:Nat}{cs:Array Value}{fr:Nat×Nat}(h:OwnS W base e size f v xs)(hT:W.heap[T]?=some (.cells cs t fr))(ai:t≠e):za4 v≠some T:=by
 exact M8
def zk2(w:World)(base T:Nat)(pl:ByteArray)(cl fr en:Int)(dv v:Value)(ys:Parts)(e:Ending)(w':World):Prop:=
 e=.returned (.tuple #[])/\∃v',zbt w' T pl cl fr en v' dv/\OwnS w' base 55 3 zaa v' ys/\Below base w w'/\∀k,k<w.heap.size->k≠T->za4 v≠some k->w'.heap[k]?=w.heap[k]?
def numZ(q:Rat):(q==0)=(q.num==0):=by
 rw[Bool.eq_iff_iff,beq_iff_eq,beq_iff_eq,Rat.num_eq_zero]
def set_at{P Q:Parts}{nm:ByteArray}{q:Rat}(hP:∀p∈P,zbn p.1 nm=true)(hQ:∀p∈Q,zbn p.1 nm=false):
 setP (P++Q) nm q=if q.num==0 then(if zdP Q nm then P++Q.drop 1 else P++Q)else if zdP Q nm then P++(nm,q)::Q.drop 1 else P++(nm,q)::Q:=by
 rw[zet hP,<-numZ];cases Q with
 |nil=>simp[setP,zdP];split<;>simp
 |cons b Q=>
  rw[setP,hQ b McV];simp only[zdP,Bool.false_eq_true,if_false,List.drop_succ_cons,List.drop_zero];split<;>split<;>simp_all
def zgq{W:World}{T:Nat}{pl:ByteArray}{cl fr en:Int}{v dv:Value}(h:zbt W T pl cl fr en v dv)(v':Value):zbt (W.setCell ⟨T,4,none⟩ v') T pl cl fr en v' dv:=by
 unfold zbt at*;have:=Joins.block_setCell (i:=4) h v';simpa using this
def own_set2{W:World}{base g o n c:Nat}{P Q:Parts}{b:ByteArray×Rat}{q:Rat}(h:OwnS W base 55 3 zaa (.slice (some ⟨g,o,none⟩) n c) (P++b::Q)):
 OwnS ((W.setCell ⟨g,o+P.length*3+1,none⟩ (.int .i64 q.num)).setCell ⟨g,o+P.length*3+1+1,none⟩ (.int .i64 q.den)) base 55 3 zaa (.slice (some ⟨g,o,none⟩) n c) (P++(b.1,q)::Q):=by
 rcases h with⟨h,_⟩|⟨g',o',c',cur,h,hb,hg,hc,hm,hs,hx⟩
 ·cases h
 ·simp only[Value.slice.injEq,Option.some.injEq,Addr.mk.injEq,and_true]at h;obtain⟨⟨rfl,rfl⟩,rfl,rfl⟩:=h;refine .inr ⟨g,o,c,(cur.setIfInBounds (o+P.length*3+1) (.int .i64 q.num)).setIfInBounds (o+P.length*3+1+1) (.int .i64 q.den),by simp,hb,heap_setCell_same _ g _ _ _ _ (heap_setCell_same W g _ cur _ _ hg),by simpa using hc,hm,by simpa using hs,λj u hj=>?_⟩;have hl:(P.flatMap zaa).length=P.length*3:=zew P;have cO:=(List.getElem?_eq_some_iff.1 hj).1;rw[zew]at cO;simp only[List.length_append,List.length_cons]at cO hc;rw[List.flatMap_append,List.flatMap_cons]at hj;by_cases h1:j<P.length*3
  ·rw[List.getElem?_append_left McS]at hj;rw[Array.getElem?_setIfInBounds_ne McS,Array.getElem?_setIfInBounds_ne McS];refine hx j u ?_;rw[List.flatMap_append,List.getElem?_append_left McS];exact hj
  ·rw[List.getElem?_append_right McS,hl]at hj;by_cases h2:j-P.length*3<3
   ·rw[List.getElem?_append_left (by rw[zak];exact h2)]at hj;obtain h3|h3|h3:j-P.length*3=0\/j-P.length*3=1\/j-P.length*3=2:=by omega
    ·rw[h3]at hj;rw[Array.getElem?_setIfInBounds_ne McS,Array.getElem?_setIfInBounds_ne McS];refine hx j u ?_;rw[List.flatMap_append,List.flatMap_cons,List.getElem?_append_right McS,hl,List.getElem?_append_left (by rw[zak];exact h2),h3];exact hj
    ·rw[h3]at hj;rw[Array.getElem?_setIfInBounds_ne McS,show o+j=o+P.length*3+1 by omega,Array.getElem?_setIfInBounds_self_of_lt McS];simpa[zaa]using hj
    ·rw[h3]at hj;rw[show o+j=o+P.length*3+1+1 by omega,Array.getElem?_setIfInBounds_self_of_lt McX];simpa[zaa]using hj
   ·rw[List.getElem?_append_right MeD,zak]at hj;rw[Array.getElem?_setIfInBounds_ne McS,Array.getElem?_setIfInBounds_ne McS];refine hx j u ?_;rw[List.flatMap_append,List.flatMap_cons,List.getElem?_append_right McS,hl,List.getElem?_append_right MeD,zak];exact hj
def zi4(base T:Nat)(xs:Parts)(v:Value)(pl:ByteArray)(cl fr en:Int)(dv:Value)(nm:ByteArray)(q:Rat)(w:World)(hT:zbt w T pl cl fr en v dv)(sy:base<=T)(aa:OwnS w base 55 3 zaa v xs)(hA:AscP xs)(hl:xs.length<=90000):
 Calls Tryz.prog 109 #[.pointer (some ⟨T,0,none⟩),.string nm,.agg #[.int .i64 q.num,.int .i64 q.den]] w (zk2 w base T pl cl fr en dv v (setP xs nm q)):=by
 unfold zbt at hT;have ae:T<w.heap.size:=zab hT;have AO:base<=w.heap.size:=McS;have AE:za4 v≠some T:=zhO aa hT McU;have fL:=aa.ge;obtain⟨A,c,In,hS,hc⟩:=aa.sl zak;have kL:w.cell? ⟨T,4,none⟩=some v:=by simp[World.cell?,hT]
 have L0:w.frozen? ⟨T,4,none⟩=false:=by simp[World.frozen?,hT]
 have ai:T≠w.heap.size:=McS;obtain⟨HO,HS,HA,HV,HT⟩:=yH5 aa hS hA In hT;clear hS hA aa In hT;go_enter Tryz.func109,Tryz.ntmps109
 go_upto_region 3 with(go_at_call 142;refine(zom xs A c T nm _ (by rw[<-HV.o];simp[go_sem,ae,kL]) McS HA.o (HS.o.keep (n:=w.heap.size) Bw)).mono ?_;rintro e wq ⟨P,Q,br,hP,hQ,rfl,z,rfl⟩;subst br)
 have iV:=set_at (q:=q) hP hQ;have gN:=zHi iV;clear iV hP hQ;generalize hh:zdP Q nm=ok at*;have HH:=zHi hh;clear hh;obtain⟨W,hW⟩:=Qd ((w.alloc (.cells #[.int .i64 q.num,.int .i64 q.den] 50)).ext z)
 have fh:Qa w W:=by rw[hW];exact Bw
 have q0:W.cell? ⟨w.heap.size,0,none⟩=some (.int .i64 q.num):=by rw[hW];simp[go_sem]
 have q1:W.cell? ⟨w.heap.size,1,none⟩=some (.int .i64 q.den):=by rw[hW];simp[go_sem]
 have sg:zbt W T pl cl fr en v dv:=(fh.block T ae).trans HT.o;have hWs:w.heap.size<W.heap.size:=by rw[hW];simp[zaf];omega
 have wK:=zHi (HO.o.keep (n:=w.heap.size) fh);have wX:T<W.heap.size:=zab sg;rw[<-hW];clear hW;have c4:W.cell? ⟨T,4,none⟩=some v:=by unfold zbt at sg;simp[World.cell?,sg]
 have f4:W.frozen? ⟨T,4,none⟩=false:=by unfold zbt at sg;simp[World.frozen?,sg]
 have rG:=zHi sg;clear sg kL L0 ai;have g9:P.length<=(P++Q).length:=McV;have HB:Hid (∀w1,W.grownBy w1 (za4 v)->Below base w w1/\w1.heap[T]?=W.heap[T]?):=λw1 h2=>⟨Below.grown (fh.mono AO) h2 (Nat.le_trans AO fh.size) (λj hj=>(fL j hj).1),h2.block T wX (λe=>AE e.symm)⟩
 have mq:Hid (∀w1 v' ys,W.grownBy w1 (za4 v)->OwnS w1 base 55 3 zaa v' ys->(∀g,za4 v'=some g->za4 v=some g\/W.heap.size<=g)->setP (P++Q) nm q=ys->zk2 w base T pl cl fr en dv v (setP (P++Q) nm q) (.returned (.tuple #[])) (w1.setCell ⟨T,4,none⟩ v')):=λw1 v' ys h2 h1 h3 hs=>by
  obtain⟨aW,uL⟩:=HB.o w1 h2;have jT:za4 v'≠some T:=λe=>by
   rcases h3 T e with h|h
   ·exact AE h
   ·omega
  rw[hs];refine⟨rfl,v',zgq (uL.trans rG.o) v',h1.grown (za1 _ _ _ _) (.inr jT),zaS aW sy _,λk hk AX pj=>?_⟩;have Hs:k<W.heap.size:=Nat.lt_of_lt_of_le hk fh.size;rw[(za1 w1 T 4 v').block k (Nat.lt_of_lt_of_le Hs h2.size) (λe=>AX Mee),h2.block k Hs (λe=>pj e.symm),fh.block k hk]
 cases hq:(q.num==0)
 ·have HQ:=zHi hq;have eT:¬q.num=0:=by simpa using hq
  clear hq;cases ok
  ·
   have vW:Hid (setP (P++Q) nm q=(P++Q).take P.length++(nm,q)::(P++Q).drop P.length):=by
    show _=_;rw[gN.o,HQ.o,List.take_left,List.drop_left];simp
   have cG:Hid (((P++Q).take P.length++(nm,q)::(P++Q).drop P.length).length=P.length+(Q.length+1)):=by show _=_;simp
   go_upto_region 2 with fail
   go_region_law (go_simp;go_at_call 144
                  refine(ins_any base (P++Q) (nm,q) W.heap.size _ McS ?q1 ?q2 v ?q3 ?q4 P.length McS).mono ?_
                  case q1=>(first|exact zas _ _ _ rfl|(refine J_drew ?_;exact zas _ _ _ rfl))
                  case q2=>simp;omega
                  case q3=>exact wK.o.keep (n:=W.heap.size) Bw
                  case q4=>(intro e;have:=(fL _ e).2;omega)
                  rintro e w1 ⟨v',rfl,h1,h2,h3⟩;obtain⟨A',c',jT,_,_⟩:=h1.sl zak;rw[cG.o]at jT;subst jT;have t1:=(h2.block T McX (λe=>AE e.symm)).trans (show _=some (Obj.cells #[.string pl,.int .i64 cl,.int .i64 fr,.int .i64 en,v,dv] 78 (0,0)) from(Below.heap_alloc _ _ _ wX).trans rG.o);have k1:w1.cell? ⟨T,4,none⟩=some v:=by simp[World.cell?,t1]
                  have k2:w1.frozen? ⟨T,4,none⟩=false:=by simp[World.frozen?,t1])
   all_goals go_wp2_with fail
   all_goals go_end0
   all_goals exact mq.o w1 _ _ (zbm (World.grownBy_alloc W _ _) ⟨h2.os,h2.tape,h2.output,h2.size,h2.block⟩) h1 (λg hg=>(h3 g hg).imp id (λh=>by simp at h;omega)) vW.o
  ·
   cases Q with
   |nil=>have:=HH.o;simp[zdP]at this
   |cons b Q=>
    have ip:b.1=nm:=za2.1 HH.o;rcases wK.o with⟨_,h'⟩|⟨g,o,cap,cur,hv,hb,hg,bp,ir,aY,hx⟩
    ·simp at h'
    subst hv;have hl:(P.flatMap zaa).length=P.length*3:=zew P;have im:∀j u,(zaa b)[j]?=some u->cur[o+P.length*3+j]?=some u:=λj u hj=>by
     have:=hx (P.length*3+j) u (by rw[List.flatMap_append,List.flatMap_cons,List.getElem?_append_right McS,hl,Nat.add_sub_cancel_left,List.getElem?_append_left (List.getElem?_eq_some_iff.1 hj).1];exact hj);rwa [<-Nat.add_assoc]at this
    have k1:W.cell? ⟨g,o+P.length*3+1,none⟩=some (.int .i64 b.2.num):=by simp only[World.cell?,hg];exact im 1 _ rfl
    have k2:W.cell? ⟨g,o+P.length*3+1+1,none⟩=some (.int .i64 b.2.den):=by simp only[World.cell?,hg];exact im 2 _ rfl
    have k3:W.frozen? ⟨g,o+P.length*3+1,none⟩=false:=by simp[World.frozen?,hg]
    have k4:W.frozen? ⟨g,o+P.length*3+1+1,none⟩=false:=by simp[World.frozen?,hg]
    have Hi:T≠g:=λe=>AE (by rw[e];rfl)
    have jd:g≠w.heap.size:=by have:=(fL g rfl).2;omega
    have qm:(P.length:Int)<((P++b::Q).length:Int):=McX;have eE:(0:Int)<=(P.length:Int):=McS;have vW:Hid (setP (P++b::Q) nm q=P++(b.1,q)::Q):=by
     show _=_;rw[gN.o,HQ.o,ip];simp
    clear hx im hg;go_upto_region 7 with fail
    go_region
    all_goals go_wp2_with fail
    all_goals go_end0
    all_goals exact⟨rfl,_,(J_ne Hi (J_ne Hi rG.o):_),by rw[vW.o];exact own_set2 wK.o,by have hBb:=fh.mono AO;exact Bw,λk hk AX pj=>((zbm (za1 W g _ _) (za1 _ g _ _)).block k (Nat.lt_of_lt_of_le hk fh.size) (λe=>pj (by rw[e];rfl))).trans (fh.block k hk)⟩
 ·have HQ:=zHi hq;have eT:q.num=0:=by simpa using hq
  clear hq;cases ok
  ·
   go_wp2_with fail
   go_end0
   exact⟨rfl,v,rG.o,by rw[gN.o,HQ.o];exact wK.o,fh.mono AO,λk hk _ _=>fh.block k hk⟩
  ·
   have bu:P.length<(P++Q).length:=by
    cases Q with
    |nil=>have:=HH.o;simp[zdP]at this
    |cons b Q=>simp
   have vW:Hid (setP (P++Q) nm q=(P++Q).take P.length++(P++Q).drop (P.length+1)):=by
    show _=_;rw[gN.o,HQ.o,List.take_left,List.drop_append];simp
   have cG:Hid (((P++Q).take P.length++(P++Q).drop (P.length+1)).length=P.length+(Q.length-1)):=by show _=_;simp
   have xx:=del_any base (P++Q) W McS v wK.o P.length bu;rw[show((P.length+1:Nat):Int)=(P.length:Int)+1 by omega]at xx;have jU:IntKind.i64.wrap ((P.length:Int)+1)=(P.length:Int)+1:=Mdv;go_wp2_with (go_at_call 143;go_loud(refine xx.mono ?_;rintro e w1 ⟨v',rfl,h1,h2,h3⟩;obtain⟨A',c',jT,_,_⟩:=h1.sl zak;rw[cG.o]at jT;subst jT;have t1:w1.heap[T]?=some (Obj.cells #[.string pl,.int .i64 cl,.int .i64 fr,.int .i64 en,v,dv] 78 (0,0)):=(HB.o w1 h2).2.trans rG.o;have k1:w1.cell? ⟨T,4,none⟩=some v:=(by simp[World.cell?,t1]);have k2:w1.frozen? ⟨T,4,none⟩=false:=(by simp[World.frozen?,t1])))
   go_end0
   exact mq.o w1 _ _ h2 h1 h3 vW.o
end
def zjQ{V:Type}(ev:V->Value)(s:ByteArray):∀(es:List MapEntry) (m:List (ByteArray×V)),es.map (λe=>(e.key,e.val))=m.map (λp=>(ekS p.1,ev p.2))->∀i,
 Instr.findNow .string (.string s) es i=some ((locate eqS s m i).map λp=>(p.1,ev p.2))
 | [],[],_,_=>rfl
 | [],_::_,h,_=>by simp at h
 |_::_,[],h,_=>by simp at h
 |e::es,p::m,h,i=>by
  simp only[List.map_cons,List.cons.injEq,Prod.mk.injEq]at h;obtain⟨⟨hk,hv⟩,ht⟩:=h;unfold Instr.findNow locate;rw[hk,hv,ekS,Instr.sameNow,beq_toListBytes];cases hq:eqS s p.1
  ·rw[eqS]at hq;rw[hq];simpa using zjQ ev s es m ht (i+1)
  ·rw[eqS]at hq;rw[hq];rfl
def zk3{V:Type}{t et:TypeId}{ev:V->Value}{z:V}(ht:Tryz.prog.underlying t=some (.map 9 et))(hz:∀w,(zeroValue et).run Tryz.prog w=.ok (ev z) w):MapTy Tryz.prog t 9 et ekS ev z eqS where
 ht:=ht
 hz:=hz
 hck:=zoJ
 hfind:=λk es m h w=>by
  simp[Instr.findKey,run_underlying Tryz.underlying9,ekS,zjQ ev k es m h 0]
 hsame:=λk k' h=>by
  rw[ekS,ekS,zgR,beq_toListBytes];rw[eqS]at h;rw[eq_of_beq h];exact beq_self_eq_true _
def nilS:Value:=.slice none 0 0
def zoV:MapTy Tryz.prog 66 9 4 ekS evB false eqS:=zk3 Tryz.underlying66 (λw=>by kernel_rfl)
def zmZ:MapTy Tryz.prog 67 9 34 ekS (λv:Value=>v) nilS eqS:=zk3 Tryz.underlying67 (λw=>by kernel_rfl)
def mapSP:MapTy Tryz.prog 69 9 36 ekS (λv:Value=>v) nilS eqS:=zk3 Tryz.underlying69 (λw=>by kernel_rfl)
def mapSF:MapTy Tryz.prog 197 9 50 ekS (λv:Value=>v) (.agg #[.int .i64 0,.int .i64 0]) eqS:=zk3 Tryz.underlying197 (λw=>by kernel_rfl)
def ekP(p:ByteArray×ByteArray):Value:=.agg #[.string p.1,.string p.2]
def eqP(a b:ByteArray×ByteArray):Bool:=eqS a.1 b.1&&eqS a.2 b.2
def info_str:∃i,Tryz.prog.info? 9=some i:=⟨_,(by kernel_rfl:Tryz.prog.info? 9=some (Tryz.prog.info? 9).get!)⟩
def cells_str:Tryz.prog.cellsOf 9=1:=by kernel_rfl
def zl1(d:Nat)(a c a' c':ByteArray)(w:World):(Op.equalIn (d+2) 126 (.agg #[.string a,.string c]) (.agg #[.string a',.string c'])).run Tryz.prog w=.ok (eqS a a'&&eqS c c') w:=by
 obtain⟨i,hi⟩:=info_str;rw[run_equalIn_array w (d+1) _ _ Tryz.underlying126 hi,cells_str];have hr:List.range 2=[0,1]:=rfl;rw[hr];simp only[Op.eqItems,Sem.run_bind,Nat.zero_mul,Nat.one_mul];have hp:∀(v:Array Value) (j:Nat) (x:ByteArray),v[j]?=some (.string x)->∀W,(part 9 v j).run Tryz.prog W=.ok (.string x) W:=λv j x hv W=>by
  simp[part,isAgg,run_underlying Tryz.underlying9,hv]
 rw[hp _ 0 a rfl,Result.andThen_ok,hp _ 0 a' rfl,Result.andThen_ok,run_equalIn_string w d 9 a a' Tryz.underlying9,Result.andThen_ok];cases h1:(a.toList==a'.toList)
 ·simp[eqS,h1]
 ·simp only[Bool.not_true,Bool.false_eq_true,if_false,Sem.run_bind];rw[hp _ 1 c rfl,Result.andThen_ok,hp _ 1 c' rfl,Result.andThen_ok,run_equalIn_string w d 9 c c' Tryz.underlying9,Result.andThen_ok];cases h2:(c.toList==c'.toList)<;>simp[eqS,h1,h2]
def equal_p(a c a' c':ByteArray)(w:World):(Op.equal 126 (.agg #[.string a,.string c]) (.agg #[.string a',.string c'])).run Tryz.prog w=.ok (eqS a a'&&eqS c c') w:=zl1 9998 a c a' c' w
def findNow_p(v:Value)(e:MapEntry)(es:List MapEntry)(n:Nat)(t:TypeId)(i:Nat):Instr.findNow (.array n t) v (e::es) i=none:=by
 unfold Instr.findNow;cases v<;>simp[Instr.sameNow]
def zh1(p:ByteArray×ByteArray)(w:World):∀(es:List MapEntry) (m:List ((ByteArray×ByteArray)×Bool)),es.map (λe=>(e.key,e.val))=m.map (λp=>(ekP p.1,evB p.2))->∀i,
 (Instr.findAsking 126 (ekP p) es i).run Tryz.prog w=.ok ((locate eqP p m i).map λp=>(p.1,evB p.2)) w
 | [],[],_,_=>by simp[Instr.findAsking,locate]
 | [],_::_,h,_=>by simp at h
 |_::_,[],h,_=>by simp at h
 |e::es,q::m,h,i=>by
  simp only[List.map_cons,List.cons.injEq,Prod.mk.injEq]at h;obtain⟨⟨hk,hv⟩,ht⟩:=h;unfold Instr.findAsking locate;have h1:=equal_p p.1 p.2 q.1.1 q.1.2 w;have h2:=zh1 p w es m ht (i+1);rw[hk,hv];simp only[ekP]at h1 h2⊢;simp only[Sem.run_bind,h1,Result.andThen_ok];change Sem.run _ (if(eqP p q.1)=true then _ else _) w=_;cases hq:eqP p q.1
  ·simpa using h2
  ·simp
def zoW(e:Bool)(p:ByteArray×ByteArray)(w:World):(Instr.checkKey e 10000 126 (ekP p)).run Tryz.prog w=.ok () w:=by
 obtain⟨a,c⟩:=p;cases e<;>kernel_rfl
def zoX(a c a' c':ByteArray)(h1:a=a')(h2:c=c'):Instr.sameBits 10000 (.agg #[.string a,.string c]) (.agg #[.string a',.string c'])=true:=by
 subst h1 h2;have h2:∀n,Instr.sameBits (n+1) (.agg #[.string a,.string c]) (.agg #[.string a,.string c])=true:=λn=>by simp[Instr.sameBits,zgR,beq_toListBytes]
 exact h2 9999
def eqS_eq{a b:ByteArray}(h:eqS a b=true):a=b:=za2.1 h
def mapPB:MapTy Tryz.prog 70 126 4 ekP evB false eqP where
 ht:=Tryz.underlying70
 hz:=λw=>by kernel_rfl
 hck:=zoW
 hfind:=λk es m h w=>by
  match es,m,h with
  | [],[],_=>simp[Instr.findKey,run_underlying Tryz.underlying126,Instr.findNow,locate]
  | [],_::_,h=>simp at h
  |e::es,m,h=>
   simp only[Instr.findKey,Sem.run_bind,run_underlying Tryz.underlying126,Result.andThen_ok,findNow_p];exact zh1 k w (e::es) m h 0
 hsame:=λk k' h=>by
  obtain⟨a,c⟩:=k;obtain⟨a',c'⟩:=k';simp only[eqP,Bool.and_eq_true]at h;exact zoX a' c' a c (eqS_eq h.1).symm (eqS_eq h.2).symm
section
def sC(s:ByteArray):List Value:=[.string s]
def zaB(s:ByteArray):(sC s).length=1:=rfl
def zbK(s:ByteArray):∀u∈sC s,u.oneCell'=true:=by simp[sC,Value.oneCell']
def zbk(p:ByteArray×ByteArray):(zaW p).length=2:=rfl
def zdD(p:ByteArray×ByteArray):∀u∈zaW p,u.oneCell'=true:=by simp[zaW,Value.oneCell']
def ptrC(T:Nat):List Value:=[.pointer (some ⟨T,0,none⟩)]
def zcK(T:Nat):(ptrC T).length=1:=rfl
def zon(T:Nat):∀u∈ptrC T,u.oneCell'=true:=by simp[ptrC,Value.oneCell']
def zbL:ElTy Tryz.prog 34 9 1 16:=zdm (z:=.string ⟨#[]⟩) McT McT rfl McU
def zgr:ElTy Tryz.prog 68 126 2 32:=zdm (z:=.agg #[.string ⟨#[]⟩,.string ⟨#[]⟩]) McT McT rfl McU
def elTomb:ElTy Tryz.prog 73 76 1 8:=zdm (z:=.pointer none) McT McT rfl McU
def Ro{α:Type}(W:World)(e:TypeId)(f:α->List Value)(A:Option Addr)(xs:List α):Prop:=
 0<xs.length->∃b off cur fr,A=some ⟨b,off,none⟩/\W.heap[b]?=some (.cells cur e fr)/\∀j u,(xs.flatMap f)[j]?=some u->cur[off+j]?=some u
section
variable {α:Type} {W W':World} {e:TypeId} {size base:Nat} {f:α->List Value} {A:Option Addr} {xs:List α} {v:Value}
def Ro.sl(ag:∀x,(f x).length=size)(h:Ro W e f A xs):Sl W size f A xs:=λhl=>by
 obtain⟨b,off,cur,fr,hA,hb,hx⟩:=h hl;refine⟨b,off,hA,(Array.getElem?_eq_some_iff.1 hb).1,λk x hk j u hu=>?_⟩;have:=hx (k*size+j) u (zeU f size ag xs k x hk j u hu);simp only[World.cell?,hb,Nat.add_assoc];exact this
def Ro.same(h:Ro W e f A xs)(hk:∀b cur fr,W.heap[b]?=some (.cells cur e fr)->(∀off,A=some ⟨b,off,none⟩->True)->W'.heap[b]?=W.heap[b]?):Ro W' e f A xs:=λhl=>by
 obtain⟨b,off,cur,fr,hA,hb,hx⟩:=h hl;exact⟨b,off,cur,fr,hA,(hk b cur fr hb λ_ _=>trivial).trans hb,hx⟩
def Ro.keep{n:Nat}(h:Ro W e f A xs)(hB:Below n W W')(hn:W.heap.size<=n:=by first|exact Qc|omega):Ro W' e f A xs:=
 h.same λb cur fr hb _=>hB.block b (Nat.lt_of_lt_of_le (Array.getElem?_eq_some_iff.1 hb).1 hn)
def Ro.nil:Ro W e f A ([]:List α):=λh=>absurd h McV
def OwnS.ro(h:OwnS W base e size f v xs):∃A c,v=.slice A xs.length c/\xs.length<=c/\Ro W e f A xs:=by
 rcases h with⟨rfl,rfl⟩|⟨g,o,c,cur,rfl,_,hg,hc,_,_,hx⟩
 ·exact⟨none,0,rfl,Qc,Ro.nil⟩
 ·exact⟨_,c,rfl,hc,λ_=>⟨g,o,cur,_,rfl,hg,hx⟩⟩
def OwnS.kept{g:Nat}{cs:Array Value}{t:TypeId}{fr:Nat×Nat}(h:OwnS W base e size f v xs)(hg:W.grownBy W' (some g))(hx:W.heap[g]?=some (.cells cs t fr))(ai:t≠e):OwnS W' base e size f v xs:=
 h.grown hg (by
  rcases h with⟨rfl,_⟩|⟨g',o,c,cur,rfl,_,cr,_⟩
  ·exact .inl rfl
  ·refine .inr λe'=>?_
   simp only[za4,Option.some.injEq]at e';subst e';rw[cr]at hx;simp only[Option.some.injEq,Obj.cells.injEq]at hx
   exact ai hx.2.1.symm)
def OwnS.keptM{g:Nat}{es:Array MapEntry}{c:Nat}(h:OwnS W base e size f v xs)(hg:W.grownBy W' (some g))(hx:W.heap[g]?=some (.map es c)):OwnS W' base e size f v xs:=
 h.grown hg (by
  rcases h with⟨rfl,_⟩|⟨g',o,c,cur,rfl,_,cr,_⟩
  ·exact .inl rfl
  ·refine .inr λe'=>?_
   simp only[za4,Option.some.injEq]at e';subst e';rw[cr]at hx
   simp at hx)
def Ro.kept{g:Nat}{cs:Array Value}{t:TypeId}{fr:Nat×Nat}(h:Ro W e f A xs)(hg:W.grownBy W' (some g))(hx:W.heap[g]?=some (.cells cs t fr))(ai:t≠e):Ro W' e f A xs:=
 h.same λb cur fr' hb _=>hg.block b (Array.getElem?_eq_some_iff.1 hb).1 (λe'=>by
  simp only[Option.some.injEq]at e';subst e';rw[hb]at hx;simp only[Option.some.injEq,Obj.cells.injEq]at hx
  exact ai hx.2.1.symm)
def Ro.keptM{g:Nat}{es:Array MapEntry}{c:Nat}(h:Ro W e f A xs)(hg:W.grownBy W' (some g))(hx:W.heap[g]?=some (.map es c)):Ro W' e f A xs:=
 h.same λb cur fr' hb _=>hg.block b (Array.getElem?_eq_some_iff.1 hb).1 (λe'=>by
  simp only[Option.some.injEq]at e';subst e';rw[hb]at hx
  simp at hx)
end
def MapS.keptC{W W':World}{b g:Nat}{K V:Type}{ek:K->Value}{ev:V->Value}{m:List (K×V)}{cs:Array Value}{t:TypeId}{fr:Nat×Nat}(h:MapS W b ek ev m)(hg:W.grownBy W' (some g))(hx:W.heap[g]?=some (.cells cs t fr)):MapS W' b ek ev m:=
 h.grown hg (λe=>by
  simp only[Option.some.injEq]at e;subst e;obtain⟨es,c,h1,_⟩:=h;rw[h1]at hx
  simp at hx)
def RowIs(W:World)(base:Nat)(m:List (ByteArray×Value))(n:ByteArray)(xs:List ByteArray):Prop:=
 (mget eqS n m=none/\xs=[])\/∃v,mget eqS n m=some v/\OwnS W base 9 1 sC v xs
def WillIs(W:World)(m:List (ByteArray×Value))(n:ByteArray)(xs:Parts):Prop:=
 (mget eqS n m=none/\xs=[])\/∃A c,mget eqS n m=some (.slice A xs.length c)/\Ro W 55 zaa A xs
def zaY(m:List (ByteArray×Value)):List Nat:=m.filterMap λe=>za4 e.2
structure PplAt (base:Nat) (W:World) (B:List Nat) (d c p wl r:Nat) (mv:Value) (s:St):Prop where
 nd:[d,c,p,wl,r].Nodup
 ge:base<=d/\base<=c/\base<=p/\base<=wl/\base<=r
 dead:MapS W d ekS evB (s.dead.map λn=>(n,true))
 rows:∃mc mp,MapS W c ekS (λv:Value=>v) mc/\MapS W p ekS (λv:Value=>v) mp/\(∀n,RowIs W base mc n (zaj s n))/\(∀n,RowIs W base mp n (zbP s n))/\B=zaY (mc++mp)/\(B.Nodup/\(mc.map (·.1)).Nodup/\(mp.map (·.1)).Nodup)
 marr:OwnS W base 126 2 zaW mv s.marriages
 wills:∃m,MapS W wl ekS (λv:Value=>v) m/\∀n,WillIs W m n (zbv s n)
 ren:MapS W r ekP evB (s.renounce.map λx=>(x,true))
def TombAt(W:World)(base:Nat)(B:List Nat)(T:Nat)(g:Grave):Prop:=
 ∃H hc D dc fr,zbt W T g.place g.cls fr g.fin (.slice H g.holders.length hc) (.slice D g.died.length dc)/\base<=T/\g.holders.length<=hc/\g.died.length<=dc/\Ro W 55 zaa H g.holders/\Ro W 9 sC D g.died/\(0<g.died.length->∀a,D=some a->a.block∉B)
structure TombsAt (base:Nat) (W:World) (B:List Nat) (tv:Value) (ps:List Nat) (gs:List Grave):Prop where
 own:OwnS W base 76 1 ptrC tv ps
 len:ps.length=gs.length
 nd:ps.Nodup
 all:∀(i T:Nat) (g:Grave),ps[i]?=some T->gs[i]?=some g->TombAt W base B T g
def WldC(W:World)(b d c p wl r:Nat)(mv tv:Value)(last count:Int):Prop:=W.heap[b]?=some (.cells #[.map (some d),.map (some c),.map (some p),mv,.map (some wl),.map (some r),tv,.int .i64 last,.int .i64 count] 75)
def WldAt(base:Nat)(W:World)(b:Nat)(s:St)(last count:Int):Prop:=
 ∃B d c p wl r mv tv ps,base<=b/\WldC W b d c p wl r mv tv last count/\PplAt base W B d c p wl r mv s/\TombsAt base W B tv ps s.graves
def PeoAt(base:Nat)(W:World)(b:Nat)(s:St):Prop:= ∃B d c p wl r mv tv la co,WldC W b d c p wl r mv tv la co/\PplAt base W B d c p wl r mv s
section
variable {base n:Nat} {W W':World} {B:List Nat} {d c p wl r:Nat} {mv tv:Value} {s:St} {m:List (ByteArray×Value)} {nm:ByteArray}
def RowIs.keep{xs:List ByteArray}(h:RowIs W base m nm xs)(hB:Below n W W')(hn:W.heap.size<=n:=by first|exact Qc|omega):RowIs W' base m nm xs:=by
 rcases h with h|⟨v,h1,h2⟩
 ·exact .inl h
 ·exact .inr ⟨v,h1,h2.keep hB hn⟩
def WillIs.keep{xs:Parts}(h:WillIs W m nm xs)(hB:Below n W W')(hn:W.heap.size<=n:=by first|exact Qc|omega):WillIs W' m nm xs:=by
 rcases h with h|⟨A,c,h1,h2⟩
 ·exact .inl h
 ·exact .inr ⟨A,c,h1,h2.keep hB hn⟩
def PplAt.keep(h:PplAt base W B d c p wl r mv s)(hB:Below n W W')(hn:W.heap.size<=n:=by first|exact Qc|omega):PplAt base W' B d c p wl r mv s:=by
 obtain⟨mc,mp,k1,k2,k3,k4,k5,k6⟩:=h.rows;obtain⟨m,k7,k8⟩:=h.wills;exact⟨h.nd,h.ge,h.dead.below hB hn,⟨mc,mp,k1.below hB hn,k2.below hB hn,λx=>(k3 x).keep hB hn,λx=>(k4 x).keep hB hn,k5,k6⟩,h.marr.keep hB hn,⟨m,k7.below hB hn,λx=>(k8 x).keep hB hn⟩,h.ren.below hB hn⟩
def TombAt.keep{T:Nat}{g:Grave}(h:TombAt W base B T g)(hB:Below n W W')(hn:W.heap.size<=n:=by first|exact Qc|omega):TombAt W' base B T g:=by
 obtain⟨H,hc,D,dc,fr,h1,h2,h3,h4,h5,h6,h7⟩:=h;exact⟨H,hc,D,dc,fr,(hB.block T (Nat.lt_of_lt_of_le (zab h1) hn)).trans h1,h2,h3,h4,h5.keep hB hn,h6.keep hB hn,h7⟩
def TombsAt.keep{ps:List Nat}{gs:List Grave}(h:TombsAt base W B tv ps gs)(hB:Below n W W')(hn:W.heap.size<=n:=by first|exact Qc|omega):TombsAt base W' B tv ps gs:=
 ⟨h.own.keep hB hn,h.len,h.nd,λi T g h1 h2=>(h.all i T g h1 h2).keep hB hn⟩
def WldC.keep{b:Nat}{la co:Int}(h:WldC W b d c p wl r mv tv la co)(hB:Below n W W')(hn:W.heap.size<=n:=by first|exact Qc|omega):WldC W' b d c p wl r mv tv la co:=
 (hB.block b (Nat.lt_of_lt_of_le (zab h) hn)).trans h
def WldAt.keep{b:Nat}{la co:Int}(h:WldAt base W b s la co)(hB:Below n W W')(hn:W.heap.size<=n:=by first|exact Qc|omega):WldAt base W' b s la co:=by
 obtain⟨B,d,c,p,wl,r,mv,tv,ps,h1,h2,h3,h4⟩:=h;exact⟨B,d,c,p,wl,r,mv,tv,ps,h1,h2.keep hB hn,h3.keep hB hn,h4.keep hB hn⟩
def PeoAt.keep{b:Nat}(h:PeoAt base W b s)(hB:Below n W W')(hn:W.heap.size<=n:=by first|exact Qc|omega):PeoAt base W' b s:=by
 obtain⟨B,d,c,p,wl,r,mv,tv,la,co,h1,h2⟩:=h;exact⟨B,d,c,p,wl,r,mv,tv,la,co,h1.keep hB hn,h2.keep hB hn⟩
def WldAt.peo{b:Nat}{la co:Int}(h:WldAt base W b s la co):PeoAt base W b s:=by
 obtain⟨B,d,c,p,wl,r,mv,tv,ps,h1,h2,h3,h4⟩:=h;exact⟨B,d,c,p,wl,r,mv,tv,la,co,h2,h3⟩
def WldAt.lt{b:Nat}{la co:Int}(h:WldAt base W b s la co):b<W.heap.size/\base<=b:=by
 obtain⟨B,d,c,p,wl,r,mv,tv,ps,h1,h2,h3,h4⟩:=h;exact⟨zab h2,h1⟩
end
def PplAt.kept{base:Nat}{W W':World}{B:List Nat}{d c p wl r g:Nat}{mv:Value}{s:St}{cs:Array Value}{t:TypeId}{fr:Nat×Nat}(h:PplAt base W B d c p wl r mv s)(hg:W.grownBy W' (some g))(hx:W.heap[g]?=some (.cells cs t fr))
 (h1:t≠9)(h2:t≠126)(h3:t≠55):PplAt base W' B d c p wl r mv s:=by
 obtain⟨mc,mp,k1,k2,k3,k4,k5,k6⟩:=h.rows;obtain⟨m,k7,k8⟩:=h.wills;have b8:∀ {m:List (ByteArray×Value)} {nm:ByteArray} {xs:List ByteArray},RowIs W base m nm xs->RowIs W' base m nm xs:=λh=>by
  rcases h with h|⟨v,pY,JT⟩
  ·exact .inl h
  ·exact .inr ⟨v,pY,JT.kept hg hx h1⟩
 refine⟨h.nd,h.ge,h.dead.keptC hg hx,⟨mc,mp,k1.keptC hg hx,k2.keptC hg hx,λx=>b8 (k3 x),λx=>b8 (k4 x),k5,k6⟩,h.marr.kept hg hx h2,⟨m,k7.keptC hg hx,λx=>?_⟩,h.ren.keptC hg hx⟩;rcases k8 x with h'|⟨A,c,e1,e2⟩
 ·exact .inl h'
 ·exact .inr ⟨A,c,e1,e2.kept hg hx h3⟩
end
open Go.Shelf
attribute [local go_sem] zao zac
def zhP(n:ByteArray):∀l:List ByteArray,(mget eqS n (l.map λx=>(x,true))).getD false=l.any (zae n)
 | []=>rfl
 |x::l=>by
  rw[List.map_cons,mget,List.any_cons];show(if eqS n x=true then some true else _).getD false=_;have e:eqS n x=zae n x:=rfl;rw[e];cases h:zae n x
  ·simpa using zhP n l
  ·rfl
def zna(k:ByteArray×ByteArray):∀l:List (ByteArray×ByteArray),(mget eqP k (l.map λx=>(x,true))).getD false=l.any λr=>zae r.1 k.1&&zae r.2 k.2
 | []=>rfl
 |x::l=>by
  rw[List.map_cons,mget,List.any_cons];have e1:∀a b:ByteArray,zae a b=zae b a:=λa b=>by
   rw[Bool.eq_iff_iff,za2,za2];exact⟨Eq.symm,Eq.symm⟩
  have e:eqP k x=(zae x.1 k.1&&zae x.2 k.2):=by rw[e1 x.1,e1 x.2];rfl
  show(if eqP k x=true then some true else _).getD false=_;rw[e];cases h:(zae x.1 k.1&&zae x.2 k.2)
  ·simpa using zna k l
  ·rfl
variable{base:Nat}{W:World}{B:List Nat}{d c p wl r:Nat}{mv:Value}{s:St}
def zd0(h:PplAt base W B d c p wl r mv s)(n:ByteArray):
 (Instr.lookup 66 (.map (some d)) (.string n) false).run Tryz.prog W=.ok (.bool (zaN s n)) W:=by
 have:=zb4 zoV h.dead.at n;rw[zhP]at this;exact this
def zoo(h:PplAt base W B d c p wl r mv s)(a b:ByteArray):
 (Instr.lookup 70 (.map (some r)) (.agg #[.string a,.string b]) false).run Tryz.prog W=.ok (.bool (s.renounce.any λx=>zae x.1 a&&zae x.2 b)) W:=by
 have:=zb4 mapPB h.ren.at (a,b);rw[zna]at this;exact this
def PplAt.drewN(h:PplAt base W B d c p wl r mv s)(q:Nat):PplAt base (W.drewN q) B d c p wl r mv s:=h.keep (n:=W.heap.size) ⟨rfl,rfl,rfl,Qc,λ_ _=>rfl⟩
def zl2(base b X:Nat)(s:St)(q:RPart)(w:World)(hW:PeoAt base w b s)(hX:X<w.heap.size)(hc:w.cell? ⟨X,0,none⟩=some (.pointer (some ⟨b,0,none⟩))):
 Calls Tryz.prog 140 #[.agg #[.string q.name,.int .i64 q.num,.int .i64 q.den],.pointer (some ⟨X,0,none⟩)] w (Ret w (.bool (zaN s q.name))):=by
 obtain⟨B,d,c,p,wl,r,mv,tv,la,co,h1,h2⟩:=hW;have hb:=zab h1;unfold WldC at h1;have c0:w.cell? ⟨b,0,none⟩=some (.map (some d)):=MeT;have fN:∀o q',(Instr.lookup 66 (.map (some d)) (.string q.name) false).run Tryz.prog ((w.alloc o).drewN q')=.ok (.bool (zaN s q.name)) ((w.alloc o).drewN q'):=λo q'=>zd0 ((h2.keep (n:=w.heap.size) (zad Qb o)).drewN q') _
 have hXn:X≠w.heap.size:=McS;have ip:b≠w.heap.size:=McS;clear h1 h2;go_enter Tryz.func140,Tryz.ntmps140
 go_wp2_with fail
 go_quiet (fail)
 exact Maz
def zk4(base b X:Nat)(s:St)(xs:List RPart)(w:World)(hW:PeoAt base w b s)(hX:X<w.heap.size)(hc:w.cell? ⟨X,0,none⟩=some (.pointer (some ⟨b,0,none⟩))):
 zeY 140 #[.pointer (some ⟨X,0,none⟩)] (λx=> .agg (RPart.cells x).toArray) (λq=>zaN s q.name) xs w:=λx _ W hB=>by
 refine(zl2 base b X s x W (hW.keep hB) (Nat.lt_of_lt_of_le hX hB.size) ((hB.cell (p:=⟨X,0,none⟩) hX).trans hc)).mono ?_;rintro e wq ⟨rfl,z,rfl⟩;exact⟨rfl,hB.trans ((zan W z).mono hB.size)⟩
def zi5(base b:Nat)(s:St)(xs:List RPart)(A:Option Addr)(n c:Nat)(w:World)(hn:n=xs.length)(hl:xs.length<=100000)(hW:PeoAt base w b s)(hS:Sl w 3 RPart.cells A xs):
 Calls Tryz.prog 107 #[.pointer (some ⟨b,0,none⟩),.slice A n c] w (Ret w (.bool (zdZ s xs))):=by
 have eg:∀args w,(callFunc 140 args).run Tryz.prog w=.ok (.enter 140 args) w:=enters_of Tryz.func140 McT rfl;obtain⟨HS,HW,HN⟩:=yH3 hS hW hn;clear hS hW hn;go_enter Tryz.func107,Tryz.ntmps107
 go_wp2_with (go_at_call 60
              refine(zcS _ _ eg (λq=>zaN s q.name) _ n _ xs _ HN.o hl (HS.o.keep (n:=w.heap.size) Bw) (zk4 base b _ s xs _ (HW.o.keep (n:=w.heap.size) Bw) McV Mdo)).mono ?_
              rintro e wq ⟨rfl,z,rfl⟩)
 go_ret
 exact Ret.of rfl Bw
def zl3(xs:List ByteArray)(x:ByteArray)(A:Option Addr)(n c:Nat)(w:World)(hn:n=xs.length)(hl:xs.length<=100000)(hS:Sl w 1 sC A xs):
 Calls Tryz.prog 35 #[.slice A n c,.string x] w (Ret0 w (.bool (xs.any (zae x)))):=by
 subst hn;by_cases h0:xs.length=0
 ·have hx:xs=[]:=List.eq_nil_of_length_eq_zero h0;subst hx;have aT:=AnyE.slices_Contains_empty coStr A c (.string x) w;change Calls Tryz.prog 35 _ _ _ at aT;exact MbC
 ·obtain⟨b,off,rfl,hb,hc⟩:=hS McS;haveI:Inhabited ByteArray:=⟨⟨#[]⟩⟩
  have aT:=AnyE.slices_Contains coStr Value.string (λa b:ByteArray=>a.toList==b.toList) (EqlAt.string _ _) b off xs.length c xs x w Qc McS (λj hj=>by
   rw[getElem!_pos xs j hj];have:=hc j _ (List.getElem?_eq_getElem hj) 0 _ rfl
   simpa using this)
  rw[List.take_of_length_le Qc]at aT;change Calls Tryz.prog 35 _ _ _ at aT;exact MbC
def eqlPair:EqlAt Tryz.prog 126 (λx:ByteArray×ByteArray=> .agg (zaW x).toArray) eqP:=by
 refine⟨λx y w=>?_,GuardAt.agg _ McT⟩;show(binOp .eql 126 (.agg #[.string x.1,.string x.2]) (.agg #[.string y.1,.string y.2])).run Tryz.prog w=_;rw[run_eql_struct,zl1 9998 x.1 x.2 y.1 y.2 w];rfl
def ixPairNil(A:Option Addr)(c:Nat)(a b:ByteArray)(w:World):Calls Tryz.prog 98 #[.slice A 0 c,.agg #[.string a,.string b]] w (Ret w (.int .i64 (-1))):=by
 go_enter Tryz.func98,Tryz.ntmps98
 go_wp2_with fail
 go_loopw [5,8] (λ_ i wr=>i=.int .i64 0/\∃z,wr=w.ext z) (λ_ _ _=>0)
 case atStart=>exact⟨rfl,zaP Bw⟩
 case round=>
  obtain⟨rfl,z,rfl⟩:=hrel;exact Maz
def coPairNil(A:Option Addr)(c:Nat)(a b:ByteArray)(w:World):Calls Tryz.prog 62 #[.slice A 0 c,.agg #[.string a,.string b]] w (Ret w (.bool false)):=by
 go_enter Tryz.func62,Tryz.ntmps62
 go_wp2_with (go_at_call 98;refine(ixPairNil _ _ _ _ _).mono ?_;rintro e wq ⟨rfl,z,rfl⟩)
 go_ret
 exact Ret.of rfl Bw
def zoY(xs:List (ByteArray×ByteArray))(a b:ByteArray)(A:Option Addr)(n c:Nat)(w:World)(hn:n=xs.length)(hl:xs.length<=100000)(hS:Sl w 2 zaW A xs):
 Calls Tryz.prog 62 #[.slice A n c,.agg #[.string a,.string b]] w (Ret w (.bool (xs.any λy=>eqP (a,b) y))):=by
 subst hn;by_cases h0:xs.length=0
 ·have hx:xs=[]:=List.eq_nil_of_length_eq_zero h0;subst hx;refine(coPairNil _ _ _ _ _).mono ?_;rintro e wq ⟨rfl,z,rfl⟩;exact Ret.of rfl Bw
 ·obtain⟨b',off,rfl,hb,hc⟩:=hS McS;haveI:Inhabited (ByteArray×ByteArray):=⟨(⟨#[]⟩,⟨#[]⟩)⟩
  have aT:=AnyQ.slices_Contains coPair 2 Tryz.isAgg126 Tryz.sizeOf126 zaW (λ_=>rfl) eqP eqlPair b' off xs.length c xs (a,b) w Qc McS (λj hj i v hi=>by
   rw[getElem!_pos xs j hj]at hi
   exact hc j _ (List.getElem?_eq_getElem hj) i v hi)
  rw[List.take_of_length_le Qc]at aT;change Calls Tryz.prog 62 _ _ _ at aT;exact MbA
def zhQ(s:St)(a b:ByteArray):Bool:=s.marriages.any (λy=>eqP (a,b) y)||s.marriages.any λy=>eqP (b,a) y
def zi6(base b:Nat)(s:St)(x y:ByteArray)(w:World)(hW:PeoAt base w b s)(hl:s.marriages.length<=100000):
 Calls Tryz.prog 33 #[.pointer (some ⟨b,0,none⟩),.string x,.string y] w (Ret w (.bool (zhQ s x y))):=by
 obtain⟨B,d,c,p,wl,r,mv,tv,la,co,h1,h2⟩:=hW;obtain⟨A,cc,rfl,hS,hc⟩:=h2.marr.sl zbk;have hb:=zab h1;unfold WldC at h1;have c3:w.cell? ⟨b,3,none⟩=some (.slice A s.marriages.length cc):=MeT;have HS:=zHi hS;clear h1 h2 hS;go_enter Tryz.func33,Tryz.ntmps33
 go_wp2_with (go_at_call 62;refine(zoY s.marriages _ _ A _ cc _ rfl hl (HS.o.keep (n:=w.heap.size) Bw)).mono ?_;intro e wq hq;rcases Ret.bools hq with⟨zq,rfl,⟨hb,rfl⟩|⟨hb,rfl⟩⟩<;>clear hq)
 all_goals go_ret
 all_goals exact Ret.of (zaT (by simp[zhQ, *])) Bw

