import Derived.Test.YthhgkjfgpkbliaaGreatDoorJI
set_option linter.all false
set_option maxRecDepth 100000
set_option maxHeartbeats 4000000
namespace Go.Proofs.YthhgkjfgpkbliaaGreatDoor
open Go.RowKit
attribute [local go_sem] World.cell?_alloc_mark zae zav zai zaw zam zan zao zap zaq zar zas
section
open Go.Shelf
attribute [local go_sem] zah zac
theorem zmk{P:Program}(w:World)(t e ty:TypeId)(z:Value)(ht:P.underlying t=some (.slice e))(hv:∀w,(zeroValue e).run P w=.ok z w)(h1:∀u∈z.cells,u.oneCell'=true)(hp:0<z.cells.size)(b o n c:Nat)(hn:0<n)
 (hc:∀j,j<n*z.cells.size->(w.cell? ⟨b,o+j,none⟩).isSome=true)(hf:∀j,j<n*z.cells.size->w.frozen? ⟨b,o+j,none⟩=false):
 (Builtin.clear_ #[t] ty #[.slice (some ⟨b,o,none⟩) n c]).run P w=.ok (.tuple #[]) (w.setCells b o (Builtin.zeroCells z.cells n).toList):=by
 have hl:(Builtin.zeroCells z.cells n).toList.length=n*z.cells.size:=by simp[Builtin.zeroCells]
 have am:=run_storeCells_cells (P:=P) b o (Builtin.zeroCells z.cells n).toList 0 w (by rw[hl];simpa using hc) (by rw[hl];simpa using hf) (by
  intro v fK;refine h1 v ?_;obtain⟨i,hi,rfl⟩:=List.getElem_of_mem fK;simp[Builtin.zeroCells]at hi⊢
  first|done|exact Array.getElem_mem _|simp[Nat.mod_lt _ hp])
 simp only[Nat.add_zero]at am;obtain⟨m,rfl⟩:∃m,n=m+1:=⟨n-1,by omega⟩
 simp[Builtin.clear_,run_underlying ht,hv,am]
theorem zdV{P:Program}{ops:Array Oper}{o:Oper}{a:Act}{w:World}{K:Act->World->Prop}{Q:Exit->Act->World->Prop}{E:Prop}
 (hg:o.guard=none)(d x:Operand)(dT sT:TypeId)(CN:o.op=Op.call {callee:=Callee.builtin Builtin.append,args:= #[d,x],argTypes:= #[dT,sT]})
 (v u:Value)(hd:a.eval d=v)(hx:a.eval x=u){v':Value}{w':World}(hr:(Builtin.append_ #[dT,sT] o.type #[v,u]).run P w=.ok v' w')(hK:K (a.put o.dst v') w'):
 if Region.wanted o (yielded ops a.tmps)=true then Oper.wp P o a w K Q else E:=by
 have hw:Region.wanted o (yielded ops a.tmps)=true:=by simp[Region.wanted,hg]
 rw[if_pos hw];unfold Oper.wp;simp[execOp,CN,resolve,invoke,builtin,hd,hx,hr,Result.andThen];exact hK
theorem del_any(base:Nat)(xs:Parts)(w:World)(hl:xs.length<=100000)(v:Value)(ae:OwnS w base 59 3 zaa v xs)(i:Nat)(hi:i<xs.length):
 Calls Tryz.prog 201 #[v,.int .i64 i,.int .i64 (i+1:Nat)] w (zee w base v (xs.take i++xs.drop (i+1))):=by
 rcases ae with⟨rfl,rfl⟩|⟨g,o,c,cur,rfl,ij,hg,hc,gu,aL,hx⟩
 ·simp at hi
 have mixed:Tryz.prog.follows .mixedOrders=true:=MbE;obtain⟨i0,z,kD,tB,bH,tC,oa⟩:=zgZ.hi;have hsz:(Tryz.prog.info? 59).map (·.size)=some 3:=by rw[kD];simp[bH]
 have aZ:((xs.drop (i+1)).flatMap zaa).length=(xs.length-(i+1))*3:=McH;have ay:∀j,j<c*3->(w.cell? ⟨g,o+j,none⟩).isSome=true:=fun j hj=>by simp[World.cell?,hg];omega
 have bG:((xs.take (i+1)).flatMap zaa).length=(i+1)*3:=MbZ;have bB:xs.flatMap zaa=(xs.take (i+1)).flatMap zaa++(xs.drop (i+1)).flatMap zaa:=Mb4;have pV:∀(A:Addr),(i+1<xs.length->A=⟨g,o+(i+1)*3,none⟩)->∀ty cc,(Builtin.append_ #[26,26] ty #[.slice (some ⟨g,o,none⟩) i c,.slice (some A) (xs.length-(i+1)) cc]).run Tryz.prog w.drew=.ok (.slice (some ⟨g,o,none⟩) (i+(xs.length-(i+1))) c) (w.drew.setCells g (o+i*3) ((xs.drop (i+1)).flatMap zaa)):=fun A hA ty cc=>by
  have:=run_append_room_cells (P:=Tryz.prog) w.drew 26 ty 59 i0 Tryz.underlying26 kD g o i c A (xs.length-(i+1)) cc ((xs.drop (i+1)).flatMap zaa) (by rw[aZ,bH])
   (fun j u hj=>by
     have dQ:=(List.getElem?_eq_some_iff.1 hj).1;rw[hA MbC,Addr.add_lit];have e:(xs.flatMap zaa)[(i+1)*3+j]?=some u:=by rw[bB,List.getElem?_append_right MbC,bG,Nat.add_sub_cancel_left];exact hj
     have:=hx _ _ e;show w.cell? _=_;simp only[World.cell?,hg,Nat.add_assoc]
     exact this) (zgY _) MbC (fun j hj=>by rw[bH];rw[aZ]at hj;show(w.cell? _).isSome=_;rw[Nat.add_assoc];exact ay _ MbC) (fun j hj=>by show w.frozen? _=_;simp[World.frozen?,hg])
  rw[bH]at this;exact this
 have aB:i+(xs.length-(i+1))=xs.length-1:=MbC;rw[aB]at pV;obtain⟨cur1,k1,k2,k3,k4⟩:=zby g ((xs.drop (i+1)).flatMap zaa) (o+i*3) w.drew cur hg (by rw[aZ];omega);have aR:=zbt g ((xs.drop (i+1)).flatMap zaa) (o+i*3) w.drew;obtain⟨W1,aV⟩:∃W1,W1=w.drew.setCells g (o+i*3) ((xs.drop (i+1)).flatMap zaa):=⟨_,rfl⟩
 rw[<-aV]at pV k1 aR;have vk:∀ty cc,(Builtin.clear_ #[26] ty #[.slice (some ⟨g,o+(xs.length-1)*3,none⟩) (xs.length-(xs.length-1)) cc]).run Tryz.prog W1=.ok (.tuple #[]) (W1.setCells g (o+(xs.length-1)*3) (Builtin.zeroCells (Value.agg #[.string ⟨#[]⟩,.int .i64 0,.int .i64 0]).cells (xs.length-(xs.length-1))).toList):=fun ty cc=>
  zmk W1 26 59 ty (.agg #[.string ⟨#[]⟩,.int .i64 0,.int .i64 0]) Tryz.underlying26 Tryz.zeroValue59 (by simp[Value.cells,Value.oneCell']) (by simp[Value.cells]) g _ _ cc MbC
   (fun j hj=>by simp[Value.cells]at hj;simp[World.cell?,k1,k2];omega) (fun j hj=>by simp[World.frozen?,k1])
 have HF:Hid (zee w base (.slice (some ⟨g,o,none⟩) xs.length c) (xs.take i++xs.drop (i+1)) (.returned (.slice (some ⟨g,o,none⟩) (xs.length-1) c)) (W1.setCells g (o+(xs.length-1)*3) (Builtin.zeroCells (Value.agg #[.string ⟨#[]⟩,.int .i64 0,.int .i64 0]).cells (xs.length-(xs.length-1))).toList)):=by
  have mY:w.grownBy W1 (some g):=⟨aR.os,aR.tape,aR.output,aR.size,aR.block⟩
  have mZ:(Builtin.zeroCells (Value.agg #[.string ⟨#[]⟩,.int .i64 0,.int .i64 0]).cells (xs.length-(xs.length-1))).toList.length=3:=by
   rw[Array.length_toList,zdx];simp[Value.cells];omega
  obtain⟨cur2,l1,l2,l3,l4⟩:=zby g _ (o+(xs.length-1)*3) W1 cur1 k1 (by rw[mZ,k2];omega);have af:(xs.take i++xs.drop (i+1)).length=xs.length-1:=MbH;refine⟨_,rfl,.inr ⟨g,o,c,cur2,by rw[af],ij,l1,by rw[af];omega,gu,by rw[l2,k2];exact aL,fun j u hj=>?_⟩,zbb mY (zbt _ _ _ _),fun g' h=> .inl h⟩;have dQ:=(List.getElem?_eq_some_iff.1 hj).1;rw[zd7,af]at dQ;rw[l3 _ (.inl MbC)];have D7:((xs.take i).flatMap zaa).length=i*3:=MbZ;rw[List.flatMap_append]at hj;by_cases bh:j<i*3
  ·rw[List.getElem?_append_left MbC]at hj;rw[k3 _ (.inl MbC)];refine hx j u ?_;exact Mad
  ·rw[List.getElem?_append_right MbC,D7]at hj;have:=k4 _ u hj;rwa [show o+i*3+(j-i*3)=o+j by omega]at this
 have cS:(i:Int)+1<=(xs.length:Int):=MbC;have ax:(0:Int)<=(i:Int):=MbC;have cw:¬((i:Int)=(i:Int)+1):=MbC;have bW:(xs.length:Int)<=(c:Int):=MbC;have nK:(i:Int)<=(c:Int):=MbC;have bx:¬(c=xs.length-1):=MbC;have aY:((xs.length-1:Nat):Int)<=(xs.length:Int):=MbC;have aW:(0:Int)<=(i:Int)+1:=MbC;have fI:((i:Int)+1).toNat=i+1:=MbC;clear aV k1 k2 k3 k4 aR ay hx aZ bG bB hg aB;go_enter Tryz.func201,Tryz.ntmps201
 by_cases cH:c=i+1
 ·clear bW nK bx aY cS hl;generalize hm:xs.length=m at*;obtain rfl:m=i+1:=by omega
  subst cH;clear hm hc hi;have dJ:(i:Int)<=(i:Int)+1:=MbC;simp only[Nat.add_sub_cancel,Nat.add_sub_cancel_left,Nat.sub_self]at pV vk HF;go_wp2_with fail
  go_region_law_o (go_loud(refine zdV rfl _ _ 26 26 rfl _ (.slice (some ⟨g,o,none⟩) 0 0) Mb3 (by simp[Act.eval,Act.put]) (pV _ (fun h=>absurd h MbC) _ _) ?_))
  go_wp2_with fail
  go_ret
  exact HF.o
 ·go_wp2_with fail
  go_region_law_o (go_loud(refine zdV rfl _ _ 26 26 rfl _ _ Mb3 Mb3 (pV _ (fun _=>rfl) _ _) ?_))
  go_wp2_with fail
  go_ret
  exact HF.o
theorem ins_any(base:Nat)(xs:Parts)(p:ByteArray×Rat)(vb:Nat)(w:World)(hl:xs.length<=100000)(bL:w.heap[vb]?=some (.cells #[.string p.1,.int .i64 p.2.num,.int .i64 p.2.den] 59))(ak:base<=w.heap.size)(v:Value)
 (ae:OwnS w base 59 3 zaa v xs)(ag:za1 v≠some vb)(i:Nat)(hi:i<=xs.length):
 Calls Tryz.prog 202 #[v,.int .i64 i,.slice (some ⟨vb,0,none⟩) 1 1] w (zee w base v (xs.take i++p::xs.drop i)):=by
 by_cases he:i=xs.length
 ·subst he;rw[List.take_of_length_le (Nat.le_refl _),List.drop_eq_nil_of_le (Nat.le_refl _)];exact zmj base xs p vb w hl bL ak v ae
 ·have aa:i<xs.length:=MbC;rcases ae with⟨rfl,rfl⟩|⟨g,o,c,cur,rfl,ij,hg,hc,gu,aL,hx⟩
  ·simp at aa
  ·by_cases hr:xs.length+1<=c
   ·exact zk7 base xs p vb w hl bL ak g o c cur ij hg hr gu aL hx i aa (fun e=>ag (by rw[e];rfl))
   ·have e:c=xs.length:=MbC;subst e;exact zk8 base xs p vb w hl bL ak g o cur hg hx i aa
theorem zgw{W:World}{base:Nat}{e t:TypeId}{size:Nat}{f:ByteArray×Rat->List Value}{v:Value}{xs:Parts}{T:Nat}{cs:Array Value}{fr:Nat×Nat}(h:OwnS W base e size f v xs)(hT:W.heap[T]?=some (.cells cs t fr))(ag:t≠e):za1 v≠some T:=by
 exact MG
def zi8(w:World)(base T:Nat)(pl:ByteArray)(cl fr en:Int)(dv v:Value)(ys:Parts)(e:Ending)(w':World):Prop:=
 e=.returned (.tuple #[])/\∃v',zbe w' T pl cl fr en v' dv/\OwnS w' base 59 3 zaa v' ys/\Below base w w'/\∀k,k<w.heap.size->k≠T->za1 v≠some k->w'.heap[k]?=w.heap[k]?
theorem numZ(q:Rat):(q==0)=(q.num==0):=by
 rw[Bool.eq_iff_iff,beq_iff_eq,beq_iff_eq,Rat.num_eq_zero]
theorem set_at{P Q:Parts}{nm:ByteArray}{q:Rat}(hP:∀p∈P,zbm p.1 nm=true)(hQ:∀p∈Q,zbm p.1 nm=false):
 setP (P++Q) nm q=if q.num==0 then(if zdh Q nm then P++Q.drop 1 else P++Q)else if zdh Q nm then P++(nm,q)::Q.drop 1 else P++(nm,q)::Q:=by
 rw[zd5 hP,<-numZ];cases Q with
 |nil=>simp[setP,zdh];split<;>simp
 |cons b Q=>
  rw[setP,hQ b MbF];simp only[zdh,Bool.false_eq_true,if_false,List.drop_succ_cons,List.drop_zero];split<;>split<;>simp_all
theorem zfk{W:World}{T:Nat}{pl:ByteArray}{cl fr en:Int}{v dv:Value}(h:zbe W T pl cl fr en v dv)(v':Value):zbe (W.setCell ⟨T,4,none⟩ v') T pl cl fr en v' dv:=by
 unfold zbe at*;have:=Joins.block_setCell (i:=4) h v';simpa using this
theorem own_set2{W:World}{base g o n c:Nat}{P Q:Parts}{b:ByteArray×Rat}{q:Rat}(h:OwnS W base 59 3 zaa (.slice (some ⟨g,o,none⟩) n c) (P++b::Q)):
 OwnS ((W.setCell ⟨g,o+P.length*3+1,none⟩ (.int .i64 q.num)).setCell ⟨g,o+P.length*3+1+1,none⟩ (.int .i64 q.den)) base 59 3 zaa (.slice (some ⟨g,o,none⟩) n c) (P++(b.1,q)::Q):=by
 rcases h with⟨h,_⟩|⟨g',o',c',cur,h,hb,hg,hc,hm,hs,hx⟩
 ·cases h
 ·simp only[Value.slice.injEq,Option.some.injEq,Addr.mk.injEq,and_true]at h;obtain⟨⟨rfl,rfl⟩,rfl,rfl⟩:=h;refine .inr ⟨g,o,c,(cur.setIfInBounds (o+P.length*3+1) (.int .i64 q.num)).setIfInBounds (o+P.length*3+1+1) (.int .i64 q.den),by simp,hb,heap_setCell_same _ g _ _ _ _ (heap_setCell_same W g _ cur _ _ hg),by simpa using hc,hm,by simpa using hs,fun j u hj=>?_⟩;have hl:(P.flatMap zaa).length=P.length*3:=zd7 P;have dQ:=(List.getElem?_eq_some_iff.1 hj).1;rw[zd7]at dQ;simp only[List.length_append,List.length_cons]at dQ hc;rw[List.flatMap_append,List.flatMap_cons]at hj;by_cases h1:j<P.length*3
  ·rw[List.getElem?_append_left MbC]at hj;rw[Array.getElem?_setIfInBounds_ne MbC,Array.getElem?_setIfInBounds_ne MbC];refine hx j u ?_;rw[List.flatMap_append,List.getElem?_append_left MbC];exact hj
  ·rw[List.getElem?_append_right MbC,hl]at hj;by_cases h2:j-P.length*3<3
   ·rw[List.getElem?_append_left (by rw[za0];exact h2)]at hj;obtain h3|h3|h3:j-P.length*3=0\/j-P.length*3=1\/j-P.length*3=2:=by omega
    ·rw[h3]at hj;rw[Array.getElem?_setIfInBounds_ne MbC,Array.getElem?_setIfInBounds_ne MbC];refine hx j u ?_;rw[List.flatMap_append,List.flatMap_cons,List.getElem?_append_right MbC,hl,List.getElem?_append_left (by rw[za0];exact h2),h3];exact hj
    ·rw[h3]at hj;rw[Array.getElem?_setIfInBounds_ne MbC,show o+j=o+P.length*3+1 by omega,Array.getElem?_setIfInBounds_self_of_lt MbC];simpa[zaa]using hj
    ·rw[h3]at hj;rw[show o+j=o+P.length*3+1+1 by omega,Array.getElem?_setIfInBounds_self_of_lt MbH];simpa[zaa]using hj
   ·rw[List.getElem?_append_right McF,za0]at hj;rw[Array.getElem?_setIfInBounds_ne MbC,Array.getElem?_setIfInBounds_ne MbC];refine hx j u ?_;rw[List.flatMap_append,List.flatMap_cons,List.getElem?_append_right MbC,hl,List.getElem?_append_right McF,za0];exact hj
theorem zha(base T:Nat)(xs:Parts)(v:Value)(pl:ByteArray)(cl fr en:Int)(dv:Value)(nm:ByteArray)(q:Rat)(w:World)(hT:zbe w T pl cl fr en v dv)(mj:base<=T)(ae:OwnS w base 59 3 zaa v xs)(hA:AscP xs)(hl:xs.length<=90000):
 Calls Tryz.prog 145 #[.pointer (some ⟨T,0,none⟩),.string nm,.agg #[.int .i64 q.num,.int .i64 q.den]] w (zi8 w base T pl cl fr en dv v (setP xs nm q)):=by
 unfold zbe at hT;have aa:T<w.heap.size:=zad hT;have mu:base<=w.heap.size:=MbC;have sG:za1 v≠some T:=zgw ae hT MbD;have bI:=ae.ge;obtain⟨A,c,zh,hS,hc⟩:=ae.sl za0;have gq:w.cell? ⟨T,4,none⟩=some v:=by simp[World.cell?,hT]
 have C8:w.frozen? ⟨T,4,none⟩=false:=by simp[World.frozen?,hT]
 have ag:T≠w.heap.size:=MbC;obtain⟨HO,HS,HA,HV,HT⟩:=yH5 ae hS hA zh hT;clear hS hA ae zh hT;go_enter Tryz.func145,Tryz.ntmps145
 go_upto_region 3 with(go_at_call 200;refine(zl2 xs A c T nm _ (by rw[<-HV.o];simp[go_sem,aa,gq]) MbC HA.o (HS.o.keep (n:=w.heap.size) Bw)).mono ?_;rintro e wq ⟨P,Q,br,hP,hQ,rfl,z,rfl⟩;subst br)
 have aU:=set_at (q:=q) hP hQ;have dw:=zHi aU;clear aU hP hQ;generalize hh:zdh Q nm=ok at*;have HH:=zHi hh;clear hh;obtain⟨W,hW⟩:∃W,W=(w.alloc (.cells #[.int .i64 q.num,.int .i64 q.den] 54)).ext z:=⟨_,rfl⟩
 have cE:Below w.heap.size w W:=by rw[hW];exact Bw
 have q0:W.cell? ⟨w.heap.size,0,none⟩=some (.int .i64 q.num):=by rw[hW];simp[go_sem]
 have q1:W.cell? ⟨w.heap.size,1,none⟩=some (.int .i64 q.den):=by rw[hW];simp[go_sem]
 have mf:zbe W T pl cl fr en v dv:=(cE.block T aa).trans HT.o;have hWs:w.heap.size<W.heap.size:=by rw[hW];simp[zae];omega
 have pI:=zHi (HO.o.keep (n:=w.heap.size) cE);have pR:T<W.heap.size:=zad mf;rw[<-hW];clear hW;have c4:W.cell? ⟨T,4,none⟩=some v:=by unfold zbe at mf;simp[World.cell?,mf]
 have f4:W.frozen? ⟨T,4,none⟩=false:=by unfold zbe at mf;simp[World.frozen?,mf]
 have lM:=zHi mf;clear mf gq C8 ag;have gO:P.length<=(P++Q).length:=MbF;have HB:Hid (∀w1,W.grownBy w1 (za1 v)->Below base w w1/\w1.heap[T]?=W.heap[T]?):=fun w1 h2=>⟨Below.grown (cE.mono mu) h2 (Nat.le_trans mu cE.size) (fun j hj=>(bI j hj).1),h2.block T pR (fun e=>sG e.symm)⟩
 have oz:Hid (∀w1 v' ys,W.grownBy w1 (za1 v)->OwnS w1 base 59 3 zaa v' ys->(∀g,za1 v'=some g->za1 v=some g\/W.heap.size<=g)->setP (P++Q) nm q=ys->zi8 w base T pl cl fr en dv v (setP (P++Q) nm q) (.returned (.tuple #[])) (w1.setCell ⟨T,4,none⟩ v')):=fun w1 v' ys h2 h1 h3 hs=>by
  obtain⟨cS,nX⟩:=HB.o w1 h2;have fK:za1 v'≠some T:=fun e=>by
   rcases h3 T e with h|h
   ·exact sG h
   ·omega
  rw[hs];refine⟨rfl,v',zfk (nX.trans lM.o) v',h1.grown (zay _ _ _ _) (.inr fK),zaU cS mj _,fun k hk sW jJ=>?_⟩;have yF:k<W.heap.size:=Nat.lt_of_lt_of_le hk cE.size;rw[(zay w1 T 4 v').block k (Nat.lt_of_lt_of_le yF h2.size) (fun e=>sW Mcn),h2.block k yF (fun e=>jJ e.symm),cE.block k hk]
 cases hq:(q.num==0)
 ·have HQ:=zHi hq;have fG:¬q.num=0:=by simpa using hq
  clear hq;cases ok
  ·
   have p9:Hid (setP (P++Q) nm q=(P++Q).take P.length++(nm,q)::(P++Q).drop P.length):=by
    show _=_;rw[dw.o,HQ.o,List.take_left,List.drop_left];simp
   have eb:Hid (((P++Q).take P.length++(nm,q)::(P++Q).drop P.length).length=P.length+(Q.length+1)):=by show _=_;simp
   go_upto_region 2 with fail
   go_region_law (go_simp;go_at_call 202
                  refine(ins_any base (P++Q) (nm,q) W.heap.size _ MbC ?q1 ?q2 v ?q3 ?q4 P.length MbC).mono ?_
                  case q1=>(first|exact za3 _ _ _ rfl|(refine J_drew ?_;exact za3 _ _ _ rfl))
                  case q2=>simp;omega
                  case q3=>exact pI.o.keep (n:=W.heap.size) Bw
                  case q4=>(intro e;have:=(bI _ e).2;omega)
                  rintro e w1 ⟨v',rfl,h1,h2,h3⟩;obtain⟨A',c',fK,_,_⟩:=h1.sl za0;rw[eb.o]at fK;subst fK;have t1:=(h2.block T MbH (fun e=>sG e.symm)).trans (show _=some (Obj.cells #[.string pl,.int .i64 cl,.int .i64 fr,.int .i64 en,v,dv] 114 (0,0)) from(Below.heap_alloc _ _ _ pR).trans lM.o);have k1:w1.cell? ⟨T,4,none⟩=some v:=by simp[World.cell?,t1]
                  have k2:w1.frozen? ⟨T,4,none⟩=false:=by simp[World.frozen?,t1])
   all_goals go_wp2_with fail
   all_goals go_end0
   all_goals exact oz.o w1 _ _ (zbb (World.grownBy_alloc W _ _) ⟨h2.os,h2.tape,h2.output,h2.size,h2.block⟩) h1 (fun g hg=>(h3 g hg).imp id (fun h=>by simp at h;omega)) p9.o
  ·
   cases Q with
   |nil=>have:=HH.o;simp[zdh]at this
   |cons b Q=>
    have eu:b.1=nm:=zak.1 HH.o;rcases pI.o with⟨_,h'⟩|⟨g,o,cap,cur,hv,hb,hg,aA,gu,aL,hx⟩
    ·simp at h'
    subst hv;have hl:(P.flatMap zaa).length=P.length*3:=zd7 P;have mi:∀j u,(zaa b)[j]?=some u->cur[o+P.length*3+j]?=some u:=fun j u hj=>by
     have:=hx (P.length*3+j) u (by rw[List.flatMap_append,List.flatMap_cons,List.getElem?_append_right MbC,hl,Nat.add_sub_cancel_left,List.getElem?_append_left (List.getElem?_eq_some_iff.1 hj).1];exact hj);rwa [<-Nat.add_assoc]at this
    have k1:W.cell? ⟨g,o+P.length*3+1,none⟩=some (.int .i64 b.2.num):=by simp only[World.cell?,hg];exact mi 1 _ rfl
    have k2:W.cell? ⟨g,o+P.length*3+1+1,none⟩=some (.int .i64 b.2.den):=by simp only[World.cell?,hg];exact mi 2 _ rfl
    have k3:W.frozen? ⟨g,o+P.length*3+1,none⟩=false:=by simp[World.frozen?,hg]
    have k4:W.frozen? ⟨g,o+P.length*3+1+1,none⟩=false:=by simp[World.frozen?,hg]
    have yv:T≠g:=fun e=>sG (by rw[e];rfl)
    have mC:g≠w.heap.size:=by have:=(bI g rfl).2;omega
    have yz:(P.length:Int)<((P++b::Q).length:Int):=MbH;have kD:(0:Int)<=(P.length:Int):=MbC;have p9:Hid (setP (P++b::Q) nm q=P++(b.1,q)::Q):=by
     show _=_;rw[dw.o,HQ.o,eu];simp
    clear hx mi hg;go_upto_region 7 with fail
    go_region
    all_goals go_wp2_with fail
    all_goals go_end0
    all_goals exact⟨rfl,_,(J_ne yv (J_ne yv lM.o):_),by rw[p9.o];exact own_set2 pI.o,by have hBb:=cE.mono mu;exact Bw,fun k hk sW jJ=>((zbb (zay W g _ _) (zay _ g _ _)).block k (Nat.lt_of_lt_of_le hk cE.size) (fun e=>jJ (by rw[e];rfl))).trans (cE.block k hk)⟩
 ·have HQ:=zHi hq;have fG:q.num=0:=by simpa using hq
  clear hq;cases ok
  ·
   go_wp2_with fail
   go_end0
   exact⟨rfl,v,lM.o,by rw[dw.o,HQ.o];exact pI.o,cE.mono mu,fun k hk _ _=>cE.block k hk⟩
  ·
   have aT:P.length<(P++Q).length:=by
    cases Q with
    |nil=>have:=HH.o;simp[zdh]at this
    |cons b Q=>simp
   have p9:Hid (setP (P++Q) nm q=(P++Q).take P.length++(P++Q).drop (P.length+1)):=by
    show _=_;rw[dw.o,HQ.o,List.take_left,List.drop_append];simp
   have eb:Hid (((P++Q).take P.length++(P++Q).drop (P.length+1)).length=P.length+(Q.length-1)):=by show _=_;simp
   have qh:=del_any base (P++Q) W MbC v pI.o P.length aT;rw[show((P.length+1:Nat):Int)=(P.length:Int)+1 by omega]at qh;have eZ:IntKind.i64.wrap ((P.length:Int)+1)=(P.length:Int)+1:=MbU;go_wp2_with (go_at_call 201;go_loud(refine qh.mono ?_;rintro e w1 ⟨v',rfl,h1,h2,h3⟩;obtain⟨A',c',fK,_,_⟩:=h1.sl za0;rw[eb.o]at fK;subst fK;have t1:w1.heap[T]?=some (Obj.cells #[.string pl,.int .i64 cl,.int .i64 fr,.int .i64 en,v,dv] 114 (0,0)):=(HB.o w1 h2).2.trans lM.o;have k1:w1.cell? ⟨T,4,none⟩=some v:=(by simp[World.cell?,t1]);have k2:w1.frozen? ⟨T,4,none⟩=false:=(by simp[World.frozen?,t1])))
   go_end0
   exact oz.o w1 _ _ h2 h1 h3 p9.o
end
theorem zie{V:Type}(ev:V->Value)(s:ByteArray):∀(es:List MapEntry) (m:List (ByteArray×V)),es.map (fun e=>(e.key,e.val))=m.map (fun p=>(ekS p.1,ev p.2))->∀i,
 Instr.findNow .string (.string s) es i=some ((locate eqS s m i).map fun p=>(p.1,ev p.2))
 | [],[],_,_=>rfl
 | [],_::_,h,_=>by simp at h
 |_::_,[],h,_=>by simp at h
 |e::es,p::m,h,i=>by
  simp only[List.map_cons,List.cons.injEq,Prod.mk.injEq]at h;obtain⟨⟨hk,hv⟩,ht⟩:=h;unfold Instr.findNow locate;rw[hk,hv,ekS,Instr.sameNow,beq_toListBytes];cases hq:eqS s p.1
  ·rw[eqS]at hq;rw[hq];simpa using zie ev s es m ht (i+1)
  ·rw[eqS]at hq;rw[hq];rfl
theorem zi9{V:Type}{t et:TypeId}{ev:V->Value}{z:V}(ht:Tryz.prog.underlying t=some (.map 9 et))(hz:∀w,(zeroValue et).run Tryz.prog w=.ok (ev z) w):MapTy Tryz.prog t 9 et ekS ev z eqS where
 ht:=ht
 hz:=hz
 hck:=zma
 hfind:=fun k es m h w=>by
  simp[Instr.findKey,run_underlying Tryz.underlying9,ekS,zie ev k es m h 0]
 hsame:=fun k k' h=>by
  rw[ekS,ekS,zf8,beq_toListBytes];rw[eqS]at h;rw[eq_of_beq h];exact beq_self_eq_true _
def nilS:Value:=.slice none 0 0
theorem zml:MapTy Tryz.prog 103 9 4 ekS evB false eqS:=zi9 Tryz.underlying103 (fun w=>by kernel_rfl)
theorem zk9:MapTy Tryz.prog 104 9 32 ekS (fun v:Value=>v) nilS eqS:=zi9 Tryz.underlying104 (fun w=>by kernel_rfl)
theorem mapSP:MapTy Tryz.prog 105 9 26 ekS (fun v:Value=>v) nilS eqS:=zi9 Tryz.underlying105 (fun w=>by kernel_rfl)
theorem mapSF:MapTy Tryz.prog 231 9 54 ekS (fun v:Value=>v) (.agg #[.int .i64 0,.int .i64 0]) eqS:=zi9 Tryz.underlying231 (fun w=>by kernel_rfl)
def ekP(p:ByteArray×ByteArray):Value:=.agg #[.string p.1,.string p.2]
def eqP(a b:ByteArray×ByteArray):Bool:=eqS a.1 b.1&&eqS a.2 b.2
theorem info_str:∃i,Tryz.prog.info? 9=some i:=⟨_,(by kernel_rfl:Tryz.prog.info? 9=some (Tryz.prog.info? 9).get!)⟩
theorem cells_str:Tryz.prog.cellsOf 9=1:=by kernel_rfl
theorem zjs(d:Nat)(a c a' c':ByteArray)(w:World):(Op.equalIn (d+2) 171 (.agg #[.string a,.string c]) (.agg #[.string a',.string c'])).run Tryz.prog w=.ok (eqS a a'&&eqS c c') w:=by
 obtain⟨i,hi⟩:=info_str;rw[run_equalIn_array w (d+1) _ _ Tryz.underlying171 hi,cells_str];have hr:List.range 2=[0,1]:=rfl;rw[hr];simp only[Op.eqItems,Sem.run_bind,Nat.zero_mul,Nat.one_mul];have hp:∀(v:Array Value) (j:Nat) (x:ByteArray),v[j]?=some (.string x)->∀W,(part 9 v j).run Tryz.prog W=.ok (.string x) W:=fun v j x hv W=>by
  simp[part,isAgg,run_underlying Tryz.underlying9,hv]
 rw[hp _ 0 a rfl,Result.andThen_ok,hp _ 0 a' rfl,Result.andThen_ok,run_equalIn_string w d 9 a a' Tryz.underlying9,Result.andThen_ok];cases h1:(a.toList==a'.toList)
 ·simp[eqS,h1]
 ·simp only[Bool.not_true,Bool.false_eq_true,if_false,Sem.run_bind];rw[hp _ 1 c rfl,Result.andThen_ok,hp _ 1 c' rfl,Result.andThen_ok,run_equalIn_string w d 9 c c' Tryz.underlying9,Result.andThen_ok];cases h2:(c.toList==c'.toList)<;>simp[eqS,h1,h2]
theorem equal_p(a c a' c':ByteArray)(w:World):(Op.equal 171 (.agg #[.string a,.string c]) (.agg #[.string a',.string c'])).run Tryz.prog w=.ok (eqS a a'&&eqS c c') w:=zjs 9998 a c a' c' w
theorem findNow_p(v:Value)(e:MapEntry)(es:List MapEntry)(n:Nat)(t:TypeId)(i:Nat):Instr.findNow (.array n t) v (e::es) i=none:=by
 unfold Instr.findNow;cases v<;>simp[Instr.sameNow]
theorem zgd(p:ByteArray×ByteArray)(w:World):∀(es:List MapEntry) (m:List ((ByteArray×ByteArray)×Bool)),es.map (fun e=>(e.key,e.val))=m.map (fun p=>(ekP p.1,evB p.2))->∀i,
 (Instr.findAsking 171 (ekP p) es i).run Tryz.prog w=.ok ((locate eqP p m i).map fun p=>(p.1,evB p.2)) w
 | [],[],_,_=>by simp[Instr.findAsking,locate]
 | [],_::_,h,_=>by simp at h
 |_::_,[],h,_=>by simp at h
 |e::es,q::m,h,i=>by
  simp only[List.map_cons,List.cons.injEq,Prod.mk.injEq]at h;obtain⟨⟨hk,hv⟩,ht⟩:=h;unfold Instr.findAsking locate;have h1:=equal_p p.1 p.2 q.1.1 q.1.2 w;have h2:=zgd p w es m ht (i+1);rw[hk,hv];simp only[ekP]at h1 h2⊢;simp only[Sem.run_bind,h1,Result.andThen_ok];change Sem.run _ (if(eqP p q.1)=true then _ else _) w=_;cases hq:eqP p q.1
  ·simpa using h2
  ·simp
theorem zmm(e:Bool)(p:ByteArray×ByteArray)(w:World):(Instr.checkKey e 10000 171 (ekP p)).run Tryz.prog w=.ok () w:=by
 obtain⟨a,c⟩:=p;cases e<;>kernel_rfl
theorem zmn(a c a' c':ByteArray)(h1:a=a')(h2:c=c'):Instr.sameBits 10000 (.agg #[.string a,.string c]) (.agg #[.string a',.string c'])=true:=by
 subst h1 h2;have h2:∀n,Instr.sameBits (n+1) (.agg #[.string a,.string c]) (.agg #[.string a,.string c])=true:=fun n=>by simp[Instr.sameBits,zf8,beq_toListBytes]
 exact h2 9999
theorem eqS_eq{a b:ByteArray}(h:eqS a b=true):a=b:=zak.1 h
theorem mapPB:MapTy Tryz.prog 106 171 4 ekP evB false eqP where
 ht:=Tryz.underlying106
 hz:=fun w=>by kernel_rfl
 hck:=zmm
 hfind:=fun k es m h w=>by
  match es,m,h with
  | [],[],_=>simp[Instr.findKey,run_underlying Tryz.underlying171,Instr.findNow,locate]
  | [],_::_,h=>simp at h
  |e::es,m,h=>
   simp only[Instr.findKey,Sem.run_bind,run_underlying Tryz.underlying171,Result.andThen_ok,findNow_p];exact zgd k w (e::es) m h 0
 hsame:=fun k k' h=>by
  obtain⟨a,c⟩:=k;obtain⟨a',c'⟩:=k';simp only[eqP,Bool.and_eq_true]at h;exact zmn a' c' a c (eqS_eq h.1).symm (eqS_eq h.2).symm
section
def sC(s:ByteArray):List Value:=[.string s]
theorem zbG(s:ByteArray):(sC s).length=1:=rfl
theorem zeD(s:ByteArray):∀u∈sC s,u.oneCell'=true:=by simp[sC,Value.oneCell']
theorem zfl(p:ByteArray×ByteArray):(zb9 p).length=2:=rfl
theorem pair_one(p:ByteArray×ByteArray):∀u∈zb9 p,u.oneCell'=true:=by simp[zb9,Value.oneCell']
def ptrC(T:Nat):List Value:=[.pointer (some ⟨T,0,none⟩)]
theorem zc4(T:Nat):(ptrC T).length=1:=rfl
theorem zl3(T:Nat):∀u∈ptrC T,u.oneCell'=true:=by simp[ptrC,Value.oneCell']
theorem zeE:ElTy Tryz.prog 32 9 1 16:=zcZ (z:=.string ⟨#[]⟩) MbE MbE rfl MbD
theorem elPair:ElTy Tryz.prog 31 171 2 32:=zcZ (z:=.agg #[.string ⟨#[]⟩,.string ⟨#[]⟩]) MbE MbE rfl MbD
theorem elTomb:ElTy Tryz.prog 109 112 1 8:=zcZ (z:=.pointer none) MbE MbE rfl MbD
def Ro{α:Type}(W:World)(e:TypeId)(f:α->List Value)(A:Option Addr)(xs:List α):Prop:=
 0<xs.length->∃b off cur fr,A=some ⟨b,off,none⟩/\W.heap[b]?=some (.cells cur e fr)/\∀j u,(xs.flatMap f)[j]?=some u->cur[off+j]?=some u
section
variable {α:Type} {W W':World} {e:TypeId} {size base:Nat} {f:α->List Value} {A:Option Addr} {xs:List α} {v:Value}
theorem Ro.sl(af:∀x,(f x).length=size)(h:Ro W e f A xs):Sl W size f A xs:=fun hl=>by
 obtain⟨b,off,cur,fr,hA,hb,hx⟩:=h hl;refine⟨b,off,hA,(Array.getElem?_eq_some_iff.1 hb).1,fun k x hk j u hu=>?_⟩;have:=hx (k*size+j) u (zeF f size af xs k x hk j u hu);simp only[World.cell?,hb,Nat.add_assoc];exact this
theorem Ro.same(h:Ro W e f A xs)(hk:∀b cur fr,W.heap[b]?=some (.cells cur e fr)->(∀off,A=some ⟨b,off,none⟩->True)->W'.heap[b]?=W.heap[b]?):Ro W' e f A xs:=fun hl=>by
 obtain⟨b,off,cur,fr,hA,hb,hx⟩:=h hl;exact⟨b,off,cur,fr,hA,(hk b cur fr hb fun _ _=>trivial).trans hb,hx⟩
theorem Ro.keep{n:Nat}(h:Ro W e f A xs)(hB:Below n W W')(hn:W.heap.size<=n:=by first|exact Nat.le_refl _|omega):Ro W' e f A xs:=
 h.same fun b cur fr hb _=>hB.block b (Nat.lt_of_lt_of_le (Array.getElem?_eq_some_iff.1 hb).1 hn)
theorem Ro.nil:Ro W e f A ([]:List α):=fun h=>absurd h MbF
theorem OwnS.ro(h:OwnS W base e size f v xs):∃A c,v=.slice A xs.length c/\xs.length<=c/\Ro W e f A xs:=by
 rcases h with⟨rfl,rfl⟩|⟨g,o,c,cur,rfl,_,hg,hc,_,_,hx⟩
 ·exact⟨none,0,rfl,Nat.le_refl _,Ro.nil⟩
 ·exact⟨_,c,rfl,hc,fun _=>⟨g,o,cur,_,rfl,hg,hx⟩⟩
theorem OwnS.kept{g:Nat}{cs:Array Value}{t:TypeId}{fr:Nat×Nat}(h:OwnS W base e size f v xs)(hg:W.grownBy W' (some g))(hx:W.heap[g]?=some (.cells cs t fr))(ag:t≠e):OwnS W' base e size f v xs:=
 h.grown hg (by
  rcases h with⟨rfl,_⟩|⟨g',o,c,cur,rfl,_,cx,_⟩
  ·exact .inl rfl
  ·refine .inr fun e'=>?_
   simp only[za1,Option.some.injEq]at e';subst e';rw[cx]at hx;simp only[Option.some.injEq,Obj.cells.injEq]at hx
   exact ag hx.2.1.symm)
theorem OwnS.keptM{g:Nat}{es:Array MapEntry}{c:Nat}(h:OwnS W base e size f v xs)(hg:W.grownBy W' (some g))(hx:W.heap[g]?=some (.map es c)):OwnS W' base e size f v xs:=
 h.grown hg (by
  rcases h with⟨rfl,_⟩|⟨g',o,c,cur,rfl,_,cx,_⟩
  ·exact .inl rfl
  ·refine .inr fun e'=>?_
   simp only[za1,Option.some.injEq]at e';subst e';rw[cx]at hx
   simp at hx)
theorem Ro.kept{g:Nat}{cs:Array Value}{t:TypeId}{fr:Nat×Nat}(h:Ro W e f A xs)(hg:W.grownBy W' (some g))(hx:W.heap[g]?=some (.cells cs t fr))(ag:t≠e):Ro W' e f A xs:=
 h.same fun b cur fr' hb _=>hg.block b (Array.getElem?_eq_some_iff.1 hb).1 (fun e'=>by
  simp only[Option.some.injEq]at e';subst e';rw[hb]at hx;simp only[Option.some.injEq,Obj.cells.injEq]at hx
  exact ag hx.2.1.symm)
theorem Ro.keptM{g:Nat}{es:Array MapEntry}{c:Nat}(h:Ro W e f A xs)(hg:W.grownBy W' (some g))(hx:W.heap[g]?=some (.map es c)):Ro W' e f A xs:=
 h.same fun b cur fr' hb _=>hg.block b (Array.getElem?_eq_some_iff.1 hb).1 (fun e'=>by
  simp only[Option.some.injEq]at e';subst e';rw[hb]at hx
  simp at hx)
end
theorem MapS.keptC{W W':World}{b g:Nat}{K V:Type}{ek:K->Value}{ev:V->Value}{m:List (K×V)}{cs:Array Value}{t:TypeId}{fr:Nat×Nat}(h:MapS W b ek ev m)(hg:W.grownBy W' (some g))(hx:W.heap[g]?=some (.cells cs t fr)):MapS W' b ek ev m:=
 h.grown hg (fun e=>by
  simp only[Option.some.injEq]at e;subst e;obtain⟨es,c,h1,_⟩:=h;rw[h1]at hx
  simp at hx)
def RowIs(W:World)(base:Nat)(m:List (ByteArray×Value))(n:ByteArray)(xs:List ByteArray):Prop:=
 (mget eqS n m=none/\xs=[])\/∃v,mget eqS n m=some v/\OwnS W base 9 1 sC v xs
def WillIs(W:World)(m:List (ByteArray×Value))(n:ByteArray)(xs:Parts):Prop:=
 (mget eqS n m=none/\xs=[])\/∃A c,mget eqS n m=some (.slice A xs.length c)/\Ro W 59 zaa A xs
def zaJ(m:List (ByteArray×Value)):List Nat:=m.filterMap fun e=>za1 e.2
structure PplAt (base:Nat) (W:World) (B:List Nat) (d c p wl r:Nat) (mv:Value) (s:St):Prop where
 nd:[d,c,p,wl,r].Nodup
 ge:base<=d/\base<=c/\base<=p/\base<=wl/\base<=r
 dead:MapS W d ekS evB (s.dead.map fun n=>(n,true))
 rows:∃mc mp,MapS W c ekS (fun v:Value=>v) mc/\MapS W p ekS (fun v:Value=>v) mp/\(∀n,RowIs W base mc n (zaf s n))/\(∀n,RowIs W base mp n (zb8 s n))/\B=zaJ (mc++mp)/\(B.Nodup/\(mc.map (·.1)).Nodup/\(mp.map (·.1)).Nodup)
 marr:OwnS W base 171 2 zb9 mv s.marriages
 wills:∃m,MapS W wl ekS (fun v:Value=>v) m/\∀n,WillIs W m n (zbp s n)
 ren:MapS W r ekP evB (s.renounce.map fun x=>(x,true))
def TombAt(W:World)(base:Nat)(B:List Nat)(T:Nat)(g:Grave):Prop:=
 ∃H hc D dc fr,zbe W T g.place g.cls fr g.fin (.slice H g.holders.length hc) (.slice D g.died.length dc)/\base<=T/\g.holders.length<=hc/\g.died.length<=dc/\Ro W 59 zaa H g.holders/\Ro W 9 sC D g.died/\(0<g.died.length->∀a,D=some a->a.block∉B)
structure TombsAt (base:Nat) (W:World) (B:List Nat) (tv:Value) (ps:List Nat) (gs:List Grave):Prop where
 own:OwnS W base 112 1 ptrC tv ps
 len:ps.length=gs.length
 nd:ps.Nodup
 all:∀(i T:Nat) (g:Grave),ps[i]?=some T->gs[i]?=some g->TombAt W base B T g
def WldC(W:World)(b d c p wl r:Nat)(mv tv:Value)(last count:Int):Prop:=W.heap[b]?=some (.cells #[.map (some d),.map (some c),.map (some p),mv,.map (some wl),.map (some r),tv,.int .i64 last,.int .i64 count] 111)
def WldAt(base:Nat)(W:World)(b:Nat)(s:St)(last count:Int):Prop:=
 ∃B d c p wl r mv tv ps,base<=b/\WldC W b d c p wl r mv tv last count/\PplAt base W B d c p wl r mv s/\TombsAt base W B tv ps s.graves
def PeoAt(base:Nat)(W:World)(b:Nat)(s:St):Prop:= ∃B d c p wl r mv tv la co,WldC W b d c p wl r mv tv la co/\PplAt base W B d c p wl r mv s
section
variable {base n:Nat} {W W':World} {B:List Nat} {d c p wl r:Nat} {mv tv:Value} {s:St} {m:List (ByteArray×Value)} {nm:ByteArray}
theorem RowIs.keep{xs:List ByteArray}(h:RowIs W base m nm xs)(hB:Below n W W')(hn:W.heap.size<=n:=by first|exact Nat.le_refl _|omega):RowIs W' base m nm xs:=by
 rcases h with h|⟨v,h1,h2⟩
 ·exact .inl h
 ·exact .inr ⟨v,h1,h2.keep hB hn⟩
theorem WillIs.keep{xs:Parts}(h:WillIs W m nm xs)(hB:Below n W W')(hn:W.heap.size<=n:=by first|exact Nat.le_refl _|omega):WillIs W' m nm xs:=by
 rcases h with h|⟨A,c,h1,h2⟩
 ·exact .inl h
 ·exact .inr ⟨A,c,h1,h2.keep hB hn⟩
theorem PplAt.keep(h:PplAt base W B d c p wl r mv s)(hB:Below n W W')(hn:W.heap.size<=n:=by first|exact Nat.le_refl _|omega):PplAt base W' B d c p wl r mv s:=by
 obtain⟨mc,mp,k1,k2,k3,k4,k5,k6⟩:=h.rows;obtain⟨m,k7,k8⟩:=h.wills;exact⟨h.nd,h.ge,h.dead.below hB hn,⟨mc,mp,k1.below hB hn,k2.below hB hn,fun x=>(k3 x).keep hB hn,fun x=>(k4 x).keep hB hn,k5,k6⟩,h.marr.keep hB hn,⟨m,k7.below hB hn,fun x=>(k8 x).keep hB hn⟩,h.ren.below hB hn⟩
theorem TombAt.keep{T:Nat}{g:Grave}(h:TombAt W base B T g)(hB:Below n W W')(hn:W.heap.size<=n:=by first|exact Nat.le_refl _|omega):TombAt W' base B T g:=by
 obtain⟨H,hc,D,dc,fr,h1,h2,h3,h4,h5,h6,h7⟩:=h;exact⟨H,hc,D,dc,fr,(hB.block T (Nat.lt_of_lt_of_le (zad h1) hn)).trans h1,h2,h3,h4,h5.keep hB hn,h6.keep hB hn,h7⟩
theorem TombsAt.keep{ps:List Nat}{gs:List Grave}(h:TombsAt base W B tv ps gs)(hB:Below n W W')(hn:W.heap.size<=n:=by first|exact Nat.le_refl _|omega):TombsAt base W' B tv ps gs:=
 ⟨h.own.keep hB hn,h.len,h.nd,fun i T g h1 h2=>(h.all i T g h1 h2).keep hB hn⟩
theorem WldC.keep{b:Nat}{la co:Int}(h:WldC W b d c p wl r mv tv la co)(hB:Below n W W')(hn:W.heap.size<=n:=by first|exact Nat.le_refl _|omega):WldC W' b d c p wl r mv tv la co:=
 (hB.block b (Nat.lt_of_lt_of_le (zad h) hn)).trans h
theorem WldAt.keep{b:Nat}{la co:Int}(h:WldAt base W b s la co)(hB:Below n W W')(hn:W.heap.size<=n:=by first|exact Nat.le_refl _|omega):WldAt base W' b s la co:=by
 obtain⟨B,d,c,p,wl,r,mv,tv,ps,h1,h2,h3,h4⟩:=h;exact⟨B,d,c,p,wl,r,mv,tv,ps,h1,h2.keep hB hn,h3.keep hB hn,h4.keep hB hn⟩
theorem PeoAt.keep{b:Nat}(h:PeoAt base W b s)(hB:Below n W W')(hn:W.heap.size<=n:=by first|exact Nat.le_refl _|omega):PeoAt base W' b s:=by
 obtain⟨B,d,c,p,wl,r,mv,tv,la,co,h1,h2⟩:=h;exact⟨B,d,c,p,wl,r,mv,tv,la,co,h1.keep hB hn,h2.keep hB hn⟩
theorem WldAt.peo{b:Nat}{la co:Int}(h:WldAt base W b s la co):PeoAt base W b s:=by
 obtain⟨B,d,c,p,wl,r,mv,tv,ps,h1,h2,h3,h4⟩:=h;exact⟨B,d,c,p,wl,r,mv,tv,la,co,h2,h3⟩
theorem WldAt.lt{b:Nat}{la co:Int}(h:WldAt base W b s la co):b<W.heap.size/\base<=b:=by
 obtain⟨B,d,c,p,wl,r,mv,tv,ps,h1,h2,h3,h4⟩:=h;exact⟨zad h2,h1⟩
end
theorem PplAt.kept{base:Nat}{W W':World}{B:List Nat}{d c p wl r g:Nat}{mv:Value}{s:St}{cs:Array Value}{t:TypeId}{fr:Nat×Nat}(h:PplAt base W B d c p wl r mv s)(hg:W.grownBy W' (some g))(hx:W.heap[g]?=some (.cells cs t fr))
 (h1:t≠9)(h2:t≠171)(h3:t≠59):PplAt base W' B d c p wl r mv s:=by
 obtain⟨mc,mp,k1,k2,k3,k4,k5,k6⟩:=h.rows;obtain⟨m,k7,k8⟩:=h.wills;have rp:∀ {m:List (ByteArray×Value)} {nm:ByteArray} {xs:List ByteArray},RowIs W base m nm xs->RowIs W' base m nm xs:=fun h=>by
  rcases h with h|⟨v,kj,AV⟩
  ·exact .inl h
  ·exact .inr ⟨v,kj,AV.kept hg hx h1⟩
 refine⟨h.nd,h.ge,h.dead.keptC hg hx,⟨mc,mp,k1.keptC hg hx,k2.keptC hg hx,fun x=>rp (k3 x),fun x=>rp (k4 x),k5,k6⟩,h.marr.kept hg hx h2,⟨m,k7.keptC hg hx,fun x=>?_⟩,h.ren.keptC hg hx⟩;rcases k8 x with h'|⟨A,c,e1,e2⟩
 ·exact .inl h'
 ·exact .inr ⟨A,c,e1,e2.kept hg hx h3⟩
end
open Go.Shelf
attribute [local go_sem] zah zac
theorem zgx(n:ByteArray):∀l:List ByteArray,(mget eqS n (l.map fun x=>(x,true))).getD false=l.any (zag n)
 | []=>rfl
 |x::l=>by
  rw[List.map_cons,mget,List.any_cons];show(if eqS n x=true then some true else _).getD false=_;have e:eqS n x=zag n x:=rfl;rw[e];cases h:zag n x
  ·simpa using zgx n l
  ·rfl
theorem zkA(k:ByteArray×ByteArray):∀l:List (ByteArray×ByteArray),(mget eqP k (l.map fun x=>(x,true))).getD false=l.any fun r=>zag r.1 k.1&&zag r.2 k.2
 | []=>rfl
 |x::l=>by
  rw[List.map_cons,mget,List.any_cons];have e1:∀a b:ByteArray,zag a b=zag b a:=fun a b=>by
   rw[Bool.eq_iff_iff,zak,zak];exact⟨Eq.symm,Eq.symm⟩
  have e:eqP k x=(zag x.1 k.1&&zag x.2 k.2):=by rw[e1 x.1,e1 x.2];rfl
  show(if eqP k x=true then some true else _).getD false=_;rw[e];cases h:(zag x.1 k.1&&zag x.2 k.2)
  ·simpa using zkA k l
  ·rfl
theorem zcK{base:Nat}{W:World}{B:List Nat}{d c p wl r:Nat}{mv:Value}{s:St}(h:PplAt base W B d c p wl r mv s)(n:ByteArray):
 (Instr.lookup 103 (.map (some d)) (.string n) false).run Tryz.prog W=.ok (.bool (zaK s n)) W:=by
 have:=zbh zml h.dead.at n;rw[zgx]at this;exact this
theorem zl4{base:Nat}{W:World}{B:List Nat}{d c p wl r:Nat}{mv:Value}{s:St}(h:PplAt base W B d c p wl r mv s)(a b:ByteArray):
 (Instr.lookup 106 (.map (some r)) (.agg #[.string a,.string b]) false).run Tryz.prog W=.ok (.bool (s.renounce.any fun x=>zag x.1 a&&zag x.2 b)) W:=by
 have:=zbh mapPB h.ren.at (a,b);rw[zkA]at this;exact this
theorem PplAt.drewN{base:Nat}{W:World}{B:List Nat}{d c p wl r:Nat}{mv:Value}{s:St}(h:PplAt base W B d c p wl r mv s)(q:Nat):PplAt base (W.drewN q) B d c p wl r mv s:=h.keep (n:=W.heap.size) ⟨rfl,rfl,rfl,Nat.le_refl _,fun _ _=>rfl⟩
theorem zjt(base b X:Nat)(s:St)(q:RPart)(w:World)(hW:PeoAt base w b s)(hX:X<w.heap.size)(hc:w.cell? ⟨X,0,none⟩=some (.pointer (some ⟨b,0,none⟩))):
 Calls Tryz.prog 199 #[.agg #[.string q.name,.int .i64 q.num,.int .i64 q.den],.pointer (some ⟨X,0,none⟩)] w (Ret w (.bool (zaK s q.name))):=by
 obtain⟨B,d,c,p,wl,r,mv,tv,la,co,h1,h2⟩:=hW;have hb:=zad h1;unfold WldC at h1;have c0:w.cell? ⟨b,0,none⟩=some (.map (some d)):=McN;have cn:∀o q',(Instr.lookup 103 (.map (some d)) (.string q.name) false).run Tryz.prog ((w.alloc o).drewN q')=.ok (.bool (zaK s q.name)) ((w.alloc o).drewN q'):=fun o q'=>zcK ((h2.keep (n:=w.heap.size) (zau (Below.refl _ _) o)).drewN q') _
 have hXn:X≠w.heap.size:=MbC;have eu:b≠w.heap.size:=MbC;clear h1 h2;go_enter Tryz.func199,Tryz.ntmps199
 go_wp2_with fail
 go_quiet (fail)
 exact Mac
theorem ziA(base b X:Nat)(s:St)(xs:List RPart)(w:World)(hW:PeoAt base w b s)(hX:X<w.heap.size)(hc:w.cell? ⟨X,0,none⟩=some (.pointer (some ⟨b,0,none⟩))):
 zea 199 #[.pointer (some ⟨X,0,none⟩)] (fun x=> .agg (RPart.cells x).toArray) (fun q=>zaK s q.name) xs w:=fun x _ W hB=>by
 refine(zjt base b X s x W (hW.keep hB) (Nat.lt_of_lt_of_le hX hB.size) ((hB.cell (p:=⟨X,0,none⟩) hX).trans hc)).mono ?_;rintro e wq ⟨rfl,z,rfl⟩;exact⟨rfl,hB.trans ((za5 W z).mono hB.size)⟩
theorem zhb(base b:Nat)(s:St)(xs:List RPart)(A:Option Addr)(n c:Nat)(w:World)(hn:n=xs.length)(hl:xs.length<=100000)(hW:PeoAt base w b s)(hS:Sl w 3 RPart.cells A xs):
 Calls Tryz.prog 143 #[.pointer (some ⟨b,0,none⟩),.slice A n c] w (Ret w (.bool (zfb s xs))):=by
 have eg:∀args w,(callFunc 199 args).run Tryz.prog w=.ok (.enter 199 args) w:=enters_of Tryz.func199 MbE rfl;obtain⟨HS,HW,HN⟩:=yH3 hS hW hn;clear hS hW hn;go_enter Tryz.func143,Tryz.ntmps143
 go_wp2_with (go_at_call 93
              refine(zcv _ _ eg (fun q=>zaK s q.name) _ n _ xs _ HN.o hl (HS.o.keep (n:=w.heap.size) Bw) (ziA base b _ s xs _ (HW.o.keep (n:=w.heap.size) Bw) MbF MbQ)).mono ?_
              rintro e wq ⟨rfl,z,rfl⟩)
 go_ret
 exact Ret.of rfl Bw
theorem zju(xs:List ByteArray)(x:ByteArray)(A:Option Addr)(n c:Nat)(w:World)(hn:n=xs.length)(hl:xs.length<=100000)(hS:Sl w 1 sC A xs):
 Calls Tryz.prog 66 #[.slice A n c,.string x] w (Ret0 w (.bool (xs.any (zag x)))):=by
 subst hn;by_cases h0:xs.length=0
 ·have hx:xs=[]:=List.eq_nil_of_length_eq_zero h0;subst hx;have aH:=AnyE.slices_Contains_empty coStr A c (.string x) w;change Calls Tryz.prog 66 _ _ _ at aH;exact MaI
 ·obtain⟨b,off,rfl,hb,hc⟩:=hS MbC;haveI:Inhabited ByteArray:=⟨⟨#[]⟩⟩
  have aH:=AnyE.slices_Contains coStr Value.string (fun a b:ByteArray=>a.toList==b.toList) (EqlAt.string _ _) b off xs.length c xs x w (Nat.le_refl _) MbC (fun j hj=>by
   rw[getElem!_pos xs j hj];have:=hc j _ (List.getElem?_eq_getElem hj) 0 _ rfl
   simpa using this)
  rw[List.take_of_length_le (Nat.le_refl _)]at aH;change Calls Tryz.prog 66 _ _ _ at aH;exact MaI
theorem eqlPair:EqlAt Tryz.prog 171 (fun x:ByteArray×ByteArray=> .agg (zb9 x).toArray) eqP:=by
 refine⟨fun x y w=>?_,GuardAt.agg _ MbE⟩;show(binOp .eql 171 (.agg #[.string x.1,.string x.2]) (.agg #[.string y.1,.string y.2])).run Tryz.prog w=_;rw[run_eql_struct,zjs 9998 x.1 x.2 y.1 y.2 w];rfl
theorem ixPairNil(A:Option Addr)(c:Nat)(a b:ByteArray)(w:World):Calls Tryz.prog 174 #[.slice A 0 c,.agg #[.string a,.string b]] w (Ret w (.int .i64 (-1))):=by
 go_enter Tryz.func174,Tryz.ntmps174
 go_wp2_with fail
 go_loopw [5,8] (fun _ i wr=>i=.int .i64 0/\∃z,wr=w.ext z) (fun _ _ _=>0)
 case atStart=>exact⟨rfl,zaM Bw⟩
 case round=>
  obtain⟨rfl,z,rfl⟩:=hrel;exact Mac
theorem coPairNil(A:Option Addr)(c:Nat)(a b:ByteArray)(w:World):Calls Tryz.prog 115 #[.slice A 0 c,.agg #[.string a,.string b]] w (Ret w (.bool false)):=by
 go_enter Tryz.func115,Tryz.ntmps115
 go_wp2_with (go_at_call 174;refine(ixPairNil _ _ _ _ _).mono ?_;rintro e wq ⟨rfl,z,rfl⟩)
 go_ret
 exact Ret.of rfl Bw
theorem zmo(xs:List (ByteArray×ByteArray))(a b:ByteArray)(A:Option Addr)(n c:Nat)(w:World)(hn:n=xs.length)(hl:xs.length<=100000)(hS:Sl w 2 zb9 A xs):
 Calls Tryz.prog 115 #[.slice A n c,.agg #[.string a,.string b]] w (Ret w (.bool (xs.any fun y=>eqP (a,b) y))):=by
 subst hn;by_cases h0:xs.length=0
 ·have hx:xs=[]:=List.eq_nil_of_length_eq_zero h0;subst hx;refine(coPairNil _ _ _ _ _).mono ?_;rintro e wq ⟨rfl,z,rfl⟩;exact Ret.of rfl Bw
 ·obtain⟨b',off,rfl,hb,hc⟩:=hS MbC;haveI:Inhabited (ByteArray×ByteArray):=⟨(⟨#[]⟩,⟨#[]⟩)⟩
  have aH:=AnyQ.slices_Contains coPair 2 Tryz.isAgg171 Tryz.sizeOf171 zb9 (fun _=>rfl) eqP eqlPair b' off xs.length c xs (a,b) w (Nat.le_refl _) MbC (fun j hj i v hi=>by
   rw[getElem!_pos xs j hj]at hi
   exact hc j _ (List.getElem?_eq_getElem hj) i v hi)
  rw[List.take_of_length_le (Nat.le_refl _)]at aH;change Calls Tryz.prog 115 _ _ _ at aH;exact MaG
def zgy(s:St)(a b:ByteArray):Bool:=s.marriages.any (fun y=>eqP (a,b) y)||s.marriages.any fun y=>eqP (b,a) y
theorem zhc(base b:Nat)(s:St)(x y:ByteArray)(w:World)(hW:PeoAt base w b s)(hl:s.marriages.length<=100000):
 Calls Tryz.prog 64 #[.pointer (some ⟨b,0,none⟩),.string x,.string y] w (Ret w (.bool (zgy s x y))):=by
 obtain⟨B,d,c,p,wl,r,mv,tv,la,co,h1,h2⟩:=hW;obtain⟨A,cc,rfl,hS,hc⟩:=h2.marr.sl zfl;have hb:=zad h1;unfold WldC at h1;have c3:w.cell? ⟨b,3,none⟩=some (.slice A s.marriages.length cc):=McN;have HS:=zHi hS;clear h1 h2 hS;go_enter Tryz.func64,Tryz.ntmps64
 go_wp2_with (go_at_call 115;refine(zmo s.marriages _ _ A _ cc _ rfl hl (HS.o.keep (n:=w.heap.size) Bw)).mono ?_;intro e wq hq;rcases Ret.bools hq with⟨zq,rfl,⟨hb,rfl⟩|⟨hb,rfl⟩⟩<;>clear hq)
 all_goals go_ret
 all_goals exact Ret.of (zaW (by simp[zgy, *])) Bw
