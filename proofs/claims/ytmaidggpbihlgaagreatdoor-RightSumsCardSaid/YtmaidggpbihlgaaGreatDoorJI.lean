/- The library's Insert of one part, at parts. -/
import Derived.Test.YtmaidggpbihlgaaGreatDoorJ7
import Derived.Test.YtmaidggpbihlgaaGreatDoorJB
import Derived.Test.YtmaidggpbihlgaaGreatDoorO0
import Derived.Shelf.Spec.SlicesInsertGrow
set_option linter.unusedSimpArgs false
set_option linter.unusedVariables false
namespace Go.Proofs.YtmaidggpbihlgaaGreatDoor
open Go.RowKit Go.Shelf
attribute [local go_sem] World.cell?_alloc_mark ext_size ext_cell ext_frozen lt_add_r lt_add_r2 lt_add_r3 lt_add_r4 lt_add_r5 lt_add_r6 lt_add_r7 lt_add_r8
attribute [local go_sem] ext_setCell alloc_setCell_lt
theorem scmp5_any (a b:ByteArray) (w:World):Calls Tryz.prog 76 #[.string a, .string b] w (Ret0 w (.int .i64 (cmpN a b))):=by
 have hcon:=Any.strings_Compare cmpStr a b w
 change Calls Tryz.prog 76 _ _ _ at hcon
 refine hcon.mono ?_
 rintro e wq ⟨rfl,rfl⟩
 exact⟨rfl,rfl⟩
set_option maxRecDepth 100000 in
set_option maxHeartbeats 2000000 in
theorem findCmp_any (p:ByteArray×Rat) (s:ByteArray) (w:World):Calls Tryz.prog 187 #[.agg #[.string p.1, .int .i64 p.2.num, .int .i64 p.2.den], .string s] w (Ret w (.int .i64 (cmpN p.1 s))):=by
 have hc:=fun W=>scmp5_any p.1 s W
 generalize cmpN p.1 s=r at hc⊢
 go_enter Tryz.func187,Tryz.ntmps187
 go_wp2_with (go_at_call 76;refine(hc _).mono ?_;rintro e wq ⟨rfl,rfl⟩)
 go_ret
 exact Ret.of rfl Bw
def FindPost (w:World) (xs:Parts) (nm:ByteArray) (e:Ending) (w':World):Prop:=
 ∃P Q,xs=P++Q/\(∀p∈P,lessN p.1 nm=true)/\(∀p∈Q,lessN p.1 nm=false)/\Ret w (.tuple #[.int .i64 P.length, .bool (headIs Q nm)]) e w'
set_option maxRecDepth 100000 in
set_option maxHeartbeats 2000000 in
theorem bsf_any (xs:Parts) (A:Option Addr) (n c:Nat) (nm:ByteArray) (w:World) (hn:n=xs.length) (hl:xs.length<=100000) (hA:AscP xs) (hS:Sl w 3 partCells A xs):
 Calls Tryz.prog 186 #[.slice A n c, .string nm, .func (.func 187) #[] #[]] w (FindPost w xs nm):=by
 subst hn
 have eg: ∀args w,(callFunc 187 args).run Tryz.prog w= .ok (.enter 187 args) w:=enters_of Tryz.func187 (by kernel_rfl) rfl
 have HA:=Lib.hid hA
 have HC:=Lib.hid (fun(p:ByteArray×Rat) W=>findCmp_any p nm W)
 go_enter Tryz.func186,Tryz.ntmps186
 go_wp2_with fail
 go_loopw [9,10] (fun i j wr=> ∃lo hi:Nat,i= .int .i64 lo/\j= .int .i64 hi/\lo<=hi/\hi<=xs.length/\Hid (∀t (ht:t<xs.length),t<lo->lessN xs[t].1 nm=true)/\Hid (∀t (ht:t<xs.length),hi<=t->lessN xs[t].1 nm=false)/\ ∃z,wr=w.ext z) (fun i j _=>(intOf j).toNat-(intOf i).toNat)
 case atStart=>exact⟨0,xs.length,rfl,rfl,Nat.zero_le _,Nat.le_refl _,fun t ht h=>absurd h (Nat.not_lt_zero _),fun t ht h=>by omega,ext_below (Below.refl _ _)⟩
 case round=>
  obtain⟨lo,hi,rfl,rfl,h1,h2,H3,H4,z,rfl⟩:=hrel
  by_cases hlt:lo<hi
  ·have hm:(lo+hi)/2<xs.length:=by omega
   obtain⟨b,off,rfl,hb,hc⟩:=(hS.keep (below_ext w z)).at hm
   have HX:=Lib.hid (fun t (ht:t<xs.length) (h:t<(lo+hi)/2)=>List.pairwise_iff_getElem.1 hA t _ ht hm h)
   have HY:=Lib.hid (fun t (ht:t<xs.length) (h:(lo+hi)/2<t)=>List.pairwise_iff_getElem.1 hA _ t hm ht h)
   generalize hp:xs[(lo+hi)/2]=p at*
   obtain⟨pn,pq⟩:=p
   have hr:decide (cmpN pn nm<0)=lessN pn nm:=cmpN_neg _ _
   have hcall:=HC.out (pn,pq)
   simp only at hcall
   generalize cmpN pn nm=r at hr hcall
   have c0:(w.ext z).cell? ⟨b,off+(lo+hi)/2*3,none⟩=some (.string pn):=hc 0 _ rfl
   have c1:(w.ext z).cell? ⟨b,off+(lo+hi)/2*3+1,none⟩=some (.int .i64 pq.num):=hc 1 _ rfl
   have c2:(w.ext z).cell? ⟨b,off+(lo+hi)/2*3+2,none⟩=some (.int .i64 pq.den):=hc 2 _ rfl
   have HP:=Lib.hid hp
   have HR:=Lib.hid hr
   clear hp hr hc hS hA
   by_cases hr0:r<0
   ·go_wp2_with (go_at_fn 187;refine(hcall _).mono ?_;rintro e wq ⟨rfl,zq,rfl⟩)
    go_round
    case rel=>
     have hle:lessN pn nm=true:=by rw[<-HR.out];simpa using hr0
     refine⟨(lo+hi)/2+1,hi,by go_num,rfl,by omega,h2,(show Hid _ from fun t ht h=> ?_),H4,ext_below Bw⟩
     by_cases e:t=(lo+hi)/2
     ·subst e;rw[HP.out];exact hle
     ·have:=HX.out t ht (by omega)
      exact lessN_trans this hle
    case measure=>simp[intOf];omega
   ·go_wp2_with (go_at_fn 187;refine(hcall _).mono ?_;rintro e wq ⟨rfl,zq,rfl⟩)
    go_round
    case rel=>
     have hle:lessN pn nm=false:=by rw[<-HR.out];simpa using hr0
     refine⟨lo,(lo+hi)/2,rfl,by go_num,by omega,by omega,H3,(show Hid _ from fun t ht h=> ?_),ext_below Bw⟩
     by_cases e:t=(lo+hi)/2
     ·subst e;rw[HP.out];exact hle
     ·have:=HY.out t ht (by omega)
      exact less_up this hle
    case measure=>simp[intOf];omega
  ·have he:hi=lo:=by omega
   subst he
   have HP:Hid (∀p∈xs.take hi,lessN p.1 nm=true):=fun p hp=>by
    obtain⟨t,ht,rfl⟩:=List.getElem_of_mem hp
    rw[List.getElem_take]
    have:t<hi:=by rw[List.length_take]at ht;omega
    exact H3.out t (by omega) this
   have HQ:Hid (∀p∈xs.drop hi,lessN p.1 nm=false):=fun p hp=>by
    obtain⟨t,ht,rfl⟩:=List.getElem_of_mem hp
    rw[List.getElem_drop]
    exact H4.out (hi+t) (by rw[List.length_drop]at ht;omega) (by omega)
   have HL:Hid ((xs.take hi).length=hi):=by show _=_;rw[List.length_take];omega
   by_cases hlt2:hi<xs.length
   ·obtain⟨b,off,rfl,hb,hc⟩:=(hS.keep (below_ext w z)).at hlt2
    have hd:xs.drop hi=xs[hi]::xs.drop (hi+1):=List.drop_eq_getElem_cons hlt2
    generalize hp:xs[hi]=p at*
    obtain⟨pn,pq⟩:=p
    have hr:(cmpN pn nm==0)=sameB pn nm:=cmpN_zero _ _
    have hcall:=HC.out (pn,pq)
    simp only at hcall
    generalize cmpN pn nm=r at hr hcall
    have c0:(w.ext z).cell? ⟨b,off+hi*3,none⟩=some (.string pn):=hc 0 _ rfl
    have c1:(w.ext z).cell? ⟨b,off+hi*3+1,none⟩=some (.int .i64 pq.num):=hc 1 _ rfl
    have c2:(w.ext z).cell? ⟨b,off+hi*3+2,none⟩=some (.int .i64 pq.den):=hc 2 _ rfl
    have HR:=Lib.hid hr
    have HD:=Lib.hid hd
    clear hp hr hc hS hA hd
    go_wp2_with (go_at_fn 187;refine(hcall _).mono ?_;rintro e wq ⟨rfl,zq,rfl⟩)
    all_goals go_ret2
    all_goals exact⟨xs.take hi,xs.drop hi,(List.take_append_drop _ _).symm,HP.out,HQ.out,Ret.of (by rw[HL.out,HD.out];simp[headIs,<-HR.out, *]) Bw⟩
   ·go_wp2_with fail
    all_goals go_ret2
    all_goals exact⟨xs.take hi,xs.drop hi,(List.take_append_drop _ _).symm,HP.out,HQ.out,Ret.of (by rw[HL.out,List.drop_eq_nil_of_le (by omega)];simp[headIs]) Bw⟩
def TombC (W:World) (T:Nat) (pl:ByteArray) (cl fr en:Int) (v dv:Value):Prop:=W.heap[T]?=some (.cells #[.string pl, .int .i64 cl, .int .i64 fr, .int .i64 en,v,dv] 86)
set_option maxRecDepth 100000 in
set_option maxHeartbeats 2000000 in
theorem find_any (xs:Parts) (A:Option Addr) (c T:Nat) (nm:ByteArray) (w:World) (hc4:w.cell? ⟨T,4,none⟩=some (.slice A xs.length c)) (hl:xs.length<=100000) (hA:AscP xs) (hS:Sl w 3 partCells A xs):
 Calls Tryz.prog 169 #[.pointer (some ⟨T,0,none⟩), .string nm] w (FindPost w xs nm):=by
 have HB:=bsf_any xs A _ c nm w rfl hl hA hS
 go_enter Tryz.func169,Tryz.ntmps169
 go_wp2_with (go_at_call 186;refine HB.mono ?_;rintro e wq ⟨P,Q,hxs,hP,hQ,rfl,z,rfl⟩)
 go_ret2
 exact⟨P,Q,hxs,hP,hQ,Ret.of rfl Bw⟩
theorem shareQ {P Q:Parts} {nm:ByteArray} (hP: ∀p∈P,lessN p.1 nm=true) (hQ: ∀p∈Q,lessN p.1 nm=false) (hA:AscP (P++Q)):shareP (P++Q) nm=if headIs Q nm then(Q.headD (⟨#[]⟩,0)).2 else 0:=by
 rw[share_split hP]
 cases hh:headIs Q nm
 ·exact share_no hQ (asc_tail hA) hh
 ·cases Q with
  |nil=>cases hh
  |cons q Q=>
   have hs:sameB q.1 nm=true:=hh
   rw[share_cons,hs]
   rfl
set_option maxRecDepth 100000 in
set_option maxHeartbeats 2000000 in
theorem share_any (xs:Parts) (A:Option Addr) (c T:Nat) (nm:ByteArray) (w:World) (hc4:w.cell? ⟨T,4,none⟩=some (.slice A xs.length c)) (hT:T<w.heap.size) (hl:xs.length<=100000) (hA:AscP xs) (hS:Sl w 3 partCells A xs):
 Calls Tryz.prog 132 #[.pointer (some ⟨T,0,none⟩), .string nm] w (Ret w (fracV (shareP xs nm))):=by
 have HF:=fun W h1 h2=>find_any xs A c T nm W h1 hl hA h2
 have HS:=Lib.hid hS
 have HA:=Lib.hid hA
 clear hS hA
 have hne:T≠w.heap.size:=by omega
 go_enter Tryz.func132,Tryz.ntmps132
 go_upto_region 2 with(go_at_call 169;refine(HF _ (by simp[go_sem,hT,hc4]) (HS.out.keep (n:=w.heap.size) Bw)).mono ?_;rintro e wq ⟨P,Q,hxs,hP,hQ,rfl,z,rfl⟩;subst hxs)
 have hv:=shareQ hP hQ HA.out
 have HV:=Lib.hid hv
 clear hv hP hQ
 cases Q with
 |nil=>
  go_wp2_with fail
  refine bodyPost_ret (v:=fracV (shareP (P++[]) nm)) ?_ rfl ?_
  ·rw[HV.out]
   refine results_frac rfl _ _ w.heap.size _ _ rfl ?_ ?_<;>simp[go_sem,headIs]
  ·exact Ret.of rfl Bw
 |cons q Q=>
  obtain⟨qn,qr⟩:=q
  have hlt:P.length<(P++(qn,qr)::Q).length:=by simp
  obtain⟨b,off,rfl,hb,hc⟩:=HS.out.at hlt
  rw[List.getElem_append_right (Nat.le_refl _)]at hc
  simp only[Nat.sub_self,List.getElem_cons_zero]at hc
  have k1:w.cell? ⟨b,off+P.length*3+1,none⟩=some (.int .i64 qr.num):=hc 1 _ rfl
  have k2:w.cell? ⟨b,off+P.length*3+1+1,none⟩=some (.int .i64 qr.den):=hc 2 _ rfl
  have hlt2:(P.length:Int)<((P++(qn,qr)::Q).length:Int):=by omega
  have hlt0:(0:Int)<=(P.length:Int):=by omega
  have HL:=Lib.hid hlt
  clear hc hlt
  generalize hh:headIs ((qn,qr)::Q) nm=q at*
  have HV2:=Lib.hid (HV.out.trans (by rfl:_=if q then qr else 0))
  cases q
  ·go_wp2_with fail
   refine bodyPost_ret (v:=fracV (shareP (P++(qn,qr)::Q) nm)) ?_ rfl ?_
   ·rw[HV2.out]
    refine results_frac rfl _ _ w.heap.size _ _ rfl ?_ ?_<;>simp[go_sem]
   ·exact Ret.of rfl Bw
  ·go_wp2_with fail
   refine bodyPost_ret (v:=fracV (shareP (P++(qn,qr)::Q) nm)) ?_ rfl ?_
   ·rw[HV2.out]
    refine results_frac rfl _ _ w.heap.size _ _ rfl ?_ ?_<;>simp[go_sem]
   ·exact Ret.of rfl Bw
set_option maxRecDepth 100000 in
set_option maxHeartbeats 2000000 in
theorem inForce_any (g:Grave) (A:Option Addr) (c T:Nat) (day:Int) (w:World) (h3:w.cell? ⟨T,3,none⟩=some (.int .i64 g.fin)) (h4:w.cell? ⟨T,4,none⟩=some (.slice A g.holders.length c)):
 Calls Tryz.prog 66 #[.pointer (some ⟨T,0,none⟩), .int .i64 day] w (Ret w (.bool (inForceP g day))):=by
 obtain⟨pl,cl,fin,hs,di⟩:=g
 simp only at*
 go_enter Tryz.func66,Tryz.ntmps66
 go_wp2_with fail
 all_goals go_ret
 all_goals(refine Ret.of (bool_eq ?_) Bw;cases hs<;>simp_all[inForceP]<;>omega)
end Go.Proofs.YtmaidggpbihlgaaGreatDoor
namespace Go.Proofs.YtmaidggpbihlgaaGreatDoor
open Go.RowKit Go.Shelf
attribute [local go_sem] World.cell?_alloc_mark ext_size ext_cell ext_frozen lt_add_r lt_add_r2 lt_add_r3 lt_add_r4 lt_add_r5 lt_add_r6 lt_add_r7 lt_add_r8
attribute [local go_sem] ext_setCell alloc_setCell_lt
theorem run_copyK {P:Program} (w:World) (dT sT ty elem:TypeId) (size b o dLen dCap:Nat) (a:Addr) (sLen sCap n:Nat) (cs:List Value)
 (hu:P.underlying dT=some (.slice elem)) (hs:(P.info? elem).map (·.size)=some size) (hn:Nat.min sLen dLen=n) (hl:cs.length=n*size)
 (hsrc: ∀j v,cs[j]?=some v->w.cell? (a.add j)=some v) (hc: ∀j,j<cs.length->(w.cell? ⟨b,o+j,none⟩).isSome=true) (hf: ∀j,j<cs.length->w.frozen? ⟨b,o+j,none⟩=false) (h1: ∀v∈cs,v.oneCell'=true):
 (Builtin.copy_ #[dT,sT] ty #[.slice (some ⟨b,o,none⟩) dLen dCap, .slice (some a) sLen sCap]).run P w= .ok (goInt n) (w.setCells b o cs):=by
 have hfc:=run_firstCells_some (P:=P) w size n a sLen sCap cs hl hsrc
 have hst:=run_storeCells_cells (P:=P) b o cs 0 w (by simpa using hc) (by simpa using hf) h1
 cases hq:P.info? elem with
 |none=>simp[hq]at hs
 |some i=>
  have hi:i.size=size:=by simpa[hq]using hs
  simp[Builtin.copy_,run_underlying hu,Builtin.lenOf,sizeOf,typeInfo,hq,hi,hn,hfc,hst]
theorem setCells_blockO (g:Nat) {e:TypeId}: ∀(vs:List Value) (o:Nat) (w:World) (cur:Array Value),w.heap[g]?=some (.cells cur e (0,0))->o+vs.length<=cur.size->
 ∃cur',(w.setCells g o vs).heap[g]?=some (.cells cur' e (0,0))/\cur'.size=cur.size/\(∀j,j<o\/o+vs.length<=j->cur'[j]?=cur[j]?)/\ ∀j u,vs[j]?=some u->cur'[o+j]?=some u
 | [],o,w,cur,hg,_=>⟨cur,hg,rfl,fun _ _=>rfl,fun j u h=>by simp at h⟩
 |v::r,o,w,cur,hg,hl=>by
  obtain⟨cur',h1,h2,h3,h4⟩:=setCells_blockO g r (o+1) (w.setCell ⟨g,o,none⟩ v) (cur.setIfInBounds o v) (heap_setCell_same w g o cur e v hg) (by simp at hl⊢;omega)
  refine⟨cur',h1,by simpa using h2,fun j hj=> ?_,fun j u hu=> ?_⟩
  ·rw[h3 j (by simp at hj;omega),Array.getElem?_setIfInBounds_ne (by simp at hj;omega)]
  ·cases j with
   |zero=>
    simp only[List.getElem?_cons_zero,Option.some.injEq]at hu
    subst hu
    rw[Nat.add_zero,h3 o (by omega)]
    exact Array.getElem?_setIfInBounds_self_of_lt (by simp at hl;omega)
   |succ j=>
    have:=h4 j u (by simpa using hu)
    rw[show o+(j+1)=o+1+j by omega]
    exact this
theorem part_len (p:ByteArray×Rat):(partCells p).length=3:=rfl
theorem part_one (p:ByteArray×Rat): ∀u∈partCells p,u.oneCell'=true:=by simp[partCells,Value.oneCell']
theorem parts_one (l:Parts): ∀u∈l.flatMap partCells,u.oneCell'=true:=fun u hu=>by
 obtain⟨x,_,hx⟩:=List.mem_flatMap.1 hu
 exact part_one x u hx
theorem parts_len (l:Parts):(l.flatMap partCells).length=l.length*3:=flat_len partCells 3 part_len l
theorem elPart:ElTy Tryz.prog 41 49 3 32:=elTy_of (z:= .agg #[.string ⟨#[]⟩, .int .i64 0, .int .i64 0]) (by kernel_rfl) (by kernel_rfl) rfl (by decide)
theorem ins_get {xs:Parts} {p:ByteArray×Rat} {i:Nat} (hi:i<=xs.length) {cur:Nat->Option Value} (h0: ∀j u,j<i*3->(xs.flatMap partCells)[j]?=some u->cur j=some u) (h1: ∀j u,(partCells p)[j]?=some u->cur (i*3+j)=some u)
 (h2: ∀j u,((xs.drop i).flatMap partCells)[j]?=some u->cur ((i+1)*3+j)=some u): ∀j u,((xs.take i++p::xs.drop i).flatMap partCells)[j]?=some u->cur j=some u:=fun j u hj=>by
 have hl:((xs.take i).flatMap partCells).length=i*3:=by rw[parts_len,List.length_take];congr 1;omega
 rw[List.flatMap_append,List.flatMap_cons]at hj
 by_cases hj1:j<i*3
 ·rw[List.getElem?_append_left (by omega)]at hj
  refine h0 j u hj1 ?_
  have e:xs.flatMap partCells=(xs.take i).flatMap partCells++(xs.drop i).flatMap partCells:=by rw[<-List.flatMap_append,List.take_append_drop]
  rw[e,List.getElem?_append_left (by omega)]
  exact hj
 ·rw[List.getElem?_append_right (by omega),hl]at hj
  by_cases hj2:j-i*3<3
  ·rw[List.getElem?_append_left (by rw[part_len];exact hj2)]at hj
   have:=h1 _ u hj
   rwa [show i*3+(j-i*3)=j by omega]at this
  ·rw[List.getElem?_append_right (by rw[part_len];omega),part_len]at hj
   have:=h2 _ u hj
   rwa [show(i+1)*3+(j-i*3-3)=j by omega]at this
def InsPost (w:World) (base:Nat) (v:Value) (ys:Parts) (e:Ending) (w':World):Prop:=
 ∃v',e= .returned v'/\OwnS w' base 49 3 partCells v' ys/\w.grownBy w' (blkOf v)/\ ∀g,blkOf v'=some g->blkOf v=some g\/w.heap.size<=g
theorem part_at {w:World} {vb:Nat} {p:ByteArray×Rat} {t:TypeId} {fr:Nat×Nat} (h:w.heap[vb]?=some (.cells #[.string p.1, .int .i64 p.2.num, .int .i64 p.2.den] t fr)): ∀j v,(partCells p)[j]?=some v->w.cell? ⟨vb,j,none⟩=some v:=fun j v hj=>by
 match j,hj with
 |0,hj=>simp[partCells]at hj;simp[World.cell?,h,<-hj]
 |1,hj=>simp[partCells]at hj;simp[World.cell?,h,<-hj]
 |2,hj=>simp[partCells]at hj;simp[World.cell?,h,<-hj]
 |j+3,hj=>simp[partCells]at hj
set_option maxRecDepth 100000 in
set_option maxHeartbeats 2000000 in
theorem insEnd_any (base:Nat) (xs:Parts) (p:ByteArray×Rat) (vb:Nat) (w:World) (hl:xs.length<=100000) (hvb:w.heap[vb]?=some (.cells #[.string p.1, .int .i64 p.2.num, .int .i64 p.2.den] 49)) (hbase:base<=w.heap.size) (v:Value) (hown:OwnS w base 49 3 partCells v xs):
 Calls Tryz.prog 171 #[v, .int .i64 xs.length, .slice (some ⟨vb,0,none⟩) 1 1] w (InsPost w base v (xs++[p])):=by
 have hS:Sl w 3 partCells (some ⟨vb,0,none⟩) [p]:=fun _=>⟨vb,0,rfl,blk_lt hvb,fun k x hx j u hu=>by
  have hk:k=0:=by have:=(List.getElem?_eq_some_iff.1 hx).1;simp at this;omega
  subst hk
  simp only[List.getElem?_cons_zero,Option.some.injEq]at hx
  subst hx
  have:=part_at hvb j u hu
  simpa using this⟩
 have HO:=Lib.hid hown
 have HS:=Lib.hid hS
 obtain⟨A,c,rfl,_,hc⟩:=hown.sl part_len
 have hc2:(xs.length:Int)<=(c:Int):=by omega
 clear hS
 have hA:A=none\/ ∃g o,A=some ⟨g,o,none⟩:=by
  rcases hown with⟨h,_⟩|⟨g,o,cap,cur,h,_⟩
  ·simp only[Value.slice.injEq]at h;exact .inl h.1
  ·simp only[Value.slice.injEq]at h;exact .inr ⟨g,o,h.1⟩
 clear hown
 go_enter Tryz.func171,Tryz.ntmps171
 rcases hA with rfl|⟨g,o,rfl⟩
 ·go_wp2_with (at_builtin;refine wpList_append_S (n:=xs.length) (m:=1) rfl _ _ rfl elPart part_len part_one rfl HO.out rfl rfl rfl HS.out (by simp[maxLen];omega) (by omega) hbase ?_;intro v' w' h1 h2 h3)
  all_goals go_ret
  all_goals exact⟨_,rfl,h1,h2,h3⟩
 ·go_wp2_with (at_builtin;refine wpList_append_S (n:=xs.length) (m:=1) rfl _ _ rfl elPart part_len part_one rfl HO.out rfl rfl rfl HS.out (by simp[maxLen];omega) (by omega) hbase ?_;intro v' w' h1 h2 h3)
  all_goals go_ret
  all_goals exact⟨_,rfl,h1,h2,h3⟩
set_option maxRecDepth 100000 in
set_option maxHeartbeats 2000000 in
theorem insRoom_any (base:Nat) (xs:Parts) (p:ByteArray×Rat) (vb:Nat) (w:World) (hl:xs.length<=100000) (hvb:w.heap[vb]?=some (.cells #[.string p.1, .int .i64 p.2.num, .int .i64 p.2.den] 49)) (hbase:base<=w.heap.size) (g o c:Nat) (cur:Array Value) (hbg:base<=g) (hg:w.heap[g]?=some (.cells cur 49 (0,0))) (hroom:xs.length+1<=c) (hcm:c<=maxLen) (hcs:o+c*3<=cur.size) (hx: ∀j u,(xs.flatMap partCells)[j]?=some u->cur[o+j]?=some u)
 (i:Nat) (hi:i<xs.length) (hne:vb≠g):
 Calls Tryz.prog 171 #[.slice (some ⟨g,o,none⟩) xs.length c, .int .i64 i, .slice (some ⟨vb,0,none⟩) 1 1] w (InsPost w base (.slice (some ⟨g,o,none⟩) xs.length c) (xs.take i++p::xs.drop i)):=by
 have mixed:Tryz.prog.follows .mixedOrders=true:=by kernel_rfl
 have hc63:(c:Int)<=9223372036854775807:=by unfold maxLen at hcm;omega
 have hroom2:(xs.length:Int)+1<=(c:Int):=by omega
 have hroom3: ¬((c:Int)<(xs.length:Int)+1):=by omega
 have hwn:IntKind.i64.wrap ((xs.length:Int)+1)=(xs.length:Int)+1:=by rw[IntKind.wrap_i64];omega
 have hz2: ¬((i:Int)=(xs.length:Int)):=by omega
 have hw1:IntKind.i64.wrap ((i:Int)+1)=(i:Int)+1:=by rw[IntKind.wrap_i64];omega
 have hb1:(0:Int)<=(i:Int)+1:=by omega
 have hb0:(0:Int)<=(i:Int):=by omega
 have htn:((i:Int)+1).toNat=i+1:=by omega
 have hb2: ¬(c=i+1):=by omega
 have hb4: ¬(c=i):=by omega
 have hb3:(i:Int)<=(xs.length:Int)+1:=by omega
 have hb5:(i:Int)<=(xs.length:Int):=by omega
 have hov: ∀lb cb,(callFunc 188 #[.slice (some ⟨vb,0,none⟩) 1 1, .slice (some ⟨g,o+(i+1)*3,none⟩) lb cb]).run Tryz.prog w= .ok (.value (.bool false)) w:=fun lb cb=>by
  rw[run_callFunc_extern Tryz.func188 (by kernel_rfl) (by kernel_rfl) (by kernel_rfl) (e:=Extern.SlicesOverlaps.overlaps #[41,41] #[4]) (by kernel_rfl),
   Lib.run_overlaps_apart w 41 4 49 Tryz.underlying41 3 Tryz.sizeOf49 ⟨vb,0,none⟩ ⟨g,o+(i+1)*3,none⟩ 1 1 lb cb hne 49 49 3 cur.size (by simp[World.shape?,hvb]) (by simp[World.shape?,hg]) (by omega) (by simp[World.frozen?,hvb]) (by simp[World.frozen?,hvb])]
  rfl
 obtain⟨i0,z,hi0,hz0,hzs,hzb,hzz⟩:=elPart.hi
 have hsz:(Tryz.prog.info? 49).map (·.size)=some 3:=by rw[hi0];simp[hzs]
 have hdl:((xs.drop i).flatMap partCells).length=(xs.length-i)*3:=by rw[parts_len,List.length_drop]
 have hcell: ∀j,j<c*3->(w.cell? ⟨g,o+j,none⟩).isSome=true:=fun j hj=>by simp[World.cell?,hg];omega
 have hcp1: ∀ty dc sc,(Builtin.copy_ #[41,41] ty #[.slice (some ⟨g,o+(i+1)*3,none⟩) (xs.length+1-(i+1)) dc, .slice (some ⟨g,o+i*3,none⟩) (xs.length+1-i) sc]).run Tryz.prog w.drew= .ok (goInt (xs.length-i:Nat)) (w.drew.setCells g (o+(i+1)*3) ((xs.drop i).flatMap partCells)):=fun ty dc sc=>
  run_copyK w.drew _ _ ty 49 3 g (o+(i+1)*3) _ dc ⟨g,o+i*3,none⟩ _ sc (xs.length-i) _ Tryz.underlying41 hsz (by simp only[Nat.min_def];split<;>omega) hdl
   (fun j v hj=>by
     rw[Addr.add_lit]
     have e:(xs.flatMap partCells)[i*3+j]?=some v:=by
      have e2:xs.flatMap partCells=(xs.take i).flatMap partCells++(xs.drop i).flatMap partCells:=by rw[<-List.flatMap_append,List.take_append_drop]
      have e3:((xs.take i).flatMap partCells).length=i*3:=by rw[parts_len,List.length_take];congr 1;omega
      rw[e2,List.getElem?_append_right (by omega),e3,Nat.add_sub_cancel_left]
      exact hj
     have:=hx _ _ e
     show w.cell? _=_
     simp only[World.cell?,hg,Nat.add_assoc]
     exact this)
   (fun j hj=>by rw[hdl]at hj;show(w.cell? _).isSome=_;rw[Nat.add_assoc];exact hcell _ (by omega)) (fun j hj=>by show w.frozen? _=_;simp[World.frozen?,hg]) (parts_one _)
 obtain⟨cur1,k1,k2,k3,k4⟩:=setCells_blockO g ((xs.drop i).flatMap partCells) (o+(i+1)*3) w.drew cur hg (by rw[hdl];omega)
 have hgr1:=setCells_grown g ((xs.drop i).flatMap partCells) (o+(i+1)*3) w.drew
 obtain⟨W1,hW1⟩: ∃W1,W1=w.drew.setCells g (o+(i+1)*3) ((xs.drop i).flatMap partCells):=⟨_,rfl⟩
 rw[<-hW1]at hcp1 k1 hgr1
 have hvb1:W1.heap[vb]?=some (.cells #[.string p.1, .int .i64 p.2.num, .int .i64 p.2.den] 49):=(hgr1.block vb (blk_lt hvb) (by simp[hne])).trans hvb
 have hcp2: ∀(W:World),W.heap=W1.heap-> ∀ty dc,(Builtin.copy_ #[41,41] ty #[.slice (some ⟨g,o+i*3,none⟩) (xs.length+1-i) dc, .slice (some ⟨vb,0,none⟩) 1 1]).run Tryz.prog W= .ok (goInt (1:Nat)) (W.setCells g (o+i*3) (partCells p)):=fun W hWh ty dc=>
  run_copyK W _ _ ty 49 3 g (o+i*3) _ dc ⟨vb,0,none⟩ 1 1 1 _ Tryz.underlying41 hsz (by simp only[Nat.min_def];split<;>omega) (by rw[part_len])
   (fun j v hj=>by rw[Addr.add_lit,Nat.zero_add];exact part_at (by rw[hWh];exact hvb1) j v hj)
   (fun j hj=>by rw[part_len]at hj;simp[World.cell?,hWh,k1,k2];omega) (fun j hj=>by simp[World.frozen?,hWh,k1]) (part_one p)
 have HF:Hid (∀W:World,W.heap=W1.heap->W.os=W1.os->W.tape=W1.tape->W.output=W1.output->InsPost w base (.slice (some ⟨g,o,none⟩) xs.length c) (xs.take i++p::xs.drop i) (.returned (.slice (some ⟨g,o,none⟩) (xs.length+1) c)) (W.setCells g (o+i*3) (partCells p))):=by
  intro W h1 h2 h3 h4
  have hwW:w.grownBy W (some g):=⟨h2.trans hgr1.os,h3.trans hgr1.tape,h4.trans hgr1.output,by rw[h1];exact hgr1.size,fun k hk hn=>by rw[h1];exact hgr1.block k hk hn⟩
  obtain⟨cur2,l1,l2,l3,l4⟩:=setCells_blockO g (partCells p) (o+i*3) W cur1 (by rw[h1];exact k1) (by rw[part_len,k2];omega)
  have hlen:(xs.take i++p::xs.drop i).length=xs.length+1:=by simp;omega
  refine⟨_,rfl, .inr ⟨g,o,c,cur2,by rw[hlen],hbg,l1,by rw[hlen];exact hroom,hcm,by rw[l2,k2];exact hcs,?_⟩,grown_trans hwW (setCells_grown _ _ _ _),fun g' h=> .inl h⟩
  refine ins_get (cur:=fun j=>cur2[o+j]?) (by omega) (fun j u hj hu=> ?_) (fun j u hu=> ?_) (fun j u hu=> ?_)
  ·show cur2[o+j]?=_
   rw[l3 _ (.inl (by omega)),k3 _ (.inl (by omega))]
   exact hx j u hu
  ·have:=l4 j u hu
   rw[show o+i*3+j=o+(i*3+j) by omega]at this
   exact this
  ·show cur2[o+((i+1)*3+j)]?=_
   rw[l3 _ (.inr (by rw[part_len];omega))]
   have:=k4 j u hu
   rw[show o+(i+1)*3+j=o+((i+1)*3+j) by omega]at this
   exact this
 clear hW1 k1 k2 k3 k4 hgr1 hcell hx hvb1 hdl hg hvb
 go_enter Tryz.func171,Tryz.ntmps171
 go_wp2_with (simp only[hov])
 go_region_law_o (go_loud(refine step_copy_runI rfl _ _ 41 41 rfl _ _ (by simp[Act.eval,Act.put];rfl) (by simp[Act.eval,Act.put];rfl) (hcp1 _ _ _) ?_))
 go_wp2_with (at_builtin;refine wpList_copy_runI _ rfl _ _ 41 41 rfl _ _ rfl rfl (hcp2 _ rfl _ _) ?_)
 go_ret
 exact HF.out _ rfl rfl rfl rfl
theorem size_zeroCells (z:Array Value) (k:Nat):(Builtin.zeroCells z k).size=k*z.size:=by
 simp[Builtin.zeroCells]
set_option maxRecDepth 100000 in
set_option maxHeartbeats 2000000 in
theorem insGrow_any (base:Nat) (xs:Parts) (p:ByteArray×Rat) (vb:Nat) (w:World) (hl:xs.length<=100000) (hvb:w.heap[vb]?=some (.cells #[.string p.1, .int .i64 p.2.num, .int .i64 p.2.den] 49)) (hbase:base<=w.heap.size) (g o:Nat) (cur:Array Value) (hg:w.heap[g]?=some (.cells cur 49 (0,0))) (hx: ∀j u,(xs.flatMap partCells)[j]?=some u->cur[o+j]?=some u)
 (i:Nat) (hi:i<xs.length):
 Calls Tryz.prog 171 #[.slice (some ⟨g,o,none⟩) xs.length xs.length, .int .i64 i, .slice (some ⟨vb,0,none⟩) 1 1] w (InsPost w base (.slice (some ⟨g,o,none⟩) xs.length xs.length) (xs.take i++p::xs.drop i)):=by
 have mixed:Tryz.prog.follows .mixedOrders=true:=by kernel_rfl
 have hwn:IntKind.i64.wrap ((xs.length:Int)+1)=(xs.length:Int)+1:=by rw[IntKind.wrap_i64];omega
 have hgr:(xs.length:Int)<(xs.length:Int)+1:=by omega
 obtain⟨c,hc⟩: ∃c,xs.length=c:=⟨_,rfl⟩
 have hb2: ¬(c=i+1)\/c=i+1:=by omega
 have hz2: ¬((i:Int)=(xs.length:Int)):=by omega
 have hw1:IntKind.i64.wrap ((i:Int)+1)=(i:Int)+1:=by rw[IntKind.wrap_i64];omega
 have hb1:(0:Int)<=(i:Int)+1:=by omega
 have hb0:(0:Int)<=(i:Int):=by omega
 have htn:((i:Int)+1).toNat=i+1:=by omega
 have hb5:(i:Int)<=(xs.length:Int):=by omega
 have hb6:(i:Int)+1<=(xs.length:Int)+1:=by omega
 have hkw:IntKind.i64.wrap ((xs.length:Int)+1-(i:Int))=(xs.length:Int)+1-(i:Int):=by rw[IntKind.wrap_i64];omega
 have hkk:(xs.length:Int)+1-(i:Int)=((xs.length+1-i:Nat):Int):=by omega
 have hik:i+(xs.length+1-i)=xs.length+1:=by omega
 obtain⟨i0,z,hi0,hz0,hzs,hzb,hzz⟩:=elPart.hi
 have hsz:(Tryz.prog.info? 49).map (·.size)=some 3:=by rw[hi0];simp[hzs]
 have hgl:g<w.heap.size:=blk_lt hg
 have hvl:vb<w.heap.size:=blk_lt hvb
 have htl:((xs.take i).flatMap partCells).length=i*3:=by rw[parts_len,List.length_take];congr 1;omega
 have hsplit:xs.flatMap partCells=(xs.take i).flatMap partCells++(xs.drop i).flatMap partCells:=by rw[<-List.flatMap_append,List.take_append_drop]
 have hold:(Builtin.firstCells i0.size i (.slice (some ⟨g,o,none⟩) i xs.length)).run Tryz.prog w.drew= .ok ((xs.take i).flatMap partCells).toArray w.drew:=by
  rw[hzs]
  exact run_firstCells_some w.drew 3 i ⟨g,o,none⟩ i xs.length _ htl (fun j v hj=>by
   rw[Addr.add_lit]
   have:=hx j v (by rw[hsplit,List.getElem?_append_left (List.getElem?_eq_some_iff.1 hj).1];exact hj)
   show w.cell? _=_
   simp only[World.cell?,hg]
   exact this)
 have hrz: ∀ty,(Builtin.append_ #[41,3] ty #[.slice (some ⟨g,o,none⟩) i xs.length, .int .i64 ((xs.length:Int)+1-(i:Int))]).run Tryz.prog w=
  .ok (.slice (some ⟨w.heap.size,0,none⟩) (xs.length+1) (grownCap w (xs.length+1) xs.length 49)) (w.drew.alloc (.cells (((xs.take i).flatMap partCells).toArray++Builtin.zeroCells z.cells (xs.length+1-i)++Builtin.zeroCells z.cells (grownCap w (xs.length+1) xs.length 49-(xs.length+1))) 49)):=fun ty=>by
  have h:=Lib.run_append_grow_zeros w 41 3 ty 49 i0 _ .i64 .i64 Tryz.underlying41 Tryz.underlying3 hi0 hz0 (some ⟨g,o,none⟩) i xs.length ((xs.take i).flatMap partCells) hold (xs.length+1-i) (by omega) (by omega) (by omega) (by omega) (by rw[hzb];omega) (by rw[hzb,hik];exact growslice_fits (by omega) (by omega))
  rw[hik]at h
  rw[hkk]
  exact h
 obtain⟨G,hG⟩: ∃G,G=grownCap w (xs.length+1) xs.length 49:=⟨_,rfl⟩
 obtain⟨ROW,hROW⟩: ∃ROW:Array Value,ROW=((xs.take i).flatMap partCells).toArray++Builtin.zeroCells z.cells (xs.length+1-i)++Builtin.zeroCells z.cells (G-(xs.length+1)):=⟨_,rfl⟩
 rw[<-hG,<-hROW]at hrz
 have hGn:xs.length+1<=G:=by rw[hG];exact grownCap_ge w _ _ _
 have hG63:G<=maxLen:=by
  rw[hG]
  exact grownCap_le_maxLen w (xs.length+1) xs.length 49 (by unfold maxLen;omega)
 have hRl:ROW.size=G*3:=by
  rw[hROW,Array.size_append,Array.size_append,size_zeroCells,size_zeroCells,hzz]
  simp only[List.size_toArray,htl]
  omega
 have hR0: ∀j u,((xs.take i).flatMap partCells)[j]?=some u->ROW[j]?=some u:=fun j u hj=>by
  have hjl:=(List.getElem?_eq_some_iff.1 hj).1
  rw[hROW,Array.getElem?_append_left (by rw[Array.size_append,List.size_toArray];omega),Array.getElem?_append_left (by simpa using hjl)]
  simpa using hj
 obtain⟨W1,hW1⟩: ∃W1,W1=w.drew.alloc (.cells ROW 49):=⟨_,rfl⟩
 have hWN:W1.heap[w.heap.size]?=some (.cells ROW 49):=by rw[hW1];exact heap_alloc_new w.drew _
 have hWo: ∀k,k<w.heap.size->W1.heap[k]?=w.heap[k]?:=fun k hk=>by rw[hW1];exact Below.heap_alloc w.drew _ k hk
 have hcpA: ∀(W:World),W.heap=W1.heap-> ∀ty dc,(Builtin.copy_ #[41,41] ty #[.slice (some ⟨w.heap.size,i*3,none⟩) (xs.length+1-i) dc, .slice (some ⟨vb,0,none⟩) 1 1]).run Tryz.prog W= .ok (goInt (1:Nat)) (W.setCells w.heap.size (i*3) (partCells p)):=fun W hWh ty dc=>
  run_copyK W _ _ ty 49 3 w.heap.size (i*3) _ dc ⟨vb,0,none⟩ 1 1 1 _ Tryz.underlying41 hsz (by simp only[Nat.min_def];split<;>omega) (by rw[part_len])
   (fun j v hj=>by rw[Addr.add_lit,Nat.zero_add];exact part_at (by rw[hWh,hWo vb hvl];exact hvb) j v hj)
   (fun j hj=>by rw[part_len]at hj;simp[World.cell?,hWh,hWN];omega) (fun j hj=>by simp[World.frozen?,hWh,hWN]) (part_one p)
 obtain⟨cur1,k1,k2,k3,k4⟩:=setCells_blockO w.heap.size (partCells p) (i*3) W1 ROW hWN (by rw[part_len,hRl];omega)
 have hgr1:=setCells_grown w.heap.size (partCells p) (i*3) W1
 have hdl:((xs.drop i).flatMap partCells).length=(xs.length-i)*3:=by rw[parts_len,List.length_drop]
 have hgB:(W1.setCells w.heap.size (i*3) (partCells p)).heap[g]?=some (.cells cur 49):=by rw[hgr1.block g (by rw[hW1];simp;omega) (by simp;omega),hWo g hgl];exact hg
 have hcpB: ∀(W:World),W.heap=(W1.setCells w.heap.size (i*3) (partCells p)).heap-> ∀ty dc sc,(Builtin.copy_ #[41,41] ty #[.slice (some ⟨w.heap.size,(i+1)*3,none⟩) (xs.length-i) dc, .slice (some ⟨g,o+i*3,none⟩) (xs.length-i) sc]).run Tryz.prog W= .ok (goInt (xs.length-i:Nat)) (W.setCells w.heap.size ((i+1)*3) ((xs.drop i).flatMap partCells)):=fun W hWh ty dc sc=>
  run_copyK W _ _ ty 49 3 w.heap.size ((i+1)*3) _ dc ⟨g,o+i*3,none⟩ _ sc (xs.length-i) _ Tryz.underlying41 hsz (by simp only[Nat.min_def];split<;>omega) hdl
   (fun j v hj=>by
     rw[Addr.add_lit]
     have e:(xs.flatMap partCells)[i*3+j]?=some v:=by
      rw[hsplit,List.getElem?_append_right (by omega),htl,Nat.add_sub_cancel_left]
      exact hj
     have:=hx _ _ e
     simp only[World.cell?,hWh,hgB,Nat.add_assoc]
     exact this)
   (fun j hj=>by rw[hdl]at hj;simp[World.cell?,hWh,k1,k2,hRl];omega) (fun j hj=>by simp[World.frozen?,hWh,k1]) (parts_one _)
 have HF:Hid (∀W:World,W.heap=(W1.setCells w.heap.size (i*3) (partCells p)).heap->W.os=w.os->W.tape=w.tape->W.output=w.output->InsPost w base (.slice (some ⟨g,o,none⟩) xs.length xs.length) (xs.take i++p::xs.drop i) (.returned (.slice (some ⟨w.heap.size,0,none⟩) (xs.length+1) G)) (W.setCells w.heap.size ((i+1)*3) ((xs.drop i).flatMap partCells))):=by
  intro W h1 h2 h3 h4
  have hwW:w.grownBy W (some g):=⟨h2,h3,h4,by rw[h1];exact Nat.le_trans (by rw[hW1];simp) hgr1.size,fun k hk hn=>by rw[h1,hgr1.block k (by rw[hW1];simp;omega) (by simp;omega),hWo k hk]⟩
  obtain⟨cur2,l1,l2,l3,l4⟩:=setCells_blockO w.heap.size ((xs.drop i).flatMap partCells) ((i+1)*3) W cur1 (by rw[h1];exact k1) (by rw[hdl,k2,hRl];omega)
  have hlen:(xs.take i++p::xs.drop i).length=xs.length+1:=by simp;omega
  have hg2:=setCells_grown w.heap.size ((xs.drop i).flatMap partCells) ((i+1)*3) W
  refine⟨_,rfl, .inr ⟨w.heap.size,0,G,cur2,by rw[hlen],hbase,l1,by rw[hlen];exact hGn,hG63,by rw[l2,k2,hRl];omega,?_⟩,?_,fun g' h=> .inr (by simp only[blkOf,Option.some.injEq]at h;omega)⟩
  ·refine ins_get (cur:=fun j=>cur2[0+j]?) (by omega) (fun j u hj hu=> ?_) (fun j u hu=> ?_) (fun j u hu=> ?_)
   ·show cur2[0+j]?=_
    rw[Nat.zero_add,l3 _ (.inl (by omega)),k3 _ (.inl (by omega))]
    rw[hsplit,List.getElem?_append_left (by omega)]at hu
    exact hR0 j u hu
   ·show cur2[0+(i*3+j)]?=_
    have hj3:j<3:=by have:=(List.getElem?_eq_some_iff.1 hu).1;rwa [part_len]at this
    rw[Nat.zero_add,l3 _ (.inl (by omega))]
    exact k4 j u hu
   ·show cur2[0+((i+1)*3+j)]?=_
    rw[Nat.zero_add]
    exact l4 j u hu
  ·exact⟨hg2.os.trans h2,hg2.tape.trans h3,hg2.output.trans h4,Nat.le_trans hwW.size hg2.size,fun k hk hn=>(hg2.block k (Nat.lt_of_lt_of_le hk hwW.size) (by simp;omega)).trans (hwW.block k hk hn)⟩
 subst hW1
 have hGi: ¬(G=i):=by omega
 have hGim: ¬(G=i+1):=by omega
 have hci: ¬(xs.length=i):=by omega
 have hGc:(xs.length:Int)+1<=(G:Int):=by omega
 have hGc2:(i:Int)<=(xs.length:Int)+1:=by omega
 clear hkk hik hold hROW hG hRl hR0 hsplit htl hdl hgB hgr1 k1 k2 k3 k4 hWN hWo hx hc hb2
 go_enter Tryz.func171,Tryz.ntmps171
 go_upto_region 10 with(at_builtin;refine Lib.wpList_append_run _ rfl _ _ _ _ rfl _ _ rfl rfl _ _ (hrz _) ?_)
 have hcpA2: ∀ty dc,_:=fun ty dc=>hcpA ((w.alloc (.cells ROW 49)).drew) rfl ty dc
 clear hcpA
 go_wp2_with fail
 go_region_law_o (go_loud(refine step_copy_runI rfl _ _ 41 41 rfl _ _ (by simp[Act.eval,Act.put];rfl) (by simp[Act.eval,Act.put];rfl) (hcpB (((w.alloc (.cells ROW 49)).drew.setCells w.heap.size (i*3) (partCells p)).drew) rfl _ _ _) ?_))
 go_wp2_with fail
 go_ret
 exact HF.out _ rfl rfl rfl rfl
end Go.Proofs.YtmaidggpbihlgaaGreatDoor
