/- Walks of chapter 5's people: contains, marriages, who is dead. -/
import Derived.Test.YtjhbofabmpfniaaGreatDoorJ7
import Derived.Test.YtjhbofabmpfniaaGreatDoorJL
import Derived.Shelf.Spec.SlicesInsertGrow
set_option linter.unusedSimpArgs false
set_option linter.unusedVariables false
set_option maxRecDepth 100000
set_option maxHeartbeats 4000000
namespace Go.Proofs.YtjhbofabmpfniaaGreatDoor
open Go.RowKit Go.Shelf
attribute [local go_sem] World.cell?_alloc_mark zae za3 zam za6 zas zat zau zav zaw zax zay
attribute [local go_sem] zaj zac
theorem zlq (a b:ByteArray) (w:World):Calls Tryz.prog 154 #[.string a, .string b] w (Ret0 w (.int .i64 (cmpN a b))):=by
 have bC:=Any.strings_Compare cmpStr a b w;change Calls Tryz.prog 154 _ _ _ at bC;exact Mbi
theorem zmA (p:ByteArray×Rat) (s:ByteArray) (w:World):Calls Tryz.prog 215 #[.agg #[.string p.1, .int .i64 p.2.num, .int .i64 p.2.den], .string s] w (Ret w (.int .i64 (cmpN p.1 s))):=by
 have hc:=fun W=>zlq p.1 s W
 generalize cmpN p.1 s=r at hc⊢;go_enter Tryz.func215,Tryz.ntmps215
 go_wp2_with (go_at_call 154;refine(hc _).mono ?_;rintro e wq ⟨rfl,rfl⟩)
 go_ret
 exact Ret.of rfl Bw
def znM (w:World) (xs:Parts) (nm:ByteArray) (e:Ending) (w':World):Prop:=
 ∃P Q,xs=P++Q/\(∀p∈P,zbn p.1 nm=true)/\(∀p∈Q,zbn p.1 nm=false)/\Ret w (.tuple #[.int .i64 P.length, .bool (zdR Q nm)]) e w'
theorem bsf_any (xs:Parts) (A:Option Addr) (n c:Nat) (nm:ByteArray) (w:World) (hn:n=xs.length) (hl:xs.length<=100000) (hA:AscP xs) (hS:Sl w 3 zaa A xs):
 Calls Tryz.prog 214 #[.slice A n c, .string nm, .func (.func 215) #[] #[]] w (znM w xs nm):=by
 subst hn;have eg: ∀args w,(callFunc 215 args).run Tryz.prog w= .ok (.enter 215 args) w:=enters_of Tryz.func215 Mco rfl;have HA:=zHi hA;have HC:=zHi (fun(p:ByteArray×Rat) W=>zmA p nm W);go_enter Tryz.func214,Tryz.ntmps214
 go_wp2_with fail
 go_loopw [9,10] (fun i j wr=> ∃lo hi:Nat,i= .int .i64 lo/\j= .int .i64 hi/\lo<=hi/\hi<=xs.length/\Hid (∀t (ht:t<xs.length),t<lo->zbn xs[t].1 nm=true)/\Hid (∀t (ht:t<xs.length),hi<=t->zbn xs[t].1 nm=false)/\ ∃z,wr=w.ext z) (fun i j _=>(intOf j).toNat-(intOf i).toNat)
 case atStart=>exact⟨0,xs.length,rfl,rfl,Nat.zero_le _,Nat.le_refl _,fun t ht h=>absurd h (Nat.not_lt_zero _),fun t ht h=>by omega,zba (Below.refl _ _)⟩
 case round=>
  obtain⟨lo,hi,rfl,rfl,h1,h2,H3,H4,z,rfl⟩:=hrel;by_cases aa:lo<hi
  ·have hm:(lo+hi)/2<xs.length:=Mcn;obtain⟨b,off,rfl,hb,hc⟩:=(hS.keep (zaq w z)).at hm;have HX:=zHi (fun t (ht:t<xs.length) (h:t<(lo+hi)/2)=>List.pairwise_iff_getElem.1 hA t _ ht hm h);have HY:=zHi (fun t (ht:t<xs.length) (h:(lo+hi)/2<t)=>List.pairwise_iff_getElem.1 hA _ t hm ht h);generalize hp:xs[(lo+hi)/2]=p at*;obtain⟨pn,pq⟩:=p;have hr:decide (cmpN pn nm<0)=zbn pn nm:=znF _ _;have bI:=HC.o (pn,pq);simp only at bI;generalize cmpN pn nm=r at hr bI;have c0:(w.ext z).cell? ⟨b,off+(lo+hi)/2*3,none⟩=some (.string pn):=hc 0 _ rfl;have c1:(w.ext z).cell? ⟨b,off+(lo+hi)/2*3+1,none⟩=some (.int .i64 pq.num):=hc 1 _ rfl;have c2:(w.ext z).cell? ⟨b,off+(lo+hi)/2*3+2,none⟩=some (.int .i64 pq.den):=hc 2 _ rfl;have HP:=zHi hp;have HR:=zHi hr;clear hp hr hc hS hA;by_cases pV:r<0
   ·go_wp2_with (go_at_fn 215;refine(bI _).mono ?_;rintro e wq ⟨rfl,zq,rfl⟩)
    go_round
    case rel=>
     have bN:zbn pn nm=true:=by rw[<-HR.o];simpa using pV
     refine⟨(lo+hi)/2+1,hi,by go_num,rfl,by omega,h2,(show Hid _ from fun t ht h=> ?_),H4,zba Bw⟩;by_cases e:t=(lo+hi)/2
     ·subst e;rw[HP.o];exact bN
     ·have:=HX.o t ht Mcn;exact zb4 this bN
    case measure=>simp[intOf];omega
   ·go_wp2_with (go_at_fn 215;refine(bI _).mono ?_;rintro e wq ⟨rfl,zq,rfl⟩)
    go_round
    case rel=>
     have bN:zbn pn nm=false:=by rw[<-HR.o];simpa using pV
     refine⟨lo,(lo+hi)/2,rfl,by go_num,by omega,by omega,H3,(show Hid _ from fun t ht h=> ?_),zba Bw⟩;by_cases e:t=(lo+hi)/2
     ·subst e;rw[HP.o];exact bN
     ·have:=HY.o t ht Mcn;exact less_up this bN
    case measure=>simp[intOf];omega
  ·have he:hi=lo:=Mcn;subst he;have HP:Hid (∀p∈xs.take hi,zbn p.1 nm=true):=fun p hp=>by
    obtain⟨t,ht,rfl⟩:=List.getElem_of_mem hp;rw[List.getElem_take];have:t<hi:=by rw[List.length_take]at ht;omega
    exact H3.o t Mcn this
   have HQ:Hid (∀p∈xs.drop hi,zbn p.1 nm=false):=fun p hp=>by
    obtain⟨t,ht,rfl⟩:=List.getElem_of_mem hp;rw[List.getElem_drop];exact H4.o (hi+t) (by rw[List.length_drop]at ht;omega) Mcn
   have HL:Hid ((xs.take hi).length=hi):=by show _=_;rw[List.length_take];omega
   by_cases bE:hi<xs.length
   ·obtain⟨b,off,rfl,hb,hc⟩:=(hS.keep (zaq w z)).at bE;have hd:xs.drop hi=xs[hi]::xs.drop (hi+1):=List.drop_eq_getElem_cons bE;generalize hp:xs[hi]=p at*;obtain⟨pn,pq⟩:=p;have hr:(cmpN pn nm==0)=zaf pn nm:=cmpN_zero _ _;have bI:=HC.o (pn,pq);simp only at bI;generalize cmpN pn nm=r at hr bI;have c0:(w.ext z).cell? ⟨b,off+hi*3,none⟩=some (.string pn):=hc 0 _ rfl;have c1:(w.ext z).cell? ⟨b,off+hi*3+1,none⟩=some (.int .i64 pq.num):=hc 1 _ rfl;have c2:(w.ext z).cell? ⟨b,off+hi*3+2,none⟩=some (.int .i64 pq.den):=hc 2 _ rfl;have HR:=zHi hr;have HD:=zHi hd;clear hp hr hc hS hA hd;go_wp2_with (go_at_fn 215;refine(bI _).mono ?_;rintro e wq ⟨rfl,zq,rfl⟩)
    all_goals go_ret2
    all_goals exact⟨xs.take hi,xs.drop hi,(List.take_append_drop _ _).symm,HP.o,HQ.o,Ret.of (by rw[HL.o,HD.o];simp[zdR,<-HR.o, *]) Bw⟩
   ·go_wp2_with fail
    all_goals go_ret2
    all_goals exact⟨xs.take hi,xs.drop hi,(List.take_append_drop _ _).symm,HP.o,HQ.o,Ret.of (by rw[HL.o,List.drop_eq_nil_of_le Mcn];simp[zdR]) Bw⟩
def zbt (W:World) (T:Nat) (pl:ByteArray) (cl fr en:Int) (v dv:Value):Prop:=W.heap[T]?=some (.cells #[.string pl, .int .i64 cl, .int .i64 fr, .int .i64 en,v,dv] 121)
theorem znN (xs:Parts) (A:Option Addr) (c T:Nat) (nm:ByteArray) (w:World) (iO:w.cell? ⟨T,4,none⟩=some (.slice A xs.length c)) (hl:xs.length<=100000) (hA:AscP xs) (hS:Sl w 3 zaa A xs):
 Calls Tryz.prog 157 #[.pointer (some ⟨T,0,none⟩), .string nm] w (znM w xs nm):=by
 have HB:=bsf_any xs A _ c nm w rfl hl hA hS;go_enter Tryz.func157,Tryz.ntmps157
 go_wp2_with (go_at_call 214;refine HB.mono ?_;rintro e wq ⟨P,Q,bw,hP,hQ,rfl,z,rfl⟩)
 go_ret2
 exact⟨P,Q,bw,hP,hQ,Ret.of rfl Bw⟩
theorem shareQ {P Q:Parts} {nm:ByteArray} (hP: ∀p∈P,zbn p.1 nm=true) (hQ: ∀p∈Q,zbn p.1 nm=false) (hA:AscP (P++Q)):zag (P++Q) nm=if zdR Q nm then(Q.headD (⟨#[]⟩,0)).2 else 0:=by
 rw[zfW hP];cases hh:zdR Q nm
 ·exact znG hQ (zhE hA) hh
 ·cases Q with
  |nil=>cases hh
  |cons q Q=>
   have hs:zaf q.1 nm=true:=hh;rw[zbq,hs];rfl
theorem zew (xs:Parts) (A:Option Addr) (c T:Nat) (nm:ByteArray) (w:World) (iO:w.cell? ⟨T,4,none⟩=some (.slice A xs.length c)) (hT:T<w.heap.size) (hl:xs.length<=100000) (hA:AscP xs) (hS:Sl w 3 zaa A xs):
 Calls Tryz.prog 95 #[.pointer (some ⟨T,0,none⟩), .string nm] w (Ret w (zaB (zag xs nm))):=by
 have HF:=fun W h1 h2=>znN xs A c T nm W h1 hl hA h2
 have HS:=zHi hS;have HA:=zHi hA;clear hS hA;have ai:T≠w.heap.size:=Mcn;go_enter Tryz.func95,Tryz.ntmps95
 go_upto_region 2 with(go_at_call 157;refine(HF _ (by simp[go_sem,hT,iO]) (HS.o.keep (n:=w.heap.size) Bw)).mono ?_;rintro e wq ⟨P,Q,bw,hP,hQ,rfl,z,rfl⟩;subst bw)
 have hv:=shareQ hP hQ HA.o;have HV:=zHi hv;clear hv hP hQ;cases Q with
 |nil=>
  go_wp2_with fail
  refine bodyPost_ret (v:=zaB (zag (P++[]) nm)) ?_ rfl ?_
  ·rw[HV.o];refine zbX rfl _ _ w.heap.size _ _ rfl ?_ ?_<;>simp[go_sem,zdR]
  ·exact Ret.of rfl Bw
 |cons q Q=>
  obtain⟨qn,qr⟩:=q;have aa:P.length<(P++(qn,qr)::Q).length:=Mcq;obtain⟨b,off,rfl,hb,hc⟩:=HS.o.at aa;rw[List.getElem_append_right (Nat.le_refl _)]at hc;simp only[Nat.sub_self,List.getElem_cons_zero]at hc;have k1:w.cell? ⟨b,off+P.length*3+1,none⟩=some (.int .i64 qr.num):=hc 1 _ rfl;have k2:w.cell? ⟨b,off+P.length*3+1+1,none⟩=some (.int .i64 qr.den):=hc 2 _ rfl;have bE:(P.length:Int)<((P++(qn,qr)::Q).length:Int):=Mcn;have KC:(0:Int)<=(P.length:Int):=Mcn;have HL:=zHi aa;clear hc aa;generalize hh:zdR ((qn,qr)::Q) nm=q at*;have IF:=zHi (HV.o.trans (by rfl:_=if q then qr else 0));cases q
  ·exact MaC
  ·exact MaC
theorem ziw (g:Grave) (A:Option Addr) (c T:Nat) (day:Int) (w:World) (h3:w.cell? ⟨T,3,none⟩=some (.int .i64 g.fin)) (h4:w.cell? ⟨T,4,none⟩=some (.slice A g.holders.length c)):
 Calls Tryz.prog 96 #[.pointer (some ⟨T,0,none⟩), .int .i64 day] w (Ret w (.bool (zaU g day))):=by
 obtain⟨pl,cl,fin,hs,di⟩:=g;simp only at*;go_enter Tryz.func96,Tryz.ntmps96
 go_wp2_with fail
 all_goals go_ret
 all_goals(refine Ret.of (zaQ ?_) Bw;cases hs<;>simp_all[zaU]<;>omega)
theorem zgz {P:Program} (w:World) (dT sT ty elem:TypeId) (size b o dLen dCap:Nat) (a:Addr) (sLen sCap n:Nat) (cs:List Value)
 (hu:P.underlying dT=some (.slice elem)) (hs:(P.info? elem).map (·.size)=some size) (hn:Nat.min sLen dLen=n) (hl:cs.length=n*size)
 (DK: ∀j v,cs[j]?=some v->w.cell? (a.add j)=some v) (hc: ∀j,j<cs.length->(w.cell? ⟨b,o+j,none⟩).isSome=true) (hf: ∀j,j<cs.length->w.frozen? ⟨b,o+j,none⟩=false) (h1: ∀v∈cs,v.oneCell'=true):
 (Builtin.copy_ #[dT,sT] ty #[.slice (some ⟨b,o,none⟩) dLen dCap, .slice (some a) sLen sCap]).run P w= .ok (goInt n) (w.setCells b o cs):=by
 have K5:=run_firstCells_some (P:=P) w size n a sLen sCap cs hl DK;have aj:=run_storeCells_cells (P:=P) b o cs 0 w MdZ (by simpa using hf) h1;cases hq:P.info? elem with
 |none=>simp[hq]at hs
 |some i=>
  have hi:i.size=size:=by simpa[hq]using hs
  simp[Builtin.copy_,run_underlying hu,Builtin.lenOf,sizeOf,typeInfo,hq,hi,hn,K5,aj]
theorem zbO (g:Nat) {e:TypeId}: ∀(vs:List Value) (o:Nat) (w:World) (cur:Array Value),w.heap[g]?=some (.cells cur e (0,0))->o+vs.length<=cur.size->
 ∃cur',(w.setCells g o vs).heap[g]?=some (.cells cur' e (0,0))/\cur'.size=cur.size/\(∀j,j<o\/o+vs.length<=j->cur'[j]?=cur[j]?)/\ ∀j u,vs[j]?=some u->cur'[o+j]?=some u
 | [],o,w,cur,hg,_=>⟨cur,hg,rfl,fun _ _=>rfl,fun j u h=>by simp at h⟩
 |v::r,o,w,cur,hg,hl=>by
  obtain⟨cur',h1,h2,h3,h4⟩:=zbO g r (o+1) (w.setCell ⟨g,o,none⟩ v) (cur.setIfInBounds o v) (heap_setCell_same w g o cur e v hg) (by simp at hl⊢;omega);refine⟨cur',h1,by simpa using h2,fun j hj=> ?_,fun j u hu=> ?_⟩
  ·rw[h3 j (by simp at hj;omega),Array.getElem?_setIfInBounds_ne (by simp at hj;omega)]
  ·cases j with
   |zero=>
    simp only[List.getElem?_cons_zero,Option.some.injEq]at hu;subst hu;rw[Nat.add_zero,h3 o Mcn];exact Array.getElem?_setIfInBounds_self_of_lt (by simp at hl;omega)
   |succ j=>
    have:=h4 j u (by simpa using hu);rw[show o+(j+1)=o+1+j by omega];exact this
theorem zao (p:ByteArray×Rat):(zaa p).length=3:=rfl
theorem zce (p:ByteArray×Rat): ∀u∈zaa p,u.oneCell'=true:=by simp[zaa,Value.oneCell']
theorem zix (l:Parts): ∀u∈l.flatMap zaa,u.oneCell'=true:=fun u hu=>by
 obtain⟨x,_,hx⟩:=List.mem_flatMap.1 hu;exact zce x u hx
theorem zex (l:Parts):(l.flatMap zaa).length=l.length*3:=zgj zaa 3 zao l
theorem zdU:ElTy Tryz.prog 39 75 3 32:=zd6 (z:= .agg #[.string ⟨#[]⟩, .int .i64 0, .int .i64 0]) Mco Mco rfl Mcp
theorem ins_get {xs:Parts} {p:ByteArray×Rat} {i:Nat} (hi:i<=xs.length) {cur:Nat->Option Value} (h0: ∀j u,j<i*3->(xs.flatMap zaa)[j]?=some u->cur j=some u) (h1: ∀j u,(zaa p)[j]?=some u->cur (i*3+j)=some u)
 (h2: ∀j u,((xs.drop i).flatMap zaa)[j]?=some u->cur ((i+1)*3+j)=some u): ∀j u,((xs.take i++p::xs.drop i).flatMap zaa)[j]?=some u->cur j=some u:=fun j u hj=>by
 have hl:((xs.take i).flatMap zaa).length=i*3:=Mc5;rw[List.flatMap_append,List.flatMap_cons]at hj;by_cases hj1:j<i*3
 ·rw[List.getElem?_append_left Mcn]at hj;refine h0 j u hj1 ?_;exact MaI
 ·rw[List.getElem?_append_right Mcn,hl]at hj;by_cases FT:j-i*3<3
  ·rw[List.getElem?_append_left (by rw[zao];exact FT)]at hj;have:=h1 _ u hj;rwa [show i*3+(j-i*3)=j by omega]at this
  ·rw[List.getElem?_append_right Meb,zao]at hj;have:=h2 _ u hj;rwa [show(i+1)*3+(j-i*3-3)=j by omega]at this
def zfm (w:World) (base:Nat) (v:Value) (ys:Parts) (e:Ending) (w':World):Prop:=
 ∃v',e= .returned v'/\OwnS w' base 75 3 zaa v' ys/\w.grownBy w' (zaA v)/\ ∀g,zaA v'=some g->zaA v=some g\/w.heap.size<=g
theorem zmB {w:World} {vb:Nat} {p:ByteArray×Rat} {t:TypeId} {fr:Nat×Nat} (h:w.heap[vb]?=some (.cells #[.string p.1, .int .i64 p.2.num, .int .i64 p.2.den] t fr)): ∀j v,(zaa p)[j]?=some v->w.cell? ⟨vb,j,none⟩=some v:=fun j v hj=>by
 match j,hj with
 |0,hj=>simp[zaa]at hj;simp[World.cell?,h,<-hj]
 |1,hj=>simp[zaa]at hj;simp[World.cell?,h,<-hj]
 |2,hj=>simp[zaa]at hj;simp[World.cell?,h,<-hj]
 |j+3,hj=>simp[zaa]at hj
theorem zov (base:Nat) (xs:Parts) (p:ByteArray×Rat) (vb:Nat) (w:World) (hl:xs.length<=100000) (dB:w.heap[vb]?=some (.cells #[.string p.1, .int .i64 p.2.num, .int .i64 p.2.den] 75)) (aQ:base<=w.heap.size) (v:Value) (ae:OwnS w base 75 3 zaa v xs):
 Calls Tryz.prog 241 #[v, .int .i64 xs.length, .slice (some ⟨vb,0,none⟩) 1 1] w (zfm w base v (xs++[p])):=by
 have hS:Sl w 3 zaa (some ⟨vb,0,none⟩) [p]:=fun _=>⟨vb,0,rfl,zab dB,fun k x hx j u hu=>by
  have hk:k=0:=by have:=(List.getElem?_eq_some_iff.1 hx).1;simp at this;omega
  subst hk;simp only[List.getElem?_cons_zero,Option.some.injEq]at hx;subst hx;have:=zmB dB j u hu
  simpa using this⟩
 have HO:=zHi ae;have HS:=zHi hS;obtain⟨A,c,rfl,_,hc⟩:=ae.sl zao;have cr:(xs.length:Int)<=(c:Int):=Mcn;clear hS;have hA:A=none\/ ∃g o,A=some ⟨g,o,none⟩:=by
  rcases ae with⟨h,_⟩|⟨g,o,cap,cur,h,_⟩
  ·simp only[Value.slice.injEq]at h;exact .inl h.1
  ·simp only[Value.slice.injEq]at h;exact .inr ⟨g,o,h.1⟩
 clear ae;go_enter Tryz.func241,Tryz.ntmps241
 rcases hA with rfl|⟨g,o,rfl⟩
 ·exact Map
 ·exact Map
theorem zmC (base:Nat) (xs:Parts) (p:ByteArray×Rat) (vb:Nat) (w:World) (hl:xs.length<=100000) (dB:w.heap[vb]?=some (.cells #[.string p.1, .int .i64 p.2.num, .int .i64 p.2.den] 75)) (aQ:base<=w.heap.size) (g o c:Nat) (cur:Array Value) (kr:base<=g) (hg:w.heap[g]?=some (.cells cur 75 (0,0))) (xW:xs.length+1<=c) (kv:c<=maxLen) (bl:o+c*3<=cur.size) (hx: ∀j u,(xs.flatMap zaa)[j]?=some u->cur[o+j]?=some u)
 (i:Nat) (hi:i<xs.length) (ai:vb≠g):
 Calls Tryz.prog 241 #[.slice (some ⟨g,o,none⟩) xs.length c, .int .i64 i, .slice (some ⟨vb,0,none⟩) 1 1] w (zfm w base (.slice (some ⟨g,o,none⟩) xs.length c) (xs.take i++p::xs.drop i)):=by
 have mixed:Tryz.prog.follows .mixedOrders=true:=Mco;have JO:(c:Int)<=9223372036854775807:=by unfold maxLen at kv;omega
 have DE:(xs.length:Int)+1<=(c:Int):=Mcn;have DF: ¬((c:Int)<(xs.length:Int)+1):=Mcn;have kE:IntKind.i64.wrap ((xs.length:Int)+1)=(xs.length:Int)+1:=Mc0;have ja: ¬((i:Int)=(xs.length:Int)):=Mcn;have jK:IntKind.i64.wrap ((i:Int)+1)=(i:Int)+1:=Mc0;have aS:(0:Int)<=(i:Int)+1:=Mcn;have aY:(0:Int)<=(i:Int):=Mcn;have fM:((i:Int)+1).toNat=i+1:=Mcn;have bn: ¬(c=i+1):=Mcn;have aC: ¬(c=i):=Mcn;have ay:(i:Int)<=(xs.length:Int)+1:=Mcn;have aq:(i:Int)<=(xs.length:Int):=Mcn;have KN: ∀lb cb,(callFunc 261 #[.slice (some ⟨vb,0,none⟩) 1 1, .slice (some ⟨g,o+(i+1)*3,none⟩) lb cb]).run Tryz.prog w= .ok (.value (.bool false)) w:=fun lb cb=>by
  rw[run_callFunc_extern Tryz.func261 Mco Mco Mco (e:=Extern.SlicesOverlaps.overlaps #[39,39] #[4]) Mco,
   Lib.run_overlaps_apart w 39 4 75 Tryz.underlying39 3 Tryz.sizeOf75 ⟨vb,0,none⟩ ⟨g,o+(i+1)*3,none⟩ 1 1 lb cb ai 75 75 3 cur.size (by simp[World.shape?,dB]) (by simp[World.shape?,hg]) Mcn (by simp[World.frozen?,dB]) (by simp[World.frozen?,dB])]
  rfl
 obtain⟨i0,z,fB,Ar,d9,As,ue⟩:=zdU.hi;have hsz:(Tryz.prog.info? 75).map (·.size)=some 3:=by rw[fB];simp[d9]
 have bu:((xs.drop i).flatMap zaa).length=(xs.length-i)*3:=Med;have bk: ∀j,j<c*3->(w.cell? ⟨g,o+j,none⟩).isSome=true:=fun j hj=>by simp[World.cell?,hg];omega
 have wG: ∀ty dc sc,(Builtin.copy_ #[39,39] ty #[.slice (some ⟨g,o+(i+1)*3,none⟩) (xs.length+1-(i+1)) dc, .slice (some ⟨g,o+i*3,none⟩) (xs.length+1-i) sc]).run Tryz.prog w.drew= .ok (goInt (xs.length-i:Nat)) (w.drew.setCells g (o+(i+1)*3) ((xs.drop i).flatMap zaa)):=fun ty dc sc=>
  zgz w.drew _ _ ty 75 3 g (o+(i+1)*3) _ dc ⟨g,o+i*3,none⟩ _ sc (xs.length-i) _ Tryz.underlying39 hsz Mdr bu
   (fun j v hj=>by
     rw[Addr.add_lit];have e:(xs.flatMap zaa)[i*3+j]?=some v:=by
      have e2:xs.flatMap zaa=(xs.take i).flatMap zaa++(xs.drop i).flatMap zaa:=Mdd;have e3:((xs.take i).flatMap zaa).length=i*3:=Mc5;rw[e2,List.getElem?_append_right Mcn,e3,Nat.add_sub_cancel_left];exact hj
     have:=hx _ _ e;show w.cell? _=_;simp only[World.cell?,hg,Nat.add_assoc]
     exact this)
   (fun j hj=>by rw[bu]at hj;show(w.cell? _).isSome=_;rw[Nat.add_assoc];exact bk _ Mcn) (fun j hj=>by show w.frozen? _=_;simp[World.frozen?,hg]) (zix _)
 obtain⟨cur1,k1,k2,k3,k4⟩:=zbO g ((xs.drop i).flatMap zaa) (o+(i+1)*3) w.drew cur hg (by rw[bu];omega);have bM:=zbH g ((xs.drop i).flatMap zaa) (o+(i+1)*3) w.drew;obtain⟨W1,aM⟩: ∃W1,W1=w.drew.setCells g (o+(i+1)*3) ((xs.drop i).flatMap zaa):=⟨_,rfl⟩
 rw[<-aM]at wG k1 bM;have yt:W1.heap[vb]?=some (.cells #[.string p.1, .int .i64 p.2.num, .int .i64 p.2.den] 75):=(bM.block vb (zab dB) (by simp[ai])).trans dB;have CL: ∀(W:World),W.heap=W1.heap-> ∀ty dc,(Builtin.copy_ #[39,39] ty #[.slice (some ⟨g,o+i*3,none⟩) (xs.length+1-i) dc, .slice (some ⟨vb,0,none⟩) 1 1]).run Tryz.prog W= .ok (goInt (1:Nat)) (W.setCells g (o+i*3) (zaa p)):=fun W m8 ty dc=>
  zgz W _ _ ty 75 3 g (o+i*3) _ dc ⟨vb,0,none⟩ 1 1 1 _ Tryz.underlying39 hsz Mdr (by rw[zao])
   (fun j v hj=>by rw[Addr.add_lit,Nat.zero_add];exact zmB (by rw[m8];exact yt) j v hj)
   (fun j hj=>by rw[zao]at hj;simp[World.cell?,m8,k1,k2];omega) (fun j hj=>by simp[World.frozen?,m8,k1]) (zce p)
 have HF:Hid (∀W:World,W.heap=W1.heap->W.os=W1.os->W.tape=W1.tape->W.output=W1.output->zfm w base (.slice (some ⟨g,o,none⟩) xs.length c) (xs.take i++p::xs.drop i) (.returned (.slice (some ⟨g,o,none⟩) (xs.length+1) c)) (W.setCells g (o+i*3) (zaa p))):=by
  intro W h1 h2 h3 h4;have sJ:w.grownBy W (some g):=⟨h2.trans bM.os,h3.trans bM.tape,h4.trans bM.output,by rw[h1];exact bM.size,fun k hk hn=>by rw[h1];exact bM.block k hk hn⟩
  obtain⟨cur2,l1,l2,l3,l4⟩:=zbO g (zaa p) (o+i*3) W cur1 (by rw[h1];exact k1) (by rw[zao,k2];omega);have ag:(xs.take i++p::xs.drop i).length=xs.length+1:=Mcr;refine⟨_,rfl, .inr ⟨g,o,c,cur2,by rw[ag],kr,l1,by rw[ag];exact xW,kv,by rw[l2,k2];exact bl,?_⟩,zbl sJ (zbH _ _ _ _),fun g' h=> .inl h⟩;refine ins_get (cur:=fun j=>cur2[o+j]?) Mcn (fun j u hj hu=> ?_) (fun j u hu=> ?_) (fun j u hu=> ?_)
  ·show cur2[o+j]?=_;rw[l3 _ (.inl Mcn),k3 _ (.inl Mcn)];exact hx j u hu
  ·have:=l4 j u hu;rw[show o+i*3+j=o+(i*3+j) by omega]at this;exact this
  ·show cur2[o+((i+1)*3+j)]?=_;rw[l3 _ (.inr Meb)];have:=k4 j u hu;rw[show o+(i+1)*3+j=o+((i+1)*3+j) by omega]at this;exact this
 clear aM k1 k2 k3 k4 bM bk hx yt bu hg dB;go_enter Tryz.func241,Tryz.ntmps241
 go_wp2_with (simp only[KN])
 go_region_law_o (go_loud(refine step_copy_runI rfl _ _ 39 39 rfl _ _ Md0 Md0 (wG _ _ _) ?_))
 go_wp2_with (at_builtin;refine wpList_copy_runI _ rfl _ _ 39 39 rfl _ _ rfl rfl (CL _ rfl _ _) ?_)
 go_ret
 exact HF.o _ rfl rfl rfl rfl
theorem zej (z:Array Value) (k:Nat):(Builtin.zeroCells z k).size=k*z.size:=by
 simp[Builtin.zeroCells]
theorem zmD (base:Nat) (xs:Parts) (p:ByteArray×Rat) (vb:Nat) (w:World) (hl:xs.length<=100000) (dB:w.heap[vb]?=some (.cells #[.string p.1, .int .i64 p.2.num, .int .i64 p.2.den] 75)) (aQ:base<=w.heap.size) (g o:Nat) (cur:Array Value) (hg:w.heap[g]?=some (.cells cur 75 (0,0))) (hx: ∀j u,(xs.flatMap zaa)[j]?=some u->cur[o+j]?=some u)
 (i:Nat) (hi:i<xs.length):
 Calls Tryz.prog 241 #[.slice (some ⟨g,o,none⟩) xs.length xs.length, .int .i64 i, .slice (some ⟨vb,0,none⟩) 1 1] w (zfm w base (.slice (some ⟨g,o,none⟩) xs.length xs.length) (xs.take i++p::xs.drop i)):=by
 have mixed:Tryz.prog.follows .mixedOrders=true:=Mco;have kE:IntKind.i64.wrap ((xs.length:Int)+1)=(xs.length:Int)+1:=Mc0;have dl:(xs.length:Int)<(xs.length:Int)+1:=Mcn;obtain⟨c,hc⟩: ∃c,xs.length=c:=⟨_,rfl⟩
 have bn: ¬(c=i+1)\/c=i+1:=Mcn;have ja: ¬((i:Int)=(xs.length:Int)):=Mcn;have jK:IntKind.i64.wrap ((i:Int)+1)=(i:Int)+1:=Mc0;have aS:(0:Int)<=(i:Int)+1:=Mcn;have aY:(0:Int)<=(i:Int):=Mcn;have fM:((i:Int)+1).toNat=i+1:=Mcn;have aq:(i:Int)<=(xs.length:Int):=Mcn;have aI:(i:Int)+1<=(xs.length:Int)+1:=Mcn;have hkw:IntKind.i64.wrap ((xs.length:Int)+1-(i:Int))=(xs.length:Int)+1-(i:Int):=Mc0;have fT:(xs.length:Int)+1-(i:Int)=((xs.length+1-i:Nat):Int):=Mcn;have Dg:i+(xs.length+1-i)=xs.length+1:=Mcn;obtain⟨i0,z,fB,Ar,d9,As,ue⟩:=zdU.hi;have hsz:(Tryz.prog.info? 75).map (·.size)=some 3:=by rw[fB];simp[d9]
 have cz:g<w.heap.size:=zab hg;have L6:vb<w.heap.size:=zab dB;have cK:((xs.take i).flatMap zaa).length=i*3:=Mc5;have cT:xs.flatMap zaa=(xs.take i).flatMap zaa++(xs.drop i).flatMap zaa:=Mdd;have ky:(Builtin.firstCells i0.size i (.slice (some ⟨g,o,none⟩) i xs.length)).run Tryz.prog w.drew= .ok ((xs.take i).flatMap zaa).toArray w.drew:=by
  rw[d9]
  exact run_firstCells_some w.drew 3 i ⟨g,o,none⟩ i xs.length _ cK (fun j v hj=>by
   rw[Addr.add_lit];have:=hx j v (by rw[cT,List.getElem?_append_left (List.getElem?_eq_some_iff.1 hj).1];exact hj);show w.cell? _=_;simp only[World.cell?,hg]
   exact this)
 have An: ∀ty,(Builtin.append_ #[39,3] ty #[.slice (some ⟨g,o,none⟩) i xs.length, .int .i64 ((xs.length:Int)+1-(i:Int))]).run Tryz.prog w=
  .ok (.slice (some ⟨w.heap.size,0,none⟩) (xs.length+1) (grownCap w (xs.length+1) xs.length 75)) (w.drew.alloc (.cells (((xs.take i).flatMap zaa).toArray++Builtin.zeroCells z.cells (xs.length+1-i)++Builtin.zeroCells z.cells (grownCap w (xs.length+1) xs.length 75-(xs.length+1))) 75)):=fun ty=>by
  have h:=Lib.run_append_grow_zeros w 39 3 ty 75 i0 _ .i64 .i64 Tryz.underlying39 Tryz.underlying3 fB Ar (some ⟨g,o,none⟩) i xs.length ((xs.take i).flatMap zaa) ky (xs.length+1-i) Mcn Mcn Mcn Mcn (by rw[As];omega) (by rw[As,Dg];exact growslice_fits Mcn Mcn);rw[Dg]at h;rw[fT];exact h
 obtain⟨G,hG⟩: ∃G,G=grownCap w (xs.length+1) xs.length 75:=⟨_,rfl⟩
 obtain⟨ROW,ol⟩: ∃ROW:Array Value,ROW=((xs.take i).flatMap zaa).toArray++Builtin.zeroCells z.cells (xs.length+1-i)++Builtin.zeroCells z.cells (G-(xs.length+1)):=⟨_,rfl⟩
 rw[<-hG,<-ol]at An;have J5:xs.length+1<=G:=by rw[hG];exact grownCap_ge w _ _ _
 have C0:G<=maxLen:=by
  rw[hG];exact grownCap_le_maxLen w (xs.length+1) xs.length 75 (by unfold maxLen;omega)
 have nv:ROW.size=G*3:=by
  rw[ol,Array.size_append,Array.size_append,zej,zej,ue];simp only[List.size_toArray,cK];omega
 have rm: ∀j u,((xs.take i).flatMap zaa)[j]?=some u->ROW[j]?=some u:=fun j u hj=>by
  have cX:=(List.getElem?_eq_some_iff.1 hj).1;rw[ol,Array.getElem?_append_left (by rw[Array.size_append,List.size_toArray];omega),Array.getElem?_append_left (by simpa using cX)];simpa using hj
 obtain⟨W1,aM⟩: ∃W1,W1=w.drew.alloc (.cells ROW 75):=⟨_,rfl⟩
 have zI:W1.heap[w.heap.size]?=some (.cells ROW 75):=by rw[aM];exact heap_alloc_new w.drew _
 have zM: ∀k,k<w.heap.size->W1.heap[k]?=w.heap[k]?:=fun k hk=>by rw[aM];exact Below.heap_alloc w.drew _ k hk
 have wH: ∀(W:World),W.heap=W1.heap-> ∀ty dc,(Builtin.copy_ #[39,39] ty #[.slice (some ⟨w.heap.size,i*3,none⟩) (xs.length+1-i) dc, .slice (some ⟨vb,0,none⟩) 1 1]).run Tryz.prog W= .ok (goInt (1:Nat)) (W.setCells w.heap.size (i*3) (zaa p)):=fun W m8 ty dc=>
  zgz W _ _ ty 75 3 w.heap.size (i*3) _ dc ⟨vb,0,none⟩ 1 1 1 _ Tryz.underlying39 hsz Mdr (by rw[zao])
   (fun j v hj=>by rw[Addr.add_lit,Nat.zero_add];exact zmB (by rw[m8,zM vb L6];exact dB) j v hj)
   (fun j hj=>by rw[zao]at hj;simp[World.cell?,m8,zI];omega) (fun j hj=>by simp[World.frozen?,m8,zI]) (zce p)
 obtain⟨cur1,k1,k2,k3,k4⟩:=zbO w.heap.size (zaa p) (i*3) W1 ROW zI (by rw[zao,nv];omega);have bM:=zbH w.heap.size (zaa p) (i*3) W1;have bu:((xs.drop i).flatMap zaa).length=(xs.length-i)*3:=Med;have FM:(W1.setCells w.heap.size (i*3) (zaa p)).heap[g]?=some (.cells cur 75):=by rw[bM.block g (by rw[aM];simp;omega) Mcr,zM g cz];exact hg
 have CM: ∀(W:World),W.heap=(W1.setCells w.heap.size (i*3) (zaa p)).heap-> ∀ty dc sc,(Builtin.copy_ #[39,39] ty #[.slice (some ⟨w.heap.size,(i+1)*3,none⟩) (xs.length-i) dc, .slice (some ⟨g,o+i*3,none⟩) (xs.length-i) sc]).run Tryz.prog W= .ok (goInt (xs.length-i:Nat)) (W.setCells w.heap.size ((i+1)*3) ((xs.drop i).flatMap zaa)):=fun W m8 ty dc sc=>
  zgz W _ _ ty 75 3 w.heap.size ((i+1)*3) _ dc ⟨g,o+i*3,none⟩ _ sc (xs.length-i) _ Tryz.underlying39 hsz Mdr bu
   (fun j v hj=>by
     rw[Addr.add_lit];have e:(xs.flatMap zaa)[i*3+j]?=some v:=by
      rw[cT,List.getElem?_append_right Mcn,cK,Nat.add_sub_cancel_left];exact hj
     have:=hx _ _ e;simp only[World.cell?,m8,FM,Nat.add_assoc]
     exact this)
   (fun j hj=>by rw[bu]at hj;simp[World.cell?,m8,k1,k2,nv];omega) (fun j hj=>by simp[World.frozen?,m8,k1]) (zix _)
 have HF:Hid (∀W:World,W.heap=(W1.setCells w.heap.size (i*3) (zaa p)).heap->W.os=w.os->W.tape=w.tape->W.output=w.output->zfm w base (.slice (some ⟨g,o,none⟩) xs.length xs.length) (xs.take i++p::xs.drop i) (.returned (.slice (some ⟨w.heap.size,0,none⟩) (xs.length+1) G)) (W.setCells w.heap.size ((i+1)*3) ((xs.drop i).flatMap zaa))):=by
  intro W h1 h2 h3 h4;have sJ:w.grownBy W (some g):=⟨h2,h3,h4,by rw[h1];exact Nat.le_trans (by rw[aM];simp) bM.size,fun k hk hn=>by rw[h1,bM.block k (by rw[aM];simp;omega) Mcr,zM k hk]⟩
  obtain⟨cur2,l1,l2,l3,l4⟩:=zbO w.heap.size ((xs.drop i).flatMap zaa) ((i+1)*3) W cur1 (by rw[h1];exact k1) (by rw[bu,k2,nv];omega);have ag:(xs.take i++p::xs.drop i).length=xs.length+1:=Mcr;have cy:=zbH w.heap.size ((xs.drop i).flatMap zaa) ((i+1)*3) W;refine⟨_,rfl, .inr ⟨w.heap.size,0,G,cur2,by rw[ag],aQ,l1,by rw[ag];exact J5,C0,by rw[l2,k2,nv];omega,?_⟩,?_,fun g' h=> .inr (by simp only[zaA,Option.some.injEq]at h;omega)⟩
  ·refine ins_get (cur:=fun j=>cur2[0+j]?) Mcn (fun j u hj hu=> ?_) (fun j u hu=> ?_) (fun j u hu=> ?_)
   ·show cur2[0+j]?=_;rw[Nat.zero_add,l3 _ (.inl Mcn),k3 _ (.inl Mcn)];rw[cT,List.getElem?_append_left Mcn]at hu;exact rm j u hu
   ·show cur2[0+(i*3+j)]?=_;have Di:j<3:=by have:=(List.getElem?_eq_some_iff.1 hu).1;rwa [zao]at this
    rw[Nat.zero_add,l3 _ (.inl Mcn)];exact k4 j u hu
   ·show cur2[0+((i+1)*3+j)]?=_;rw[Nat.zero_add];exact l4 j u hu
  ·exact⟨cy.os.trans h2,cy.tape.trans h3,cy.output.trans h4,Nat.le_trans sJ.size cy.size,fun k hk hn=>(cy.block k (Nat.lt_of_lt_of_le hk sJ.size) Mcr).trans (sJ.block k hk hn)⟩
 subst aM;have hGi: ¬(G=i):=Mcn;have J3: ¬(G=i+1):=Mcn;have tG: ¬(xs.length=i):=Mcn;have hGc:(xs.length:Int)+1<=(G:Int):=Mcn;have J2:(i:Int)<=(xs.length:Int)+1:=Mcn;clear fT Dg ky ol hG nv rm cT cK bu FM bM k1 k2 k3 k4 zI zM hx hc bn;go_enter Tryz.func241,Tryz.ntmps241
 go_upto_region 10 with(at_builtin;refine Lib.wpList_append_run _ rfl _ _ _ _ rfl _ _ rfl rfl _ _ (An _) ?_)
 have FE: ∀ty dc,_:=fun ty dc=>wH ((w.alloc (.cells ROW 75)).drew) rfl ty dc
 clear wH;go_wp2_with fail
 go_region_law_o (go_loud(refine step_copy_runI rfl _ _ 39 39 rfl _ _ Md0 Md0 (CM (((w.alloc (.cells ROW 75)).drew.setCells w.heap.size (i*3) (zaa p)).drew) rfl _ _ _) ?_))
 go_wp2_with fail
 go_ret
 exact HF.o _ rfl rfl rfl rfl
theorem zow {P:Program} (w:World) (t e ty:TypeId) (z:Value) (ht:P.underlying t=some (.slice e)) (hv: ∀w,(zeroValue e).run P w= .ok z w) (h1: ∀u∈z.cells,u.oneCell'=true) (hp:0<z.cells.size) (b o n c:Nat) (hn:0<n)
 (hc: ∀j,j<n*z.cells.size->(w.cell? ⟨b,o+j,none⟩).isSome=true) (hf: ∀j,j<n*z.cells.size->w.frozen? ⟨b,o+j,none⟩=false):
 (Builtin.clear_ #[t] ty #[.slice (some ⟨b,o,none⟩) n c]).run P w= .ok (.tuple #[]) (w.setCells b o (Builtin.zeroCells z.cells n).toList):=by
 have hl:(Builtin.zeroCells z.cells n).toList.length=n*z.cells.size:=by simp[Builtin.zeroCells]
 have aj:=run_storeCells_cells (P:=P) b o (Builtin.zeroCells z.cells n).toList 0 w (by rw[hl];simpa using hc) (by rw[hl];simpa using hf) (by
  intro v jJ;refine h1 v ?_;obtain⟨i,hi,rfl⟩:=List.getElem_of_mem jJ;simp[Builtin.zeroCells]at hi⊢
  first|done|exact Array.getElem_mem _|simp[Nat.mod_lt _ hp])
 simp only[Nat.add_zero]at aj;obtain⟨m,rfl⟩: ∃m,n=m+1:=⟨n-1,by omega⟩
 simp[Builtin.clear_,run_underlying ht,hv,aj]
theorem zeS {P:Program} {ops:Array Oper} {o:Oper} {a:Act} {w:World} {K:Act->World->Prop} {Q:Exit->Act->World->Prop} {E:Prop}
 (hg:o.guard=none) (d x:Operand) (dT sT:TypeId) (KM:o.op=Op.call {callee:=Callee.builtin Builtin.append,args:= #[d,x],argTypes:= #[dT,sT]})
 (v u:Value) (hd:a.eval d=v) (hx:a.eval x=u) {v':Value} {w':World} (hr:(Builtin.append_ #[dT,sT] o.type #[v,u]).run P w= .ok v' w') (hK:K (a.put o.dst v') w'):
 if Region.wanted o (yielded ops a.tmps)=true then Oper.wp P o a w K Q else E:=by
 have hw:Region.wanted o (yielded ops a.tmps)=true:=by simp[Region.wanted,hg]
 rw[if_pos hw];unfold Oper.wp;simp[execOp,KM,resolve,invoke,builtin,hd,hx,hr,Result.andThen];exact hK
theorem del_any (base:Nat) (xs:Parts) (w:World) (hl:xs.length<=100000) (v:Value) (ae:OwnS w base 75 3 zaa v xs) (i:Nat) (hi:i<xs.length):
 Calls Tryz.prog 240 #[v, .int .i64 i, .int .i64 (i+1:Nat)] w (zfm w base v (xs.take i++xs.drop (i+1))):=by
 rcases ae with⟨rfl,rfl⟩|⟨g,o,c,cur,rfl,kr,hg,hc,kv,bl,hx⟩
 ·simp at hi
 have mixed:Tryz.prog.follows .mixedOrders=true:=Mco;obtain⟨i0,z,fB,Ar,d9,As,ue⟩:=zdU.hi;have hsz:(Tryz.prog.info? 75).map (·.size)=some 3:=by rw[fB];simp[d9]
 have bu:((xs.drop (i+1)).flatMap zaa).length=(xs.length-(i+1))*3:=Med;have bk: ∀j,j<c*3->(w.cell? ⟨g,o+j,none⟩).isSome=true:=fun j hj=>by simp[World.cell?,hg];omega
 have cK:((xs.take (i+1)).flatMap zaa).length=(i+1)*3:=Mc5;have cT:xs.flatMap zaa=(xs.take (i+1)).flatMap zaa++(xs.drop (i+1)).flatMap zaa:=Mdd;have ny: ∀(A:Addr),(i+1<xs.length->A=⟨g,o+(i+1)*3,none⟩)-> ∀ty cc,(Builtin.append_ #[39,39] ty #[.slice (some ⟨g,o,none⟩) i c, .slice (some A) (xs.length-(i+1)) cc]).run Tryz.prog w.drew= .ok (.slice (some ⟨g,o,none⟩) (i+(xs.length-(i+1))) c) (w.drew.setCells g (o+i*3) ((xs.drop (i+1)).flatMap zaa)):=fun A hA ty cc=>by
  have:=run_append_room_cells (P:=Tryz.prog) w.drew 39 ty 75 i0 Tryz.underlying39 fB g o i c A (xs.length-(i+1)) cc ((xs.drop (i+1)).flatMap zaa) (by rw[bu,d9])
   (fun j u hj=>by
     have cX:=(List.getElem?_eq_some_iff.1 hj).1;rw[hA Mcn,Addr.add_lit];have e:(xs.flatMap zaa)[(i+1)*3+j]?=some u:=by rw[cT,List.getElem?_append_right Mcn,cK,Nat.add_sub_cancel_left];exact hj
     have:=hx _ _ e;show w.cell? _=_;simp only[World.cell?,hg,Nat.add_assoc]
     exact this) (zix _) Mcn (fun j hj=>by rw[d9];rw[bu]at hj;show(w.cell? _).isSome=_;rw[Nat.add_assoc];exact bk _ Mcn) (fun j hj=>by show w.frozen? _=_;simp[World.frozen?,hg])
  rw[d9]at this;exact this
 have aO:i+(xs.length-(i+1))=xs.length-1:=Mcn;rw[aO]at ny;obtain⟨cur1,k1,k2,k3,k4⟩:=zbO g ((xs.drop (i+1)).flatMap zaa) (o+i*3) w.drew cur hg (by rw[bu];omega);have bM:=zbH g ((xs.drop (i+1)).flatMap zaa) (o+i*3) w.drew;obtain⟨W1,aM⟩: ∃W1,W1=w.drew.setCells g (o+i*3) ((xs.drop (i+1)).flatMap zaa):=⟨_,rfl⟩
 rw[<-aM]at ny k1 bM;have CJ: ∀ty cc,(Builtin.clear_ #[39] ty #[.slice (some ⟨g,o+(xs.length-1)*3,none⟩) (xs.length-(xs.length-1)) cc]).run Tryz.prog W1= .ok (.tuple #[]) (W1.setCells g (o+(xs.length-1)*3) (Builtin.zeroCells (Value.agg #[.string ⟨#[]⟩, .int .i64 0, .int .i64 0]).cells (xs.length-(xs.length-1))).toList):=fun ty cc=>
  zow W1 39 75 ty (.agg #[.string ⟨#[]⟩, .int .i64 0, .int .i64 0]) Tryz.underlying39 Tryz.zeroValue75 (by simp[Value.cells,Value.oneCell']) (by simp[Value.cells]) g _ _ cc Mcn
   (fun j hj=>by simp[Value.cells]at hj;simp[World.cell?,k1,k2];omega) (fun j hj=>by simp[World.frozen?,k1])
 have HF:Hid (zfm w base (.slice (some ⟨g,o,none⟩) xs.length c) (xs.take i++xs.drop (i+1)) (.returned (.slice (some ⟨g,o,none⟩) (xs.length-1) c)) (W1.setCells g (o+(xs.length-1)*3) (Builtin.zeroCells (Value.agg #[.string ⟨#[]⟩, .int .i64 0, .int .i64 0]).cells (xs.length-(xs.length-1))).toList)):=by
  have sJ:w.grownBy W1 (some g):=⟨bM.os,bM.tape,bM.output,bM.size,bM.block⟩
  have oW:(Builtin.zeroCells (Value.agg #[.string ⟨#[]⟩, .int .i64 0, .int .i64 0]).cells (xs.length-(xs.length-1))).toList.length=3:=by
   rw[Array.length_toList,zej];simp[Value.cells];omega
  obtain⟨cur2,l1,l2,l3,l4⟩:=zbO g _ (o+(xs.length-1)*3) W1 cur1 k1 (by rw[oW,k2];omega);have ag:(xs.take i++xs.drop (i+1)).length=xs.length-1:=Mcr;refine⟨_,rfl, .inr ⟨g,o,c,cur2,by rw[ag],kr,l1,by rw[ag];omega,kv,by rw[l2,k2];exact bl,fun j u hj=> ?_⟩,zbl sJ (zbH _ _ _ _),fun g' h=> .inl h⟩;have cX:=(List.getElem?_eq_some_iff.1 hj).1;rw[zex,ag]at cX;rw[l3 _ (.inl Mcn)];have KX:((xs.take i).flatMap zaa).length=i*3:=Mc5;rw[List.flatMap_append]at hj;by_cases ck:j<i*3
  ·rw[List.getElem?_append_left Mcn]at hj;rw[k3 _ (.inl Mcn)];refine hx j u ?_;exact MaI
  ·rw[List.getElem?_append_right Mcn,KX]at hj;have:=k4 _ u hj;rwa [show o+i*3+(j-i*3)=o+j by omega]at this
 have aS:(i:Int)+1<=(xs.length:Int):=Mcn;have aY:(0:Int)<=(i:Int):=Mcn;have bn: ¬((i:Int)=(i:Int)+1):=Mcn;have ay:(xs.length:Int)<=(c:Int):=Mcn;have aC:(i:Int)<=(c:Int):=Mcn;have aq: ¬(c=xs.length-1):=Mcn;have aI:((xs.length-1:Nat):Int)<=(xs.length:Int):=Mcn;have bj:(0:Int)<=(i:Int)+1:=Mcn;have fM:((i:Int)+1).toNat=i+1:=Mcn;clear aM k1 k2 k3 k4 bM bk hx bu cK cT hg aO;go_enter Tryz.func240,Tryz.ntmps240
 by_cases hlast:c=i+1
 ·clear ay aC aq aI aS hl;generalize hm:xs.length=m at*;obtain rfl:m=i+1:=by omega
  subst hlast;clear hm hc hi;have cZ:(i:Int)<=(i:Int)+1:=Mcn;simp only[Nat.add_sub_cancel,Nat.add_sub_cancel_left,Nat.sub_self]at ny CJ HF;go_wp2_with fail
  go_region_law_o (go_loud(refine zeS rfl _ _ 39 39 rfl _ (.slice (some ⟨g,o,none⟩) 0 0) Mdc (by simp[Act.eval,Act.put]) (ny _ (fun h=>absurd h Mcn) _ _) ?_))
  go_wp2_with fail
  go_ret
  exact HF.o
 ·go_wp2_with fail
  go_region_law_o (go_loud(refine zeS rfl _ _ 39 39 rfl _ _ Mdc Mdc (ny _ (fun _=>rfl) _ _) ?_))
  go_wp2_with fail
  go_ret
  exact HF.o
theorem ins_any (base:Nat) (xs:Parts) (p:ByteArray×Rat) (vb:Nat) (w:World) (hl:xs.length<=100000) (dB:w.heap[vb]?=some (.cells #[.string p.1, .int .i64 p.2.num, .int .i64 p.2.den] 75)) (aQ:base<=w.heap.size) (v:Value)
 (ae:OwnS w base 75 3 zaa v xs) (ai:zaA v≠some vb) (i:Nat) (hi:i<=xs.length):
 Calls Tryz.prog 241 #[v, .int .i64 i, .slice (some ⟨vb,0,none⟩) 1 1] w (zfm w base v (xs.take i++p::xs.drop i)):=by
 by_cases he:i=xs.length
 ·subst he;rw[List.take_of_length_le (Nat.le_refl _),List.drop_eq_nil_of_le (Nat.le_refl _)];exact zov base xs p vb w hl dB aQ v ae
 ·have aa:i<xs.length:=Mcn;rcases ae with⟨rfl,rfl⟩|⟨g,o,c,cur,rfl,kr,hg,hc,kv,bl,hx⟩
  ·simp at aa
  ·by_cases hr:xs.length+1<=c
   ·exact zmC base xs p vb w hl dB aQ g o c cur kr hg hr kv bl hx i aa (fun e=>ai (by rw[e];rfl))
   ·have e:c=xs.length:=Mcn;subst e;exact zmD base xs p vb w hl dB aQ g o cur hg hx i aa
theorem zhJ {W:World} {base:Nat} {e t:TypeId} {size:Nat} {f:ByteArray×Rat->List Value} {v:Value} {xs:Parts} {T:Nat} {cs:Array Value} {fr:Nat×Nat} (h:OwnS W base e size f v xs) (hT:W.heap[T]?=some (.cells cs t fr)) (ai:t≠e):zaA v≠some T:=by
 exact M4
def zku (w:World) (base T:Nat) (pl:ByteArray) (cl fr en:Int) (dv v:Value) (ys:Parts) (e:Ending) (w':World):Prop:=
 e= .returned (.tuple #[])/\ ∃v',zbt w' T pl cl fr en v' dv/\OwnS w' base 75 3 zaa v' ys/\Below base w w'/\ ∀k,k<w.heap.size->k≠T->zaA v≠some k->w'.heap[k]?=w.heap[k]?
theorem numZ (q:Rat):(q==0)=(q.num==0):=by
 rw[Bool.eq_iff_iff,beq_iff_eq,beq_iff_eq,Rat.num_eq_zero]
theorem set_at {P Q:Parts} {nm:ByteArray} {q:Rat} (hP: ∀p∈P,zbn p.1 nm=true) (hQ: ∀p∈Q,zbn p.1 nm=false):
 setP (P++Q) nm q=if q.num==0 then(if zdR Q nm then P++Q.drop 1 else P++Q)else if zdR Q nm then P++(nm,q)::Q.drop 1 else P++(nm,q)::Q:=by
 rw[zet hP,<-numZ];cases Q with
 |nil=>simp[setP,zdR];split<;>simp
 |cons b Q=>
  rw[setP,hQ b Mcq];simp only[zdR,Bool.false_eq_true,if_false,List.drop_succ_cons,List.drop_zero];split<;>split<;>simp_all
theorem zg0 {W:World} {T:Nat} {pl:ByteArray} {cl fr en:Int} {v dv:Value} (h:zbt W T pl cl fr en v dv) (v':Value):zbt (W.setCell ⟨T,4,none⟩ v') T pl cl fr en v' dv:=by
 unfold zbt at*;have:=Joins.block_setCell (i:=4) h v';simpa using this
theorem own_set2 {W:World} {base g o n c:Nat} {P Q:Parts} {b:ByteArray×Rat} {q:Rat} (h:OwnS W base 75 3 zaa (.slice (some ⟨g,o,none⟩) n c) (P++b::Q)):
 OwnS ((W.setCell ⟨g,o+P.length*3+1,none⟩ (.int .i64 q.num)).setCell ⟨g,o+P.length*3+1+1,none⟩ (.int .i64 q.den)) base 75 3 zaa (.slice (some ⟨g,o,none⟩) n c) (P++(b.1,q)::Q):=by
 rcases h with⟨h,_⟩|⟨g',o',c',cur,h,hb,hg,hc,hm,hs,hx⟩
 ·cases h
 ·simp only[Value.slice.injEq,Option.some.injEq,Addr.mk.injEq,and_true]at h;obtain⟨⟨rfl,rfl⟩,rfl,rfl⟩:=h;refine .inr ⟨g,o,c,(cur.setIfInBounds (o+P.length*3+1) (.int .i64 q.num)).setIfInBounds (o+P.length*3+1+1) (.int .i64 q.den),by simp,hb,heap_setCell_same _ g _ _ _ _ (heap_setCell_same W g _ cur _ _ hg),by simpa using hc,hm,by simpa using hs,fun j u hj=> ?_⟩;have hl:(P.flatMap zaa).length=P.length*3:=zex P;have cX:=(List.getElem?_eq_some_iff.1 hj).1;rw[zex]at cX;simp only[List.length_append,List.length_cons]at cX hc;rw[List.flatMap_append,List.flatMap_cons]at hj;by_cases h1:j<P.length*3
  ·rw[List.getElem?_append_left Mcn]at hj;rw[Array.getElem?_setIfInBounds_ne Mcn,Array.getElem?_setIfInBounds_ne Mcn];refine hx j u ?_;rw[List.flatMap_append,List.getElem?_append_left Mcn];exact hj
  ·rw[List.getElem?_append_right Mcn,hl]at hj;by_cases h2:j-P.length*3<3
   ·rw[List.getElem?_append_left (by rw[zao];exact h2)]at hj;obtain h3|h3|h3:j-P.length*3=0\/j-P.length*3=1\/j-P.length*3=2:=by omega
    ·rw[h3]at hj;rw[Array.getElem?_setIfInBounds_ne Mcn,Array.getElem?_setIfInBounds_ne Mcn];refine hx j u ?_;rw[List.flatMap_append,List.flatMap_cons,List.getElem?_append_right Mcn,hl,List.getElem?_append_left (by rw[zao];exact h2),h3];exact hj
    ·rw[h3]at hj;rw[Array.getElem?_setIfInBounds_ne Mcn,show o+j=o+P.length*3+1 by omega,Array.getElem?_setIfInBounds_self_of_lt Mcn];simpa[zaa]using hj
    ·rw[h3]at hj;rw[show o+j=o+P.length*3+1+1 by omega,Array.getElem?_setIfInBounds_self_of_lt Mcr];simpa[zaa]using hj
   ·rw[List.getElem?_append_right Meb,zao]at hj;rw[Array.getElem?_setIfInBounds_ne Mcn,Array.getElem?_setIfInBounds_ne Mcn];refine hx j u ?_;rw[List.flatMap_append,List.flatMap_cons,List.getElem?_append_right Mcn,hl,List.getElem?_append_right Meb,zao];exact hj
theorem ziy (base T:Nat) (xs:Parts) (v:Value) (pl:ByteArray) (cl fr en:Int) (dv:Value) (nm:ByteArray) (q:Rat) (w:World) (hT:zbt w T pl cl fr en v dv) (rJ:base<=T) (ae:OwnS w base 75 3 zaa v xs) (hA:AscP xs) (hl:xs.length<=90000):
 Calls Tryz.prog 195 #[.pointer (some ⟨T,0,none⟩), .string nm, .agg #[.int .i64 q.num, .int .i64 q.den]] w (zku w base T pl cl fr en dv v (setP xs nm q)):=by
 unfold zbt at hT;have aa:T<w.heap.size:=zab hT;have zQ:base<=w.heap.size:=Mcn;have zG:zaA v≠some T:=zhJ ae hT Mcp;have fA:=ae.ge;obtain⟨A,c,Gz,hS,hc⟩:=ae.sl zao;have iO:w.cell? ⟨T,4,none⟩=some v:=by simp[World.cell?,hT]
 have JZ:w.frozen? ⟨T,4,none⟩=false:=by simp[World.frozen?,hT]
 have ai:T≠w.heap.size:=Mcn;have HO:=zHi ae;have HS:=zHi hS;have HA:=zHi hA;have HV:=zHi Gz;have HT:=zHi hT;clear hS hA ae Gz hT;go_enter Tryz.func195,Tryz.ntmps195
 go_upto_region 3 with(go_at_call 157;refine(znN xs A c T nm _ (by rw[<-HV.o];simp[go_sem,aa,iO]) Mcn HA.o (HS.o.keep (n:=w.heap.size) Bw)).mono ?_;rintro e wq ⟨P,Q,bw,hP,hQ,rfl,z,rfl⟩;subst bw)
 have iE:=set_at (q:=q) hP hQ;have g8:=zHi iE;clear iE hP hQ;generalize hh:zdR Q nm=ok at*;have HH:=zHi hh;clear hh;obtain⟨W,hW⟩: ∃W,W=(w.alloc (.cells #[.int .i64 q.num, .int .i64 q.den] 71)).ext z:=⟨_,rfl⟩
 have eU:Below w.heap.size w W:=by rw[hW];exact Bw
 have q0:W.cell? ⟨w.heap.size,0,none⟩=some (.int .i64 q.num):=by rw[hW];simp[go_sem]
 have q1:W.cell? ⟨w.heap.size,1,none⟩=some (.int .i64 q.den):=by rw[hW];simp[go_sem]
 have rv:zbt W T pl cl fr en v dv:=(eU.block T aa).trans HT.o;have hWs:w.heap.size<W.heap.size:=by rw[hW];simp[zae];omega
 have vL:=zHi (HO.o.keep (n:=w.heap.size) eU);have vX:T<W.heap.size:=zab rv;rw[<-hW];clear hW;have c4:W.cell? ⟨T,4,none⟩=some v:=by unfold zbt at rv;simp[World.cell?,rv]
 have f4:W.frozen? ⟨T,4,none⟩=false:=by unfold zbt at rv;simp[World.frozen?,rv]
 have qM:=zHi rv;clear rv iO JZ ai;have fg:P.length<=(P++Q).length:=Mcq;have HB:Hid (∀w1,W.grownBy w1 (zaA v)->Below base w w1/\w1.heap[T]?=W.heap[T]?):=fun w1 h2=>⟨Below.grown (eU.mono zQ) h2 (Nat.le_trans zQ eU.size) (fun j hj=>(fA j hj).1),h2.block T vX (fun e=>zG e.symm)⟩
 have uy:Hid (∀w1 v' ys,W.grownBy w1 (zaA v)->OwnS w1 base 75 3 zaa v' ys->(∀g,zaA v'=some g->zaA v=some g\/W.heap.size<=g)->setP (P++Q) nm q=ys->zku w base T pl cl fr en dv v (setP (P++Q) nm q) (.returned (.tuple #[])) (w1.setCell ⟨T,4,none⟩ v')):=fun w1 v' ys h2 h1 h3 hs=>by
  obtain⟨aS,tY⟩:=HB.o w1 h2;have jJ:zaA v'≠some T:=fun e=>by
   rcases h3 T e with h|h
   ·exact zG h
   ·omega
  rw[hs];refine⟨rfl,v',zg0 (tY.trans qM.o) v',h1.grown (zaz _ _ _ _) (.inr jJ),zaM aS rJ _,fun k hk Ae oD=> ?_⟩;have FX:k<W.heap.size:=Nat.lt_of_lt_of_le hk eU.size;rw[(zaz w1 T 4 v').block k (Nat.lt_of_lt_of_le FX h2.size) (fun e=>Ae MdM),h2.block k FX (fun e=>oD e.symm),eU.block k hk]
 cases hq:(q.num==0)
 ·have HQ:=zHi hq;have gN: ¬q.num=0:=by simpa using hq
  clear hq;cases ok
  ·
   have uW:Hid (setP (P++Q) nm q=(P++Q).take P.length++(nm,q)::(P++Q).drop P.length):=by
    show _=_;rw[g8.o,HQ.o,List.take_left,List.drop_left];simp
   have eE:Hid (((P++Q).take P.length++(nm,q)::(P++Q).drop P.length).length=P.length+(Q.length+1)):=by show _=_;simp
   go_upto_region 2 with fail
   go_region_law (go_simp;go_at_call 241
                  refine(ins_any base (P++Q) (nm,q) W.heap.size _ Mcn ?q1 ?q2 v ?q3 ?q4 P.length Mcn).mono ?_
                  case q1=>(first|exact zar _ _ _ rfl|(refine J_drew ?_;exact zar _ _ _ rfl))
                  case q2=>simp;omega
                  case q3=>exact vL.o.keep (n:=W.heap.size) Bw
                  case q4=>(intro e;have:=(fA _ e).2;omega)
                  rintro e w1 ⟨v',rfl,h1,h2,h3⟩;obtain⟨A',c',jJ,_,_⟩:=h1.sl zao;rw[eE.o]at jJ;subst jJ;have t1:=(h2.block T Mcr (fun e=>zG e.symm)).trans (show _=some (Obj.cells #[.string pl, .int .i64 cl, .int .i64 fr, .int .i64 en,v,dv] 121 (0,0)) from(Below.heap_alloc _ _ _ vX).trans qM.o);have k1:w1.cell? ⟨T,4,none⟩=some v:=by simp[World.cell?,t1]
                  have k2:w1.frozen? ⟨T,4,none⟩=false:=by simp[World.frozen?,t1])
   all_goals go_wp2_with fail
   all_goals go_end0
   all_goals exact uy.o w1 _ _ (zbl (World.grownBy_alloc W _ _) ⟨h2.os,h2.tape,h2.output,h2.size,h2.block⟩) h1 (fun g hg=>(h3 g hg).imp id (fun h=>by simp at h;omega)) uW.o
  ·
   cases Q with
   |nil=>have:=HH.o;simp[zdR]at this
   |cons b Q=>
    have gX:b.1=nm:=za2.1 HH.o;rcases vL.o with⟨_,h'⟩|⟨g,o,cap,cur,hv,hb,hg,bm,kv,bl,hx⟩
    ·simp at h'
    subst hv;have hl:(P.flatMap zaa).length=P.length*3:=zex P;have gW: ∀j u,(zaa b)[j]?=some u->cur[o+P.length*3+j]?=some u:=fun j u hj=>by
     have:=hx (P.length*3+j) u (by rw[List.flatMap_append,List.flatMap_cons,List.getElem?_append_right Mcn,hl,Nat.add_sub_cancel_left,List.getElem?_append_left (List.getElem?_eq_some_iff.1 hj).1];exact hj);rwa [<-Nat.add_assoc]at this
    have k1:W.cell? ⟨g,o+P.length*3+1,none⟩=some (.int .i64 b.2.num):=by simp only[World.cell?,hg];exact gW 1 _ rfl
    have k2:W.cell? ⟨g,o+P.length*3+1+1,none⟩=some (.int .i64 b.2.den):=by simp only[World.cell?,hg];exact gW 2 _ rfl
    have k3:W.frozen? ⟨g,o+P.length*3+1,none⟩=false:=by simp[World.frozen?,hg]
    have k4:W.frozen? ⟨g,o+P.length*3+1+1,none⟩=false:=by simp[World.frozen?,hg]
    have FN:T≠g:=fun e=>zG (by rw[e];rfl)
    have iQ:g≠w.heap.size:=by have:=(fA g rfl).2;omega
    have tM:(P.length:Int)<((P++b::Q).length:Int):=Mcr;have fB:(0:Int)<=(P.length:Int):=Mcn;have uW:Hid (setP (P++b::Q) nm q=P++(b.1,q)::Q):=by
     show _=_;rw[g8.o,HQ.o,gX];simp
    clear hx gW hg;go_upto_region 7 with fail
    go_region
    all_goals go_wp2_with fail
    all_goals go_end0
    all_goals exact⟨rfl,_,(J_ne FN (J_ne FN qM.o):_),by rw[uW.o];exact own_set2 vL.o,by have hBb:=eU.mono zQ;exact Bw,fun k hk Ae oD=>((zbl (zaz W g _ _) (zaz _ g _ _)).block k (Nat.lt_of_lt_of_le hk eU.size) (fun e=>oD (by rw[e];rfl))).trans (eU.block k hk)⟩
 ·have HQ:=zHi hq;have gN:q.num=0:=by simpa using hq
  clear hq;cases ok
  ·
   go_wp2_with fail
   go_end0
   exact⟨rfl,v,qM.o,by rw[g8.o,HQ.o];exact vL.o,eU.mono zQ,fun k hk _ _=>eU.block k hk⟩
  ·
   have bE:P.length<(P++Q).length:=by
    cases Q with
    |nil=>have:=HH.o;simp[zdR]at this
    |cons b Q=>simp
   have uW:Hid (setP (P++Q) nm q=(P++Q).take P.length++(P++Q).drop (P.length+1)):=by
    show _=_;rw[g8.o,HQ.o,List.take_left,List.drop_append];simp
   have eE:Hid (((P++Q).take P.length++(P++Q).drop (P.length+1)).length=P.length+(Q.length-1)):=by show _=_;simp
   have wJ:=del_any base (P++Q) W Mcn v vL.o P.length bE;rw[show((P.length+1:Nat):Int)=(P.length:Int)+1 by omega]at wJ;have jK:IntKind.i64.wrap ((P.length:Int)+1)=(P.length:Int)+1:=Mc0;go_wp2_with (go_at_call 240;go_loud(refine wJ.mono ?_;rintro e w1 ⟨v',rfl,h1,h2,h3⟩;obtain⟨A',c',jJ,_,_⟩:=h1.sl zao;rw[eE.o]at jJ;subst jJ;have t1:w1.heap[T]?=some (Obj.cells #[.string pl, .int .i64 cl, .int .i64 fr, .int .i64 en,v,dv] 121 (0,0)):=(HB.o w1 h2).2.trans qM.o;have k1:w1.cell? ⟨T,4,none⟩=some v:=(by simp[World.cell?,t1]);have k2:w1.frozen? ⟨T,4,none⟩=false:=(by simp[World.frozen?,t1])))
   go_end0
   exact uy.o w1 _ _ h2 h1 h3 uW.o
end Go.Proofs.YtjhbofabmpfniaaGreatDoor
namespace Go.Proofs.YtjhbofabmpfniaaGreatDoor
open Go.RowKit
attribute [local go_sem] World.cell?_alloc_mark zae za3 zam za6 zas zat zau zav zaw zax zay
theorem zjE {V:Type} (ev:V->Value) (s:ByteArray): ∀(es:List MapEntry) (m:List (ByteArray×V)),es.map (fun e=>(e.key,e.val))=m.map (fun p=>(ekS p.1,ev p.2))-> ∀i,
 Instr.findNow .string (.string s) es i=some ((locate eqS s m i).map fun p=>(p.1,ev p.2))
 | [],[],_,_=>rfl
 | [],_::_,h,_=>by simp at h
 |_::_,[],h,_=>by simp at h
 |e::es,p::m,h,i=>by
  simp only[List.map_cons,List.cons.injEq,Prod.mk.injEq]at h;obtain⟨⟨hk,hv⟩,ht⟩:=h;unfold Instr.findNow locate;rw[hk,hv,ekS,Instr.sameNow,beq_toListBytes];cases hq:eqS s p.1
  ·rw[eqS]at hq;rw[hq];simpa using zjE ev s es m ht (i+1)
  ·rw[eqS]at hq;rw[hq];rfl
theorem zkv {V:Type} {t et:TypeId} {ev:V->Value} {z:V} (ht:Tryz.prog.underlying t=some (.map 9 et)) (hz: ∀w,(zeroValue et).run Tryz.prog w= .ok (ev z) w):MapTy Tryz.prog t 9 et ekS ev z eqS where
 ht:=ht
 hz:=hz
 hck:=zok
 hfind:=fun k es m h w=>by
  simp[Instr.findKey,run_underlying Tryz.underlying9,ekS,zjE ev k es m h 0]
 hsame:=fun k k' h=>by
  rw[ekS,ekS,zgQ,beq_toListBytes];rw[eqS]at h;rw[eq_of_beq h];exact beq_self_eq_true _
def nilS:Value:= .slice none 0 0
theorem zox:MapTy Tryz.prog 133 9 4 ekS evB false eqS:=zkv Tryz.underlying133 (fun w=>by kernel_rfl)
theorem zmE:MapTy Tryz.prog 134 9 33 ekS (fun v:Value=>v) nilS eqS:=zkv Tryz.underlying134 (fun w=>by kernel_rfl)
theorem mapSP:MapTy Tryz.prog 135 9 39 ekS (fun v:Value=>v) nilS eqS:=zkv Tryz.underlying135 (fun w=>by kernel_rfl)
theorem mapSF:MapTy Tryz.prog 193 9 71 ekS (fun v:Value=>v) (.agg #[.int .i64 0, .int .i64 0]) eqS:=zkv Tryz.underlying193 (fun w=>by kernel_rfl)
def ekP (p:ByteArray×ByteArray):Value:= .agg #[.string p.1, .string p.2]
def eqP (a b:ByteArray×ByteArray):Bool:=eqS a.1 b.1&&eqS a.2 b.2
theorem info_str: ∃i,Tryz.prog.info? 9=some i:=⟨_,(by kernel_rfl:Tryz.prog.info? 9=some (Tryz.prog.info? 9).get!)⟩
theorem cells_str:Tryz.prog.cellsOf 9=1:=by kernel_rfl
theorem zlr (d:Nat) (a c a' c':ByteArray) (w:World):(Op.equalIn (d+2) 163 (.agg #[.string a, .string c]) (.agg #[.string a', .string c'])).run Tryz.prog w= .ok (eqS a a'&&eqS c c') w:=by
 obtain⟨i,hi⟩:=info_str;rw[run_equalIn_array w (d+1) _ _ Tryz.underlying163 hi,cells_str];have hr:List.range 2=[0,1]:=rfl;rw[hr];simp only[Op.eqItems,Sem.run_bind,Nat.zero_mul,Nat.one_mul];have hp: ∀(v:Array Value) (j:Nat) (x:ByteArray),v[j]?=some (.string x)-> ∀W,(part 9 v j).run Tryz.prog W= .ok (.string x) W:=fun v j x hv W=>by
  simp[part,isAgg,run_underlying Tryz.underlying9,hv]
 rw[hp _ 0 a rfl,Result.andThen_ok,hp _ 0 a' rfl,Result.andThen_ok,run_equalIn_string w d 9 a a' Tryz.underlying9,Result.andThen_ok];cases h1:(a.toList==a'.toList)
 ·simp[eqS,h1]
 ·simp only[Bool.not_true,Bool.false_eq_true,if_false,Sem.run_bind];rw[hp _ 1 c rfl,Result.andThen_ok,hp _ 1 c' rfl,Result.andThen_ok,run_equalIn_string w d 9 c c' Tryz.underlying9,Result.andThen_ok];cases h2:(c.toList==c'.toList)<;>simp[eqS,h1,h2]
theorem equal_p (a c a' c':ByteArray) (w:World):(Op.equal 163 (.agg #[.string a, .string c]) (.agg #[.string a', .string c'])).run Tryz.prog w= .ok (eqS a a'&&eqS c c') w:=zlr 9998 a c a' c' w
theorem findNow_p (v:Value) (e:MapEntry) (es:List MapEntry) (n:Nat) (t:TypeId) (i:Nat):Instr.findNow (.array n t) v (e::es) i=none:=by
 unfold Instr.findNow;cases v<;>simp[Instr.sameNow]
theorem zhv (p:ByteArray×ByteArray) (w:World): ∀(es:List MapEntry) (m:List ((ByteArray×ByteArray)×Bool)),es.map (fun e=>(e.key,e.val))=m.map (fun p=>(ekP p.1,evB p.2))-> ∀i,
 (Instr.findAsking 163 (ekP p) es i).run Tryz.prog w= .ok ((locate eqP p m i).map fun p=>(p.1,evB p.2)) w
 | [],[],_,_=>by simp[Instr.findAsking,locate]
 | [],_::_,h,_=>by simp at h
 |_::_,[],h,_=>by simp at h
 |e::es,q::m,h,i=>by
  simp only[List.map_cons,List.cons.injEq,Prod.mk.injEq]at h;obtain⟨⟨hk,hv⟩,ht⟩:=h;unfold Instr.findAsking locate;have h1:=equal_p p.1 p.2 q.1.1 q.1.2 w;have h2:=zhv p w es m ht (i+1);rw[hk,hv];simp only[ekP]at h1 h2⊢;simp only[Sem.run_bind,h1,Result.andThen_ok];change Sem.run _ (if(eqP p q.1)=true then _ else _) w=_;cases hq:eqP p q.1
  ·simpa using h2
  ·simp
theorem zoy (e:Bool) (p:ByteArray×ByteArray) (w:World):(Instr.checkKey e 10000 163 (ekP p)).run Tryz.prog w= .ok () w:=by
 obtain⟨a,c⟩:=p;cases e<;>kernel_rfl
theorem zoz (a c a' c':ByteArray) (h1:a=a') (h2:c=c'):Instr.sameBits 10000 (.agg #[.string a, .string c]) (.agg #[.string a', .string c'])=true:=by
 subst h1 h2;have h2: ∀n,Instr.sameBits (n+1) (.agg #[.string a, .string c]) (.agg #[.string a, .string c])=true:=fun n=>by simp[Instr.sameBits,zgQ,beq_toListBytes]
 exact h2 9999
theorem eqS_eq {a b:ByteArray} (h:eqS a b=true):a=b:=za2.1 h
theorem mapPB:MapTy Tryz.prog 136 163 4 ekP evB false eqP where
 ht:=Tryz.underlying136
 hz:=fun w=>by kernel_rfl
 hck:=zoy
 hfind:=fun k es m h w=>by
  match es,m,h with
  | [],[],_=>simp[Instr.findKey,run_underlying Tryz.underlying163,Instr.findNow,locate]
  | [],_::_,h=>simp at h
  |e::es,m,h=>
   simp only[Instr.findKey,Sem.run_bind,run_underlying Tryz.underlying163,Result.andThen_ok,findNow_p];exact zhv k w (e::es) m h 0
 hsame:=fun k k' h=>by
  obtain⟨a,c⟩:=k;obtain⟨a',c'⟩:=k';simp only[eqP,Bool.and_eq_true]at h;exact zoz a' c' a c (eqS_eq h.1).symm (eqS_eq h.2).symm
end Go.Proofs.YtjhbofabmpfniaaGreatDoor
namespace Go.Proofs.YtjhbofabmpfniaaGreatDoor
open Go.RowKit
def sC (s:ByteArray):List Value:=[.string s]
theorem zaD (s:ByteArray):(sC s).length=1:=rfl
theorem zbK (s:ByteArray): ∀u∈sC s,u.oneCell'=true:=by simp[sC,Value.oneCell']
theorem zbi (p:ByteArray×ByteArray):(zaT p).length=2:=rfl
theorem zdC (p:ByteArray×ByteArray): ∀u∈zaT p,u.oneCell'=true:=by simp[zaT,Value.oneCell']
def ptrC (T:Nat):List Value:=[.pointer (some ⟨T,0,none⟩)]
theorem zda (T:Nat):(ptrC T).length=1:=rfl
theorem znO (T:Nat): ∀u∈ptrC T,u.oneCell'=true:=by simp[ptrC,Value.oneCell']
theorem zbL:ElTy Tryz.prog 33 9 1 16:=zd6 (z:= .string ⟨#[]⟩) Mco Mco rfl Mcp
theorem zg1:ElTy Tryz.prog 32 163 2 32:=zd6 (z:= .agg #[.string ⟨#[]⟩, .string ⟨#[]⟩]) Mco Mco rfl Mcp
theorem elTomb:ElTy Tryz.prog 139 118 1 8:=zd6 (z:= .pointer none) Mco Mco rfl Mcp
def Ro {α:Type} (W:World) (e:TypeId) (f:α->List Value) (A:Option Addr) (xs:List α):Prop:=
 0<xs.length-> ∃b off cur fr,A=some ⟨b,off,none⟩/\W.heap[b]?=some (.cells cur e fr)/\ ∀j u,(xs.flatMap f)[j]?=some u->cur[off+j]?=some u
section
variable {α:Type} {W W':World} {e:TypeId} {size base:Nat} {f:α->List Value} {A:Option Addr} {xs:List α} {v:Value}
theorem Ro.sl (ag: ∀x,(f x).length=size) (h:Ro W e f A xs):Sl W size f A xs:=fun hl=>by
 obtain⟨b,off,cur,fr,hA,hb,hx⟩:=h hl;refine⟨b,off,hA,(Array.getElem?_eq_some_iff.1 hb).1,fun k x hk j u hu=> ?_⟩;have:=hx (k*size+j) u (zeY f size ag xs k x hk j u hu);simp only[World.cell?,hb,Nat.add_assoc];exact this
theorem Ro.same (h:Ro W e f A xs) (hk: ∀b cur fr,W.heap[b]?=some (.cells cur e fr)->(∀off,A=some ⟨b,off,none⟩->True)->W'.heap[b]?=W.heap[b]?):Ro W' e f A xs:=fun hl=>by
 obtain⟨b,off,cur,fr,hA,hb,hx⟩:=h hl;exact⟨b,off,cur,fr,hA,(hk b cur fr hb fun _ _=>trivial).trans hb,hx⟩
theorem Ro.keep {n:Nat} (h:Ro W e f A xs) (hB:Below n W W') (hn:W.heap.size<=n:=by first|exact Nat.le_refl _|omega):Ro W' e f A xs:=
 h.same fun b cur fr hb _=>hB.block b (Nat.lt_of_lt_of_le (Array.getElem?_eq_some_iff.1 hb).1 hn)
theorem Ro.nil:Ro W e f A ([]:List α):=fun h=>absurd h Mcq
theorem OwnS.ro (h:OwnS W base e size f v xs): ∃A c,v= .slice A xs.length c/\xs.length<=c/\Ro W e f A xs:=by
 rcases h with⟨rfl,rfl⟩|⟨g,o,c,cur,rfl,_,hg,hc,_,_,hx⟩
 ·exact⟨none,0,rfl,Nat.le_refl _,Ro.nil⟩
 ·exact⟨_,c,rfl,hc,fun _=>⟨g,o,cur,_,rfl,hg,hx⟩⟩
theorem OwnS.kept {g:Nat} {cs:Array Value} {t:TypeId} {fr:Nat×Nat} (h:OwnS W base e size f v xs) (hg:W.grownBy W' (some g)) (hx:W.heap[g]?=some (.cells cs t fr)) (ai:t≠e):OwnS W' base e size f v xs:=
 h.grown hg (by
  rcases h with⟨rfl,_⟩|⟨g',o,c,cur,rfl,_,eu,_⟩
  ·exact .inl rfl
  ·refine .inr fun e'=> ?_
   simp only[zaA,Option.some.injEq]at e';subst e';rw[eu]at hx;simp only[Option.some.injEq,Obj.cells.injEq]at hx
   exact ai hx.2.1.symm)
theorem OwnS.keptM {g:Nat} {es:Array MapEntry} {c:Nat} (h:OwnS W base e size f v xs) (hg:W.grownBy W' (some g)) (hx:W.heap[g]?=some (.map es c)):OwnS W' base e size f v xs:=
 h.grown hg (by
  rcases h with⟨rfl,_⟩|⟨g',o,c,cur,rfl,_,eu,_⟩
  ·exact .inl rfl
  ·refine .inr fun e'=> ?_
   simp only[zaA,Option.some.injEq]at e';subst e';rw[eu]at hx
   simp at hx)
theorem Ro.kept {g:Nat} {cs:Array Value} {t:TypeId} {fr:Nat×Nat} (h:Ro W e f A xs) (hg:W.grownBy W' (some g)) (hx:W.heap[g]?=some (.cells cs t fr)) (ai:t≠e):Ro W' e f A xs:=
 h.same fun b cur fr' hb _=>hg.block b (Array.getElem?_eq_some_iff.1 hb).1 (fun e'=>by
  simp only[Option.some.injEq]at e';subst e';rw[hb]at hx;simp only[Option.some.injEq,Obj.cells.injEq]at hx
  exact ai hx.2.1.symm)
theorem Ro.keptM {g:Nat} {es:Array MapEntry} {c:Nat} (h:Ro W e f A xs) (hg:W.grownBy W' (some g)) (hx:W.heap[g]?=some (.map es c)):Ro W' e f A xs:=
 h.same fun b cur fr' hb _=>hg.block b (Array.getElem?_eq_some_iff.1 hb).1 (fun e'=>by
  simp only[Option.some.injEq]at e';subst e';rw[hb]at hx
  simp at hx)
end
theorem MapS.keptC {W W':World} {b g:Nat} {K V:Type} {ek:K->Value} {ev:V->Value} {m:List (K×V)} {cs:Array Value} {t:TypeId} {fr:Nat×Nat} (h:MapS W b ek ev m) (hg:W.grownBy W' (some g)) (hx:W.heap[g]?=some (.cells cs t fr)):MapS W' b ek ev m:=
 h.grown hg (fun e=>by
  simp only[Option.some.injEq]at e;subst e;obtain⟨es,c,h1,_⟩:=h;rw[h1]at hx
  simp at hx)
def RowIs (W:World) (base:Nat) (m:List (ByteArray×Value)) (n:ByteArray) (xs:List ByteArray):Prop:=
 (mget eqS n m=none/\xs=[])\/ ∃v,mget eqS n m=some v/\OwnS W base 9 1 sC v xs
def WillIs (W:World) (m:List (ByteArray×Value)) (n:ByteArray) (xs:Parts):Prop:=
 (mget eqS n m=none/\xs=[])\/ ∃A c,mget eqS n m=some (.slice A xs.length c)/\Ro W 75 zaa A xs
def zaX (m:List (ByteArray×Value)):List Nat:=m.filterMap fun e=>zaA e.2
structure PplAt (base:Nat) (W:World) (B:List Nat) (d c p wl r:Nat) (mv:Value) (s:St):Prop where
 nd:[d,c,p,wl,r].Nodup
 ge:base<=d/\base<=c/\base<=p/\base<=wl/\base<=r
 dead:MapS W d ekS evB (s.dead.map fun n=>(n,true))
 rows: ∃mc mp,MapS W c ekS (fun v:Value=>v) mc/\MapS W p ekS (fun v:Value=>v) mp/\(∀n,RowIs W base mc n (zai s n))/\(∀n,RowIs W base mp n (zbR s n))/\B=zaX (mc++mp)/\(B.Nodup/\(mc.map (·.1)).Nodup/\(mp.map (·.1)).Nodup)
 marr:OwnS W base 163 2 zaT mv s.marriages
 wills: ∃m,MapS W wl ekS (fun v:Value=>v) m/\ ∀n,WillIs W m n (zbs s n)
 ren:MapS W r ekP evB (s.renounce.map fun x=>(x,true))
def TombAt (W:World) (base:Nat) (B:List Nat) (T:Nat) (g:Grave):Prop:=
 ∃H hc D dc fr,zbt W T g.place g.cls fr g.fin (.slice H g.holders.length hc) (.slice D g.died.length dc)/\base<=T/\g.holders.length<=hc/\g.died.length<=dc/\Ro W 75 zaa H g.holders/\Ro W 9 sC D g.died/\(0<g.died.length-> ∀a,D=some a->a.block∉B)
structure TombsAt (base:Nat) (W:World) (B:List Nat) (tv:Value) (ps:List Nat) (gs:List Grave):Prop where
 own:OwnS W base 118 1 ptrC tv ps
 len:ps.length=gs.length
 nd:ps.Nodup
 all: ∀(i T:Nat) (g:Grave),ps[i]?=some T->gs[i]?=some g->TombAt W base B T g
def WldC (W:World) (b d c p wl r:Nat) (mv tv:Value) (last count:Int):Prop:=W.heap[b]?=some (.cells #[.map (some d), .map (some c), .map (some p),mv, .map (some wl), .map (some r),tv, .int .i64 last, .int .i64 count] 141)
def WldAt (base:Nat) (W:World) (b:Nat) (s:St) (last count:Int):Prop:=
 ∃B d c p wl r mv tv ps,base<=b/\WldC W b d c p wl r mv tv last count/\PplAt base W B d c p wl r mv s/\TombsAt base W B tv ps s.graves
def PeoAt (base:Nat) (W:World) (b:Nat) (s:St):Prop:= ∃B d c p wl r mv tv la co,WldC W b d c p wl r mv tv la co/\PplAt base W B d c p wl r mv s
section
variable {base n:Nat} {W W':World} {B:List Nat} {d c p wl r:Nat} {mv tv:Value} {s:St} {m:List (ByteArray×Value)} {nm:ByteArray}
theorem RowIs.keep {xs:List ByteArray} (h:RowIs W base m nm xs) (hB:Below n W W') (hn:W.heap.size<=n:=by first|exact Nat.le_refl _|omega):RowIs W' base m nm xs:=by
 rcases h with h|⟨v,h1,h2⟩
 ·exact .inl h
 ·exact .inr ⟨v,h1,h2.keep hB hn⟩
theorem WillIs.keep {xs:Parts} (h:WillIs W m nm xs) (hB:Below n W W') (hn:W.heap.size<=n:=by first|exact Nat.le_refl _|omega):WillIs W' m nm xs:=by
 rcases h with h|⟨A,c,h1,h2⟩
 ·exact .inl h
 ·exact .inr ⟨A,c,h1,h2.keep hB hn⟩
theorem PplAt.keep (h:PplAt base W B d c p wl r mv s) (hB:Below n W W') (hn:W.heap.size<=n:=by first|exact Nat.le_refl _|omega):PplAt base W' B d c p wl r mv s:=by
 obtain⟨mc,mp,k1,k2,k3,k4,k5,k6⟩:=h.rows;obtain⟨m,k7,k8⟩:=h.wills;exact⟨h.nd,h.ge,h.dead.below hB hn,⟨mc,mp,k1.below hB hn,k2.below hB hn,fun x=>(k3 x).keep hB hn,fun x=>(k4 x).keep hB hn,k5,k6⟩,h.marr.keep hB hn,⟨m,k7.below hB hn,fun x=>(k8 x).keep hB hn⟩,h.ren.below hB hn⟩
theorem TombAt.keep {T:Nat} {g:Grave} (h:TombAt W base B T g) (hB:Below n W W') (hn:W.heap.size<=n:=by first|exact Nat.le_refl _|omega):TombAt W' base B T g:=by
 obtain⟨H,hc,D,dc,fr,h1,h2,h3,h4,h5,h6,h7⟩:=h;exact⟨H,hc,D,dc,fr,(hB.block T (Nat.lt_of_lt_of_le (zab h1) hn)).trans h1,h2,h3,h4,h5.keep hB hn,h6.keep hB hn,h7⟩
theorem TombsAt.keep {ps:List Nat} {gs:List Grave} (h:TombsAt base W B tv ps gs) (hB:Below n W W') (hn:W.heap.size<=n:=by first|exact Nat.le_refl _|omega):TombsAt base W' B tv ps gs:=
 ⟨h.own.keep hB hn,h.len,h.nd,fun i T g h1 h2=>(h.all i T g h1 h2).keep hB hn⟩
theorem WldC.keep {b:Nat} {la co:Int} (h:WldC W b d c p wl r mv tv la co) (hB:Below n W W') (hn:W.heap.size<=n:=by first|exact Nat.le_refl _|omega):WldC W' b d c p wl r mv tv la co:=
 (hB.block b (Nat.lt_of_lt_of_le (zab h) hn)).trans h
theorem WldAt.keep {b:Nat} {la co:Int} (h:WldAt base W b s la co) (hB:Below n W W') (hn:W.heap.size<=n:=by first|exact Nat.le_refl _|omega):WldAt base W' b s la co:=by
 obtain⟨B,d,c,p,wl,r,mv,tv,ps,h1,h2,h3,h4⟩:=h;exact⟨B,d,c,p,wl,r,mv,tv,ps,h1,h2.keep hB hn,h3.keep hB hn,h4.keep hB hn⟩
theorem PeoAt.keep {b:Nat} (h:PeoAt base W b s) (hB:Below n W W') (hn:W.heap.size<=n:=by first|exact Nat.le_refl _|omega):PeoAt base W' b s:=by
 obtain⟨B,d,c,p,wl,r,mv,tv,la,co,h1,h2⟩:=h;exact⟨B,d,c,p,wl,r,mv,tv,la,co,h1.keep hB hn,h2.keep hB hn⟩
theorem WldAt.peo {b:Nat} {la co:Int} (h:WldAt base W b s la co):PeoAt base W b s:=by
 obtain⟨B,d,c,p,wl,r,mv,tv,ps,h1,h2,h3,h4⟩:=h;exact⟨B,d,c,p,wl,r,mv,tv,la,co,h2,h3⟩
theorem WldAt.lt {b:Nat} {la co:Int} (h:WldAt base W b s la co):b<W.heap.size/\base<=b:=by
 obtain⟨B,d,c,p,wl,r,mv,tv,ps,h1,h2,h3,h4⟩:=h;exact⟨zab h2,h1⟩
end
theorem PplAt.kept {base:Nat} {W W':World} {B:List Nat} {d c p wl r g:Nat} {mv:Value} {s:St} {cs:Array Value} {t:TypeId} {fr:Nat×Nat} (h:PplAt base W B d c p wl r mv s) (hg:W.grownBy W' (some g)) (hx:W.heap[g]?=some (.cells cs t fr))
 (h1:t≠9) (h2:t≠163) (h3:t≠75):PplAt base W' B d c p wl r mv s:=by
 obtain⟨mc,mp,k1,k2,k3,k4,k5,k6⟩:=h.rows;obtain⟨m,k7,k8⟩:=h.wills;have bh: ∀ {m:List (ByteArray×Value)} {nm:ByteArray} {xs:List ByteArray},RowIs W base m nm xs->RowIs W' base m nm xs:=fun h=>by
  rcases h with h|⟨v,pi,IU⟩
  ·exact .inl h
  ·exact .inr ⟨v,pi,IU.kept hg hx h1⟩
 refine⟨h.nd,h.ge,h.dead.keptC hg hx,⟨mc,mp,k1.keptC hg hx,k2.keptC hg hx,fun x=>bh (k3 x),fun x=>bh (k4 x),k5,k6⟩,h.marr.kept hg hx h2,⟨m,k7.keptC hg hx,fun x=> ?_⟩,h.ren.keptC hg hx⟩;rcases k8 x with h'|⟨A,c,e1,e2⟩
 ·exact .inl h'
 ·exact .inr ⟨A,c,e1,e2.kept hg hx h3⟩
end Go.Proofs.YtjhbofabmpfniaaGreatDoor
namespace Go.Proofs.YtjhbofabmpfniaaGreatDoor
open Go.RowKit Go.Shelf
attribute [local go_sem] World.cell?_alloc_mark zae za3 zam za6 zas zat zau zav zaw zax zay
attribute [local go_sem] zaj zac
theorem zhK (n:ByteArray): ∀l:List ByteArray,(mget eqS n (l.map fun x=>(x,true))).getD false=l.any (zaf n)
 | []=>rfl
 |x::l=>by
  rw[List.map_cons,mget,List.any_cons];show(if eqS n x=true then some true else _).getD false=_;have e:eqS n x=zaf n x:=rfl;rw[e];cases h:zaf n x
  ·simpa using zhK n l
  ·rfl
theorem zmF (k:ByteArray×ByteArray): ∀l:List (ByteArray×ByteArray),(mget eqP k (l.map fun x=>(x,true))).getD false=l.any fun r=>zaf r.1 k.1&&zaf r.2 k.2
 | []=>rfl
 |x::l=>by
  rw[List.map_cons,mget,List.any_cons];have e1: ∀a b:ByteArray,zaf a b=zaf b a:=fun a b=>by
   rw[Bool.eq_iff_iff,za2,za2];exact⟨Eq.symm,Eq.symm⟩
  have e:eqP k x=(zaf x.1 k.1&&zaf x.2 k.2):=by rw[e1 x.1,e1 x.2];rfl
  show(if eqP k x=true then some true else _).getD false=_;rw[e];cases h:(zaf x.1 k.1&&zaf x.2 k.2)
  ·simpa using zmF k l
  ·rfl
theorem zdb {base:Nat} {W:World} {B:List Nat} {d c p wl r:Nat} {mv:Value} {s:St} (h:PplAt base W B d c p wl r mv s) (n:ByteArray):
 (Instr.lookup 133 (.map (some d)) (.string n) false).run Tryz.prog W= .ok (.bool (zaK s n)) W:=by
 have:=zb3 zox h.dead.at n;rw[zhK]at this;exact this
theorem znP {base:Nat} {W:World} {B:List Nat} {d c p wl r:Nat} {mv:Value} {s:St} (h:PplAt base W B d c p wl r mv s) (a b:ByteArray):
 (Instr.lookup 136 (.map (some r)) (.agg #[.string a, .string b]) false).run Tryz.prog W= .ok (.bool (s.renounce.any fun x=>zaf x.1 a&&zaf x.2 b)) W:=by
 have:=zb3 mapPB h.ren.at (a,b);rw[zmF]at this;exact this
theorem PplAt.drewN {base:Nat} {W:World} {B:List Nat} {d c p wl r:Nat} {mv:Value} {s:St} (h:PplAt base W B d c p wl r mv s) (q:Nat):PplAt base (W.drewN q) B d c p wl r mv s:=h.keep (n:=W.heap.size) ⟨rfl,rfl,rfl,Nat.le_refl _,fun _ _=>rfl⟩
theorem zls (base b X:Nat) (s:St) (q:RPart) (w:World) (hW:PeoAt base w b s) (hX:X<w.heap.size) (hc:w.cell? ⟨X,0,none⟩=some (.pointer (some ⟨b,0,none⟩))):
 Calls Tryz.prog 239 #[.agg #[.string q.name, .int .i64 q.num, .int .i64 q.den], .pointer (some ⟨X,0,none⟩)] w (Ret w (.bool (zaK s q.name))):=by
 obtain⟨B,d,c,p,wl,r,mv,tv,la,co,h1,h2⟩:=hW;have hb:=zab h1;unfold WldC at h1;have c0:w.cell? ⟨b,0,none⟩=some (.map (some d)):=Meq;have ew: ∀o q',(Instr.lookup 133 (.map (some d)) (.string q.name) false).run Tryz.prog ((w.alloc o).drewN q')= .ok (.bool (zaK s q.name)) ((w.alloc o).drewN q'):=fun o q'=>zdb ((h2.keep (n:=w.heap.size) (zad (Below.refl _ _) o)).drewN q') _
 have hXn:X≠w.heap.size:=Mcn;have gX:b≠w.heap.size:=Mcn;clear h1 h2;go_enter Tryz.func239,Tryz.ntmps239
 go_wp2_with fail
 go_quiet (fail)
 exact MaG
theorem zkw (base b X:Nat) (s:St) (xs:List RPart) (w:World) (hW:PeoAt base w b s) (hX:X<w.heap.size) (hc:w.cell? ⟨X,0,none⟩=some (.pointer (some ⟨b,0,none⟩))):
 zff 239 #[.pointer (some ⟨X,0,none⟩)] (fun x=> .agg (RPart.cells x).toArray) (fun q=>zaK s q.name) xs w:=fun x _ W hB=>by
 refine(zls base b X s x W (hW.keep hB) (Nat.lt_of_lt_of_le hX hB.size) ((hB.cell (p:=⟨X,0,none⟩) hX).trans hc)).mono ?_;rintro e wq ⟨rfl,z,rfl⟩;exact⟨rfl,hB.trans ((zaq W z).mono hB.size)⟩
theorem ziz (base b:Nat) (s:St) (xs:List RPart) (A:Option Addr) (n c:Nat) (w:World) (hn:n=xs.length) (hl:xs.length<=100000) (hW:PeoAt base w b s) (hS:Sl w 3 RPart.cells A xs):
 Calls Tryz.prog 193 #[.pointer (some ⟨b,0,none⟩), .slice A n c] w (Ret w (.bool (ze3 s xs))):=by
 have eg: ∀args w,(callFunc 239 args).run Tryz.prog w= .ok (.enter 239 args) w:=enters_of Tryz.func239 Mco rfl;have HS:=zHi hS;have HW:=zHi hW;have HN:=zHi hn;clear hS hW hn;go_enter Tryz.func193,Tryz.ntmps193
 go_wp2_with (go_at_call 135
              refine(zcP _ _ eg (fun q=>zaK s q.name) _ n _ xs _ HN.o hl (HS.o.keep (n:=w.heap.size) Bw) (zkw base b _ s xs _ (HW.o.keep (n:=w.heap.size) Bw) Mcq McQ)).mono ?_
              rintro e wq ⟨rfl,z,rfl⟩)
 go_ret
 exact Ret.of rfl Bw
theorem zlt (xs:List ByteArray) (x:ByteArray) (A:Option Addr) (n c:Nat) (w:World) (hn:n=xs.length) (hl:xs.length<=100000) (hS:Sl w 1 sC A xs):
 Calls Tryz.prog 106 #[.slice A n c, .string x] w (Ret0 w (.bool (xs.any (zaf x)))):=by
 subst hn;by_cases h0:xs.length=0
 ·have hx:xs=[]:=List.eq_nil_of_length_eq_zero h0;subst hx;have bC:=AnyE.slices_Contains_empty coStr A c (.string x) w;change Calls Tryz.prog 106 _ _ _ at bC;exact Mbi
 ·obtain⟨b,off,rfl,hb,hc⟩:=hS Mcn;haveI:Inhabited ByteArray:=⟨⟨#[]⟩⟩
  have bC:=AnyE.slices_Contains coStr Value.string (fun a b:ByteArray=>a.toList==b.toList) (EqlAt.string _ _) b off xs.length c xs x w (Nat.le_refl _) Mcn (fun j hj=>by
   rw[getElem!_pos xs j hj];have:=hc j _ (List.getElem?_eq_getElem hj) 0 _ rfl
   simpa using this)
  rw[List.take_of_length_le (Nat.le_refl _)]at bC;change Calls Tryz.prog 106 _ _ _ at bC;exact Mbi
theorem eqlPair:EqlAt Tryz.prog 163 (fun x:ByteArray×ByteArray=> .agg (zaT x).toArray) eqP:=by
 refine⟨fun x y w=> ?_,GuardAt.agg _ Mco⟩;show(binOp .eql 163 (.agg #[.string x.1, .string x.2]) (.agg #[.string y.1, .string y.2])).run Tryz.prog w=_;rw[run_eql_struct,zlr 9998 x.1 x.2 y.1 y.2 w];rfl
theorem ixPairNil (A:Option Addr) (c:Nat) (a b:ByteArray) (w:World):Calls Tryz.prog 226 #[.slice A 0 c, .agg #[.string a, .string b]] w (Ret w (.int .i64 (-1))):=by
 go_enter Tryz.func226,Tryz.ntmps226
 go_wp2_with fail
 go_loopw [5,8] (fun _ i wr=>i= .int .i64 0/\ ∃z,wr=w.ext z) (fun _ _ _=>0)
 case atStart=>exact⟨rfl,zba Bw⟩
 case round=>
  obtain⟨rfl,z,rfl⟩:=hrel;exact MaG
theorem coPairNil (A:Option Addr) (c:Nat) (a b:ByteArray) (w:World):Calls Tryz.prog 161 #[.slice A 0 c, .agg #[.string a, .string b]] w (Ret w (.bool false)):=by
 go_enter Tryz.func161,Tryz.ntmps161
 go_wp2_with (go_at_call 226;refine(ixPairNil _ _ _ _ _).mono ?_;rintro e wq ⟨rfl,z,rfl⟩)
 go_ret
 exact Ret.of rfl Bw
theorem zo0 (xs:List (ByteArray×ByteArray)) (a b:ByteArray) (A:Option Addr) (n c:Nat) (w:World) (hn:n=xs.length) (hl:xs.length<=100000) (hS:Sl w 2 zaT A xs):
 Calls Tryz.prog 161 #[.slice A n c, .agg #[.string a, .string b]] w (Ret w (.bool (xs.any fun y=>eqP (a,b) y))):=by
 subst hn;by_cases h0:xs.length=0
 ·have hx:xs=[]:=List.eq_nil_of_length_eq_zero h0;subst hx;refine(coPairNil _ _ _ _ _).mono ?_;rintro e wq ⟨rfl,z,rfl⟩;exact Ret.of rfl Bw
 ·obtain⟨b',off,rfl,hb,hc⟩:=hS Mcn;haveI:Inhabited (ByteArray×ByteArray):=⟨(⟨#[]⟩,⟨#[]⟩)⟩
  have bC:=AnyQ.slices_Contains coPair 2 Tryz.isAgg163 Tryz.sizeOf163 zaT (fun _=>rfl) eqP eqlPair b' off xs.length c xs (a,b) w (Nat.le_refl _) Mcn (fun j hj i v hi=>by
   rw[getElem!_pos xs j hj]at hi
   exact hc j _ (List.getElem?_eq_getElem hj) i v hi)
  rw[List.take_of_length_le (Nat.le_refl _)]at bC;change Calls Tryz.prog 161 _ _ _ at bC;exact Mbf
def zhL (s:St) (a b:ByteArray):Bool:=s.marriages.any (fun y=>eqP (a,b) y)||s.marriages.any fun y=>eqP (b,a) y
theorem zi0 (base b:Nat) (s:St) (x y:ByteArray) (w:World) (hW:PeoAt base w b s) (hl:s.marriages.length<=100000):
 Calls Tryz.prog 104 #[.pointer (some ⟨b,0,none⟩), .string x, .string y] w (Ret w (.bool (zhL s x y))):=by
 obtain⟨B,d,c,p,wl,r,mv,tv,la,co,h1,h2⟩:=hW;obtain⟨A,cc,rfl,hS,hc⟩:=h2.marr.sl zbi;have hb:=zab h1;unfold WldC at h1;have c3:w.cell? ⟨b,3,none⟩=some (.slice A s.marriages.length cc):=Meq;have HS:=zHi hS;clear h1 h2 hS;go_enter Tryz.func104,Tryz.ntmps104
 go_wp2_with (go_at_call 161;refine(zo0 s.marriages _ _ A _ cc _ rfl hl (HS.o.keep (n:=w.heap.size) Bw)).mono ?_;intro e wq hq;rcases Ret.bools hq with⟨zq,rfl,⟨hb,rfl⟩|⟨hb,rfl⟩⟩<;>clear hq)
 all_goals go_ret
 all_goals exact Ret.of (zaQ (by simp[zhL, *])) Bw
end Go.Proofs.YtjhbofabmpfniaaGreatDoor
