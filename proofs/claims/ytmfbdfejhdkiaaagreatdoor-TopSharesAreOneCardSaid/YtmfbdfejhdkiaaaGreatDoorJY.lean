/- Walk of chapter 5's spouse: the marriages from the last one back. -/
import Derived.Test.YtmfbdfejhdkiaaaGreatDoorJ7
import Derived.Test.YtmfbdfejhdkiaaaGreatDoorJT
import Derived.Shelf.Spec.SlicesInsertGrow
set_option linter.all false
set_option maxRecDepth 100000
set_option maxHeartbeats 4000000
namespace Go.Proofs.YtmfbdfejhdkiaaaGreatDoor
open Go.RowKit
attribute [local go_sem] World.cell?_alloc_mark zae za4 zao za8 zav zaw zax zay zaz za0 za1
section
open Go.Shelf
attribute [local go_sem] zap zac
theorem zlk(a b:ByteArray)(w:World):Calls Tryz.prog 145 #[.string a,.string b] w (Ret0 w (.int .i64 (cmpN a b))):=by
 have ba:=Any.strings_Compare cmpStr a b w;change Calls Tryz.prog 145 _ _ _ at ba;exact Mbj
theorem zm7(p:ByteArray×Rat)(s:ByteArray)(w:World):Calls Tryz.prog 163 #[.agg #[.string p.1,.int .i64 p.2.num,.int .i64 p.2.den],.string s] w (Ret w (.int .i64 (cmpN p.1 s))):=by
 have hc:=fun W=>zlk p.1 s W
 generalize cmpN p.1 s=r at hc⊢;go_enter Tryz.func163,Tryz.ntmps163
 go_wp2_with (go_at_call 145;refine(hc _).mono ?_;rintro e wq ⟨rfl,rfl⟩)
 go_ret
 exact Ret.of rfl Bw
def znJ(w:World)(xs:Parts)(nm:ByteArray)(e:Ending)(w':World):Prop:=
 ∃P Q,xs=P++Q/\(∀p∈P,zbr p.1 nm=true)/\(∀p∈Q,zbr p.1 nm=false)/\Ret w (.tuple #[.int .i64 P.length,.bool (zdU Q nm)]) e w'
theorem bsf_any(xs:Parts)(A:Option Addr)(n c:Nat)(nm:ByteArray)(w:World)(hn:n=xs.length)(hl:xs.length<=100000)(hA:AscP xs)(hS:Sl w 3 zaa A xs):
 Calls Tryz.prog 162 #[.slice A n c,.string nm,.func (.func 163) #[] #[]] w (znJ w xs nm):=by
 subst hn;have eg:∀args w,(callFunc 163 args).run Tryz.prog w=.ok (.enter 163 args) w:=enters_of Tryz.func163 Mcs rfl;obtain⟨HA,HC⟩:=yH2 hA (fun(p:ByteArray×Rat) W=>zm7 p nm W);go_enter Tryz.func162,Tryz.ntmps162
 go_wp2_with fail
 go_loopw [9,10] (fun i j wr=>∃lo hi:Nat,i=.int .i64 lo/\j=.int .i64 hi/\lo<=hi/\hi<=xs.length/\Hid (∀t (ht:t<xs.length),t<lo->zbr xs[t].1 nm=true)/\Hid (∀t (ht:t<xs.length),hi<=t->zbr xs[t].1 nm=false)/\∃z,wr=w.ext z) (fun i j _=>(intOf j).toNat-(intOf i).toNat)
 case atStart=>exact⟨0,xs.length,rfl,rfl,Nat.zero_le _,Qc,fun t ht h=>absurd h (Nat.not_lt_zero _),fun t ht h=>by omega,zaU Qb⟩
 case round=>
  obtain⟨lo,hi,rfl,rfl,h1,h2,H3,H4,z,rfl⟩:=hrel;by_cases aa:lo<hi
  ·have hm:(lo+hi)/2<xs.length:=Mcq;obtain⟨b,off,rfl,hb,hc⟩:=(hS.keep (zaq w z)).at hm;obtain⟨HX,HY⟩:=yH2 (fun t (ht:t<xs.length) (h:t<(lo+hi)/2)=>List.pairwise_iff_getElem.1 hA t _ ht hm h) (fun t (ht:t<xs.length) (h:(lo+hi)/2<t)=>List.pairwise_iff_getElem.1 hA _ t hm ht h);generalize hp:xs[(lo+hi)/2]=p at*;obtain⟨pn,pq⟩:=p;have hr:decide (cmpN pn nm<0)=zbr pn nm:=znC _ _;have bE:=HC.o (pn,pq);simp only at bE;generalize cmpN pn nm=r at hr bE;have c0:(w.ext z).cell? ⟨b,off+(lo+hi)/2*3,none⟩=some (.string pn):=hc 0 _ rfl;have c1:(w.ext z).cell? ⟨b,off+(lo+hi)/2*3+1,none⟩=some (.int .i64 pq.num):=hc 1 _ rfl;have c2:(w.ext z).cell? ⟨b,off+(lo+hi)/2*3+2,none⟩=some (.int .i64 pq.den):=hc 2 _ rfl;obtain⟨HP,HR⟩:=yH2 hp hr;clear hp hr hc hS hA;by_cases qy:r<0
   ·go_wp2_with (go_at_fn 163;refine(bE _).mono ?_;rintro e wq ⟨rfl,zq,rfl⟩)
    go_round
    case rel=>
     have bu:zbr pn nm=true:=by rw[<-HR.o];simpa using qy
     refine⟨(lo+hi)/2+1,hi,by go_num,rfl,by omega,h2,(show Hid _ from fun t ht h=>?_),H4,zaU Bw⟩;by_cases e:t=(lo+hi)/2
     ·subst e;rw[HP.o];exact bu
     ·have:=HX.o t ht Mcq;exact zb3 this bu
    case measure=>simp[intOf];omega
   ·go_wp2_with (go_at_fn 163;refine(bE _).mono ?_;rintro e wq ⟨rfl,zq,rfl⟩)
    go_round
    case rel=>
     have bu:zbr pn nm=false:=by rw[<-HR.o];simpa using qy
     refine⟨lo,(lo+hi)/2,rfl,by go_num,by omega,by omega,H3,(show Hid _ from fun t ht h=>?_),zaU Bw⟩;by_cases e:t=(lo+hi)/2
     ·subst e;rw[HP.o];exact bu
     ·have:=HY.o t ht Mcq;exact less_up this bu
    case measure=>simp[intOf];omega
  ·have he:hi=lo:=Mcq;subst he;have HP:Hid (∀p∈xs.take hi,zbr p.1 nm=true):=fun p hp=>by
    obtain⟨t,ht,rfl⟩:=List.getElem_of_mem hp;rw[List.getElem_take];have:t<hi:=by rw[List.length_take]at ht;omega
    exact H3.o t Mcq this
   have HQ:Hid (∀p∈xs.drop hi,zbr p.1 nm=false):=fun p hp=>by
    obtain⟨t,ht,rfl⟩:=List.getElem_of_mem hp;rw[List.getElem_drop];exact H4.o (hi+t) (by rw[List.length_drop]at ht;omega) Mcq
   have HL:Hid ((xs.take hi).length=hi):=by show _=_;rw[List.length_take];omega
   by_cases cA:hi<xs.length
   ·obtain⟨b,off,rfl,hb,hc⟩:=(hS.keep (zaq w z)).at cA;have hd:xs.drop hi=xs[hi]::xs.drop (hi+1):=List.drop_eq_getElem_cons cA;generalize hp:xs[hi]=p at*;obtain⟨pn,pq⟩:=p;have hr:(cmpN pn nm==0)=zaf pn nm:=cmpN_zero _ _;have bE:=HC.o (pn,pq);simp only at bE;generalize cmpN pn nm=r at hr bE;have c0:(w.ext z).cell? ⟨b,off+hi*3,none⟩=some (.string pn):=hc 0 _ rfl;have c1:(w.ext z).cell? ⟨b,off+hi*3+1,none⟩=some (.int .i64 pq.num):=hc 1 _ rfl;have c2:(w.ext z).cell? ⟨b,off+hi*3+2,none⟩=some (.int .i64 pq.den):=hc 2 _ rfl;obtain⟨HR,HD⟩:=yH2 hr hd;clear hp hr hc hS hA hd;go_wp2_with (go_at_fn 163;refine(bE _).mono ?_;rintro e wq ⟨rfl,zq,rfl⟩)
    all_goals go_ret2
    all_goals exact⟨xs.take hi,xs.drop hi,(List.take_append_drop _ _).symm,HP.o,HQ.o,Ret.of (by rw[HL.o,HD.o];simp[zdU,<-HR.o, *]) Bw⟩
   ·go_wp2_with fail
    all_goals go_ret2
    all_goals exact⟨xs.take hi,xs.drop hi,(List.take_append_drop _ _).symm,HP.o,HQ.o,Ret.of (by rw[HL.o,List.drop_eq_nil_of_le Mcq];simp[zdU]) Bw⟩
def zb1(W:World)(T:Nat)(pl:ByteArray)(cl fr en:Int)(v dv:Value):Prop:=W.heap[T]?=some (.cells #[.string pl,.int .i64 cl,.int .i64 fr,.int .i64 en,v,dv] 90)
theorem znK(xs:Parts)(A:Option Addr)(c T:Nat)(nm:ByteArray)(w:World)(iV:w.cell? ⟨T,4,none⟩=some (.slice A xs.length c))(hl:xs.length<=100000)(hA:AscP xs)(hS:Sl w 3 zaa A xs):
 Calls Tryz.prog 135 #[.pointer (some ⟨T,0,none⟩),.string nm] w (znJ w xs nm):=by
 have HB:=bsf_any xs A _ c nm w rfl hl hA hS;go_enter Tryz.func135,Tryz.ntmps135
 go_wp2_with (go_at_call 162;refine HB.mono ?_;rintro e wq ⟨P,Q,bv,hP,hQ,rfl,z,rfl⟩)
 go_ret2
 exact⟨P,Q,bv,hP,hQ,Ret.of rfl Bw⟩
theorem shareQ{P Q:Parts}{nm:ByteArray}(hP:∀p∈P,zbr p.1 nm=true)(hQ:∀p∈Q,zbr p.1 nm=false)(hA:AscP (P++Q)):zag (P++Q) nm=if zdU Q nm then(Q.headD (⟨#[]⟩,0)).2 else 0:=by
 rw[zga hP];cases hh:zdU Q nm
 ·exact znD hQ (zhH hA) hh
 ·cases Q with
  |nil=>cases hh
  |cons q Q=>
   have hs:zaf q.1 nm=true:=hh;rw[zbv,hs];rfl
theorem zev(xs:Parts)(A:Option Addr)(c T:Nat)(nm:ByteArray)(w:World)(iV:w.cell? ⟨T,4,none⟩=some (.slice A xs.length c))(hT:T<w.heap.size)(hl:xs.length<=100000)(hA:AscP xs)(hS:Sl w 3 zaa A xs):
 Calls Tryz.prog 89 #[.pointer (some ⟨T,0,none⟩),.string nm] w (Ret w (zaD (zag xs nm))):=by
 have HF:=fun W h1 h2=>znK xs A c T nm W h1 hl hA h2
 obtain⟨HS,HA⟩:=yH2 hS hA;clear hS hA;have ag:T≠w.heap.size:=Mcq;go_enter Tryz.func89,Tryz.ntmps89
 go_upto_region 2 with(go_at_call 135;refine(HF _ (by simp[go_sem,hT,iV]) (HS.o.keep (n:=w.heap.size) Bw)).mono ?_;rintro e wq ⟨P,Q,bv,hP,hQ,rfl,z,rfl⟩;subst bv)
 have hv:=shareQ hP hQ HA.o;have HV:=zHi hv;clear hv hP hQ;cases Q with
 |nil=>
  go_wp2_with fail
  refine bodyPost_ret (v:=zaD (zag (P++[]) nm)) ?_ rfl ?_
  ·rw[HV.o];refine zaT rfl _ _ w.heap.size _ _ rfl ?_ ?_<;>simp[go_sem,zdU]
  ·exact Ret.of rfl Bw
 |cons q Q=>
  obtain⟨qn,qr⟩:=q;have aa:P.length<(P++(qn,qr)::Q).length:=Mcv;obtain⟨b,off,rfl,hb,hc⟩:=HS.o.at aa;rw[List.getElem_append_right Qc]at hc;simp only[Nat.sub_self,List.getElem_cons_zero]at hc;have k1:w.cell? ⟨b,off+P.length*3+1,none⟩=some (.int .i64 qr.num):=hc 1 _ rfl;have k2:w.cell? ⟨b,off+P.length*3+1+1,none⟩=some (.int .i64 qr.den):=hc 2 _ rfl;have cA:(P.length:Int)<((P++(qn,qr)::Q).length:Int):=Mcq;have LQ:(0:Int)<=(P.length:Int):=Mcq;have HL:=zHi aa;clear hc aa;generalize hh:zdU ((qn,qr)::Q) nm=q at*;have pQ:=zHi (HV.o.trans (by rfl:_=if q then qr else 0));cases q
  ·exact MaF
  ·exact MaF
theorem ziu(g:Grave)(A:Option Addr)(c T:Nat)(day:Int)(w:World)(h3:w.cell? ⟨T,3,none⟩=some (.int .i64 g.fin))(h4:w.cell? ⟨T,4,none⟩=some (.slice A g.holders.length c)):
 Calls Tryz.prog 62 #[.pointer (some ⟨T,0,none⟩),.int .i64 day] w (Ret w (.bool (zaO g day))):=by
 obtain⟨pl,cl,fin,hs,di⟩:=g;simp only at*;go_enter Tryz.func62,Tryz.ntmps62
 go_wp2_with fail
 all_goals go_ret
 all_goals(refine Ret.of (zaR ?_) Bw;cases hs<;>simp_all[zaO]<;>omega)
theorem zg6{P:Program}(w:World)(dT sT ty elem:TypeId)(size b o dLen dCap:Nat)(a:Addr)(sLen sCap n:Nat)(cs:List Value)
 (hu:P.underlying dT=some (.slice elem))(hs:(P.info? elem).map (·.size)=some size)(hn:Nat.min sLen dLen=n)(hl:cs.length=n*size)
 (EL:∀j v,cs[j]?=some v->w.cell? (a.add j)=some v)(hc:∀j,j<cs.length->(w.cell? ⟨b,o+j,none⟩).isSome=true)(hf:∀j,j<cs.length->w.frozen? ⟨b,o+j,none⟩=false)(h1:∀v∈cs,v.oneCell'=true):
 (Builtin.copy_ #[dT,sT] ty #[.slice (some ⟨b,o,none⟩) dLen dCap,.slice (some a) sLen sCap]).run P w=.ok (goInt n) (w.setCells b o cs):=by
 have Lj:=run_firstCells_some (P:=P) w size n a sLen sCap cs hl EL;have ai:=run_storeCells_cells (P:=P) b o cs 0 w Mdt (by simpa using hf) h1;cases hq:P.info? elem with
 |none=>simp[hq]at hs
 |some i=>
  have hi:i.size=size:=by simpa[hq]using hs
  simp[Builtin.copy_,run_underlying hu,Builtin.lenOf,sizeOf,typeInfo,hq,hi,hn,Lj,ai]
theorem zbH(g:Nat){e:TypeId}:∀(vs:List Value) (o:Nat) (w:World) (cur:Array Value),w.heap[g]?=some (.cells cur e (0,0))->o+vs.length<=cur.size->
 ∃cur',(w.setCells g o vs).heap[g]?=some (.cells cur' e (0,0))/\cur'.size=cur.size/\(∀j,j<o\/o+vs.length<=j->cur'[j]?=cur[j]?)/\∀j u,vs[j]?=some u->cur'[o+j]?=some u
 | [],o,w,cur,hg,_=>⟨cur,hg,rfl,fun _ _=>rfl,fun j u h=>by simp at h⟩
 |v::r,o,w,cur,hg,hl=>by
  obtain⟨cur',h1,h2,h3,h4⟩:=zbH g r (o+1) (w.setCell ⟨g,o,none⟩ v) (cur.setIfInBounds o v) (heap_setCell_same w g o cur e v hg) (by simp at hl⊢;omega);refine⟨cur',h1,by simpa using h2,fun j hj=>?_,fun j u hu=>?_⟩
  ·rw[h3 j (by simp at hj;omega),Array.getElem?_setIfInBounds_ne (by simp at hj;omega)]
  ·cases j with
   |zero=>
    simp only[List.getElem?_cons_zero,Option.some.injEq]at hu;subst hu;rw[Nat.add_zero,h3 o Mcq];exact Array.getElem?_setIfInBounds_self_of_lt (by simp at hl;omega)
   |succ j=>
    have:=h4 j u Mex;rw[show o+(j+1)=o+1+j by omega];exact this
theorem zai(p:ByteArray×Rat):(zaa p).length=3:=rfl
theorem zcb(p:ByteArray×Rat):∀u∈zaa p,u.oneCell'=true:=by simp[zaa,Value.oneCell']
theorem ziv(l:Parts):∀u∈l.flatMap zaa,u.oneCell'=true:=fun u hu=>by
 obtain⟨x,_,hx⟩:=List.mem_flatMap.1 hu;exact zcb x u hx
theorem zew(l:Parts):(l.flatMap zaa).length=l.length*3:=zgr zaa 3 zai l
theorem zdW:ElTy Tryz.prog 26 59 3 32:=zdC (z:=.agg #[.string ⟨#[]⟩,.int .i64 0,.int .i64 0]) Mcs Mcs rfl Mcu
theorem ins_get{xs:Parts}{p:ByteArray×Rat}{i:Nat}(hi:i<=xs.length){cur:Nat->Option Value}(h0:∀j u,j<i*3->(xs.flatMap zaa)[j]?=some u->cur j=some u)(h1:∀j u,(zaa p)[j]?=some u->cur (i*3+j)=some u)
 (h2:∀j u,((xs.drop i).flatMap zaa)[j]?=some u->cur ((i+1)*3+j)=some u):∀j u,((xs.take i++p::xs.drop i).flatMap zaa)[j]?=some u->cur j=some u:=fun j u hj=>by
 have hl:((xs.take i).flatMap zaa).length=i*3:=Mc5;rw[List.flatMap_append,List.flatMap_cons]at hj;by_cases hj1:j<i*3
 ·rw[List.getElem?_append_left Mcq]at hj;refine h0 j u hj1 ?_;exact MaM
 ·rw[List.getElem?_append_right Mcq,hl]at hj;by_cases Hi:j-i*3<3
  ·rw[List.getElem?_append_left (by rw[zai];exact Hi)]at hj;have:=h1 _ u hj;rwa [show i*3+(j-i*3)=j by omega]at this
  ·rw[List.getElem?_append_right Med,zai]at hj;have:=h2 _ u hj;rwa [show(i+1)*3+(j-i*3-3)=j by omega]at this
def zfj(w:World)(base:Nat)(v:Value)(ys:Parts)(e:Ending)(w':World):Prop:=
 ∃v',e=.returned v'/\OwnS w' base 59 3 zaa v' ys/\w.grownBy w' (za6 v)/\∀g,za6 v'=some g->za6 v=some g\/w.heap.size<=g
theorem zm8{w:World}{vb:Nat}{p:ByteArray×Rat}{t:TypeId}{fr:Nat×Nat}(h:w.heap[vb]?=some (.cells #[.string p.1,.int .i64 p.2.num,.int .i64 p.2.den] t fr)):∀j v,(zaa p)[j]?=some v->w.cell? ⟨vb,j,none⟩=some v:=fun j v hj=>by
 match j,hj with
 |0,hj=>simp[zaa]at hj;simp[World.cell?,h,<-hj]
 |1,hj=>simp[zaa]at hj;simp[World.cell?,h,<-hj]
 |2,hj=>simp[zaa]at hj;simp[World.cell?,h,<-hj]
 |j+3,hj=>simp[zaa]at hj
theorem zox(base:Nat)(xs:Parts)(p:ByteArray×Rat)(vb:Nat)(w:World)(hl:xs.length<=100000)(dg:w.heap[vb]?=some (.cells #[.string p.1,.int .i64 p.2.num,.int .i64 p.2.den] 59))(aG:base<=w.heap.size)(v:Value)(ac:OwnS w base 59 3 zaa v xs):
 Calls Tryz.prog 137 #[v,.int .i64 xs.length,.slice (some ⟨vb,0,none⟩) 1 1] w (zfj w base v (xs++[p])):=by
 have hS:Sl w 3 zaa (some ⟨vb,0,none⟩) [p]:=fun _=>⟨vb,0,rfl,zab dg,fun k x hx j u hu=>by
  have hk:k=0:=by have:=(List.getElem?_eq_some_iff.1 hx).1;simp at this;omega
  subst hk;simp only[List.getElem?_cons_zero,Option.some.injEq]at hx;subst hx;have:=zm8 dg j u hu
  simpa using this⟩
 obtain⟨HO,HS⟩:=yH2 ac hS;obtain⟨A,c,rfl,_,hc⟩:=ac.sl zai;have d8:(xs.length:Int)<=(c:Int):=Mcq;clear hS;have hA:A=none\/∃g o,A=some ⟨g,o,none⟩:=by
  rcases ac with⟨h,_⟩|⟨g,o,cap,cur,h,_⟩
  ·simp only[Value.slice.injEq]at h;exact .inl h.1
  ·simp only[Value.slice.injEq]at h;exact .inr ⟨g,o,h.1⟩
 clear ac;go_enter Tryz.func137,Tryz.ntmps137
 rcases hA with rfl|⟨g,o,rfl⟩
 ·exact Man
 ·exact Man
theorem zm9(base:Nat)(xs:Parts)(p:ByteArray×Rat)(vb:Nat)(w:World)(hl:xs.length<=100000)(dg:w.heap[vb]?=some (.cells #[.string p.1,.int .i64 p.2.num,.int .i64 p.2.den] 59))(aG:base<=w.heap.size)(g o c:Nat)(cur:Array Value)(kw:base<=g)(hg:w.heap[g]?=some (.cells cur 59 (0,0)))(yM:xs.length+1<=c)(ky:c<=maxLen)(aQ:o+c*3<=cur.size)(hx:∀j u,(xs.flatMap zaa)[j]?=some u->cur[o+j]?=some u)
 (i:Nat)(hi:i<xs.length)(ag:vb≠g):
 Calls Tryz.prog 137 #[.slice (some ⟨g,o,none⟩) xs.length c,.int .i64 i,.slice (some ⟨vb,0,none⟩) 1 1] w (zfj w base (.slice (some ⟨g,o,none⟩) xs.length c) (xs.take i++p::xs.drop i)):=by
 have mixed:Tryz.prog.follows .mixedOrders=true:=Mcs;have L6:(c:Int)<=9223372036854775807:=by unfold maxLen at ky;omega
 have Ey:(xs.length:Int)+1<=(c:Int):=Mcq;have EC:¬((c:Int)<(xs.length:Int)+1):=Mcq;have kN:IntKind.i64.wrap ((xs.length:Int)+1)=(xs.length:Int)+1:=Mdb;have nz:¬((i:Int)=(xs.length:Int)):=Mcq;have kg:IntKind.i64.wrap ((i:Int)+1)=(i:Int)+1:=Mdb;have aO:(0:Int)<=(i:Int)+1:=Mcq;have aN:(0:Int)<=(i:Int):=Mcq;have dA:((i:Int)+1).toNat=i+1:=Mcq;have bC:¬(c=i+1):=Mcq;have ay:¬(c=i):=Mcq;have av:(i:Int)<=(xs.length:Int)+1:=Mcq;have aq:(i:Int)<=(xs.length:Int):=Mcq;have N4:∀lb cb,(callFunc 164 #[.slice (some ⟨vb,0,none⟩) 1 1,.slice (some ⟨g,o+(i+1)*3,none⟩) lb cb]).run Tryz.prog w=.ok (.value (.bool false)) w:=fun lb cb=>by
  rw[run_callFunc_extern Tryz.func164 Mcs Mcs Mcs (e:=Extern.SlicesOverlaps.overlaps #[26,26] #[4]) Mcs,
   Lib.run_overlaps_apart w 26 4 59 Tryz.underlying26 3 Tryz.sizeOf59 ⟨vb,0,none⟩ ⟨g,o+(i+1)*3,none⟩ 1 1 lb cb ag 59 59 3 cur.size (by simp[World.shape?,dg]) (by simp[World.shape?,hg]) Mcq (by simp[World.frozen?,dg]) (by simp[World.frozen?,dg])]
  rfl
 obtain⟨i0,z,eG,lz,fm,Bf,uO⟩:=zdW.hi;have hsz:(Tryz.prog.info? 59).map (·.size)=some 3:=by rw[eG];simp[fm]
 have br:((xs.drop i).flatMap zaa).length=(xs.length-i)*3:=Meh;have bi:∀j,j<c*3->(w.cell? ⟨g,o+j,none⟩).isSome=true:=fun j hj=>by simp[World.cell?,hg];omega
 have xk:∀ty dc sc,(Builtin.copy_ #[26,26] ty #[.slice (some ⟨g,o+(i+1)*3,none⟩) (xs.length+1-(i+1)) dc,.slice (some ⟨g,o+i*3,none⟩) (xs.length+1-i) sc]).run Tryz.prog w.drew=.ok (goInt (xs.length-i:Nat)) (w.drew.setCells g (o+(i+1)*3) ((xs.drop i).flatMap zaa)):=fun ty dc sc=>
  zg6 w.drew _ _ ty 59 3 g (o+(i+1)*3) _ dc ⟨g,o+i*3,none⟩ _ sc (xs.length-i) _ Tryz.underlying26 hsz Mdw br
   (fun j v hj=>by
     rw[Addr.add_lit];have e:(xs.flatMap zaa)[i*3+j]?=some v:=by
      have e2:xs.flatMap zaa=(xs.take i).flatMap zaa++(xs.drop i).flatMap zaa:=Mdc;have e3:((xs.take i).flatMap zaa).length=i*3:=Mc5;rw[e2,List.getElem?_append_right Mcq,e3,Nat.add_sub_cancel_left];exact hj
     have:=hx _ _ e;show w.cell? _=_;simp only[World.cell?,hg,Nat.add_assoc]
     exact this)
   (fun j hj=>by rw[br]at hj;show(w.cell? _).isSome=_;rw[Nat.add_assoc];exact bi _ Mcq) (fun j hj=>by show w.frozen? _=_;simp[World.frozen?,hg]) (ziv _)
 obtain⟨cur1,k1,k2,k3,k4⟩:=zbH g ((xs.drop i).flatMap zaa) (o+(i+1)*3) w.drew cur hg (by rw[br];omega);have bI:=zbD g ((xs.drop i).flatMap zaa) (o+(i+1)*3) w.drew;obtain⟨W1,aP⟩:=Qd (w.drew.setCells g (o+(i+1)*3) ((xs.drop i).flatMap zaa))
 rw[<-aP]at xk k1 bI;have za:W1.heap[vb]?=some (.cells #[.string p.1,.int .i64 p.2.num,.int .i64 p.2.den] 59):=(bI.block vb (zab dg) (by simp[ag])).trans dg;have DN:∀(W:World),W.heap=W1.heap->∀ty dc,(Builtin.copy_ #[26,26] ty #[.slice (some ⟨g,o+i*3,none⟩) (xs.length+1-i) dc,.slice (some ⟨vb,0,none⟩) 1 1]).run Tryz.prog W=.ok (goInt (1:Nat)) (W.setCells g (o+i*3) (zaa p)):=fun W mq ty dc=>
  zg6 W _ _ ty 59 3 g (o+i*3) _ dc ⟨vb,0,none⟩ 1 1 1 _ Tryz.underlying26 hsz Mdw (by rw[zai])
   (fun j v hj=>by rw[Addr.add_lit,Nat.zero_add];exact zm8 (by rw[mq];exact za) j v hj)
   (fun j hj=>by rw[zai]at hj;simp[World.cell?,mq,k1,k2];omega) (fun j hj=>by simp[World.frozen?,mq,k1]) (zcb p)
 have HF:Hid (∀W:World,W.heap=W1.heap->W.os=W1.os->W.tape=W1.tape->W.output=W1.output->zfj w base (.slice (some ⟨g,o,none⟩) xs.length c) (xs.take i++p::xs.drop i) (.returned (.slice (some ⟨g,o,none⟩) (xs.length+1) c)) (W.setCells g (o+i*3) (zaa p))):=by
  intro W h1 h2 h3 h4;have tH:w.grownBy W (some g):=⟨h2.trans bI.os,h3.trans bI.tape,h4.trans bI.output,by rw[h1];exact bI.size,fun k hk hn=>by rw[h1];exact bI.block k hk hn⟩
  obtain⟨cur2,l1,l2,l3,l4⟩:=zbH g (zaa p) (o+i*3) W cur1 (by rw[h1];exact k1) (by rw[zai,k2];omega);have ae:(xs.take i++p::xs.drop i).length=xs.length+1:=Mcw;refine⟨_,rfl,.inr ⟨g,o,c,cur2,by rw[ae],kw,l1,by rw[ae];exact yM,ky,by rw[l2,k2];exact aQ,?_⟩,zbo tH (zbD _ _ _ _),fun g' h=> .inl h⟩;refine ins_get (cur:=fun j=>cur2[o+j]?) Mcq (fun j u hj hu=>?_) (fun j u hu=>?_) (fun j u hu=>?_)
  ·show cur2[o+j]?=_;rw[l3 _ (.inl Mcq),k3 _ (.inl Mcq)];exact hx j u hu
  ·have:=l4 j u hu;rw[show o+i*3+j=o+(i*3+j) by omega]at this;exact this
  ·show cur2[o+((i+1)*3+j)]?=_;rw[l3 _ (.inr Med)];have:=k4 j u hu;rw[show o+(i+1)*3+j=o+((i+1)*3+j) by omega]at this;exact this
 clear aP k1 k2 k3 k4 bI bi hx za br hg dg;go_enter Tryz.func137,Tryz.ntmps137
 go_wp2_with (simp only[N4])
 go_region_law_o (go_loud(refine step_copy_runI rfl _ _ 26 26 rfl _ _ MdZ MdZ (xk _ _ _) ?_))
 go_wp2_with (at_builtin;refine wpList_copy_runI _ rfl _ _ 26 26 rfl _ _ rfl rfl (DN _ rfl _ _) ?_)
 go_ret
 exact HF.o _ rfl rfl rfl rfl
theorem zek(z:Array Value)(k:Nat):(Builtin.zeroCells z k).size=k*z.size:=by
 simp[Builtin.zeroCells]
theorem zmA(base:Nat)(xs:Parts)(p:ByteArray×Rat)(vb:Nat)(w:World)(hl:xs.length<=100000)(dg:w.heap[vb]?=some (.cells #[.string p.1,.int .i64 p.2.num,.int .i64 p.2.den] 59))(aG:base<=w.heap.size)(g o:Nat)(cur:Array Value)(hg:w.heap[g]?=some (.cells cur 59 (0,0)))(hx:∀j u,(xs.flatMap zaa)[j]?=some u->cur[o+j]?=some u)
 (i:Nat)(hi:i<xs.length):
 Calls Tryz.prog 137 #[.slice (some ⟨g,o,none⟩) xs.length xs.length,.int .i64 i,.slice (some ⟨vb,0,none⟩) 1 1] w (zfj w base (.slice (some ⟨g,o,none⟩) xs.length xs.length) (xs.take i++p::xs.drop i)):=by
 have mixed:Tryz.prog.follows .mixedOrders=true:=Mcs;have kN:IntKind.i64.wrap ((xs.length:Int)+1)=(xs.length:Int)+1:=Mdb;have dr:(xs.length:Int)<(xs.length:Int)+1:=Mcq;obtain⟨c,hc⟩:∃c,xs.length=c:=⟨_,rfl⟩
 have bC:¬(c=i+1)\/c=i+1:=Mcq;have nz:¬((i:Int)=(xs.length:Int)):=Mcq;have kg:IntKind.i64.wrap ((i:Int)+1)=(i:Int)+1:=Mdb;have aO:(0:Int)<=(i:Int)+1:=Mcq;have aN:(0:Int)<=(i:Int):=Mcq;have dA:((i:Int)+1).toNat=i+1:=Mcq;have aq:(i:Int)<=(xs.length:Int):=Mcq;have aV:(i:Int)+1<=(xs.length:Int)+1:=Mcq;have hkw:IntKind.i64.wrap ((xs.length:Int)+1-(i:Int))=(xs.length:Int)+1-(i:Int):=Mdb;have iz:(xs.length:Int)+1-(i:Int)=((xs.length+1-i:Nat):Int):=Mcq;have Ed:i+(xs.length+1-i)=xs.length+1:=Mcq;obtain⟨i0,z,eG,lz,fm,Bf,uO⟩:=zdW.hi;have hsz:(Tryz.prog.info? 59).map (·.size)=some 3:=by rw[eG];simp[fm]
 have cg:g<w.heap.size:=zab hg;have Bc:vb<w.heap.size:=zab dg;have bT:((xs.take i).flatMap zaa).length=i*3:=Mc5;have cV:xs.flatMap zaa=(xs.take i).flatMap zaa++(xs.drop i).flatMap zaa:=Mdc;have mY:(Builtin.firstCells i0.size i (.slice (some ⟨g,o,none⟩) i xs.length)).run Tryz.prog w.drew=.ok ((xs.take i).flatMap zaa).toArray w.drew:=by
  rw[fm]
  exact run_firstCells_some w.drew 3 i ⟨g,o,none⟩ i xs.length _ bT (fun j v hj=>by
   rw[Addr.add_lit];have:=hx j v (by rw[cV,List.getElem?_append_left (List.getElem?_eq_some_iff.1 hj).1];exact hj);show w.cell? _=_;simp only[World.cell?,hg]
   exact this)
 have B8:∀ty,(Builtin.append_ #[26,3] ty #[.slice (some ⟨g,o,none⟩) i xs.length,.int .i64 ((xs.length:Int)+1-(i:Int))]).run Tryz.prog w=
  .ok (.slice (some ⟨w.heap.size,0,none⟩) (xs.length+1) (grownCap w (xs.length+1) xs.length 59)) (w.drew.alloc (.cells (((xs.take i).flatMap zaa).toArray++Builtin.zeroCells z.cells (xs.length+1-i)++Builtin.zeroCells z.cells (grownCap w (xs.length+1) xs.length 59-(xs.length+1))) 59)):=fun ty=>by
  have h:=Lib.run_append_grow_zeros w 26 3 ty 59 i0 _ .i64 .i64 Tryz.underlying26 Tryz.underlying3 eG lz (some ⟨g,o,none⟩) i xs.length ((xs.take i).flatMap zaa) mY (xs.length+1-i) Mcq Mcq Mcq Mcq (by rw[Bf];omega) (by rw[Bf,Ed];exact growslice_fits Mcq Mcq);rw[Ed]at h;rw[iz];exact h
 obtain⟨G,hG⟩:=Qd (grownCap w (xs.length+1) xs.length 59)
 obtain⟨ROW,oL⟩:∃ROW:Array Value,ROW=((xs.take i).flatMap zaa).toArray++Builtin.zeroCells z.cells (xs.length+1-i)++Builtin.zeroCells z.cells (G-(xs.length+1)):=⟨_,rfl⟩
 rw[<-hG,<-oL]at B8;have Kd:xs.length+1<=G:=by rw[hG];exact grownCap_ge w _ _ _
 have CR:G<=maxLen:=by
  rw[hG];exact grownCap_le_maxLen w (xs.length+1) xs.length 59 (by unfold maxLen;omega)
 have nM:ROW.size=G*3:=by
  rw[oL,Array.size_append,Array.size_append,zek,zek,uO];simp only[List.size_toArray,bT];omega
 have sa:∀j u,((xs.take i).flatMap zaa)[j]?=some u->ROW[j]?=some u:=fun j u hj=>by
  have bM:=(List.getElem?_eq_some_iff.1 hj).1;rw[oL,Array.getElem?_append_left (by rw[Array.size_append,List.size_toArray];omega),Array.getElem?_append_left (by simpa using bM)];simpa using hj
 obtain⟨W1,aP⟩:=Qd (w.drew.alloc (.cells ROW 59))
 have Ao:W1.heap[w.heap.size]?=some (.cells ROW 59):=by rw[aP];exact heap_alloc_new w.drew _
 have Ar:∀k,k<w.heap.size->W1.heap[k]?=w.heap[k]?:=fun k hk=>by rw[aP];exact Below.heap_alloc w.drew _ k hk
 have xl:∀(W:World),W.heap=W1.heap->∀ty dc,(Builtin.copy_ #[26,26] ty #[.slice (some ⟨w.heap.size,i*3,none⟩) (xs.length+1-i) dc,.slice (some ⟨vb,0,none⟩) 1 1]).run Tryz.prog W=.ok (goInt (1:Nat)) (W.setCells w.heap.size (i*3) (zaa p)):=fun W mq ty dc=>
  zg6 W _ _ ty 59 3 w.heap.size (i*3) _ dc ⟨vb,0,none⟩ 1 1 1 _ Tryz.underlying26 hsz Mdw (by rw[zai])
   (fun j v hj=>by rw[Addr.add_lit,Nat.zero_add];exact zm8 (by rw[mq,Ar vb Bc];exact dg) j v hj)
   (fun j hj=>by rw[zai]at hj;simp[World.cell?,mq,Ao];omega) (fun j hj=>by simp[World.frozen?,mq,Ao]) (zcb p)
 obtain⟨cur1,k1,k2,k3,k4⟩:=zbH w.heap.size (zaa p) (i*3) W1 ROW Ao (by rw[zai,nM];omega);have bI:=zbD w.heap.size (zaa p) (i*3) W1;have br:((xs.drop i).flatMap zaa).length=(xs.length-i)*3:=Meh;have H8:(W1.setCells w.heap.size (i*3) (zaa p)).heap[g]?=some (.cells cur 59):=by rw[bI.block g (by rw[aP];simp;omega) Mcw,Ar g cg];exact hg
 have DO:∀(W:World),W.heap=(W1.setCells w.heap.size (i*3) (zaa p)).heap->∀ty dc sc,(Builtin.copy_ #[26,26] ty #[.slice (some ⟨w.heap.size,(i+1)*3,none⟩) (xs.length-i) dc,.slice (some ⟨g,o+i*3,none⟩) (xs.length-i) sc]).run Tryz.prog W=.ok (goInt (xs.length-i:Nat)) (W.setCells w.heap.size ((i+1)*3) ((xs.drop i).flatMap zaa)):=fun W mq ty dc sc=>
  zg6 W _ _ ty 59 3 w.heap.size ((i+1)*3) _ dc ⟨g,o+i*3,none⟩ _ sc (xs.length-i) _ Tryz.underlying26 hsz Mdw br
   (fun j v hj=>by
     rw[Addr.add_lit];have e:(xs.flatMap zaa)[i*3+j]?=some v:=by
      rw[cV,List.getElem?_append_right Mcq,bT,Nat.add_sub_cancel_left];exact hj
     have:=hx _ _ e;simp only[World.cell?,mq,H8,Nat.add_assoc]
     exact this)
   (fun j hj=>by rw[br]at hj;simp[World.cell?,mq,k1,k2,nM];omega) (fun j hj=>by simp[World.frozen?,mq,k1]) (ziv _)
 have HF:Hid (∀W:World,W.heap=(W1.setCells w.heap.size (i*3) (zaa p)).heap->W.os=w.os->W.tape=w.tape->W.output=w.output->zfj w base (.slice (some ⟨g,o,none⟩) xs.length xs.length) (xs.take i++p::xs.drop i) (.returned (.slice (some ⟨w.heap.size,0,none⟩) (xs.length+1) G)) (W.setCells w.heap.size ((i+1)*3) ((xs.drop i).flatMap zaa))):=by
  intro W h1 h2 h3 h4;have tH:w.grownBy W (some g):=⟨h2,h3,h4,by rw[h1];exact Nat.le_trans (by rw[aP];simp) bI.size,fun k hk hn=>by rw[h1,bI.block k (by rw[aP];simp;omega) Mcw,Ar k hk]⟩
  obtain⟨cur2,l1,l2,l3,l4⟩:=zbH w.heap.size ((xs.drop i).flatMap zaa) ((i+1)*3) W cur1 (by rw[h1];exact k1) (by rw[br,k2,nM];omega);have ae:(xs.take i++p::xs.drop i).length=xs.length+1:=Mcw;have cz:=zbD w.heap.size ((xs.drop i).flatMap zaa) ((i+1)*3) W;refine⟨_,rfl,.inr ⟨w.heap.size,0,G,cur2,by rw[ae],aG,l1,by rw[ae];exact Kd,CR,by rw[l2,k2,nM];omega,?_⟩,?_,fun g' h=> .inr (by simp only[za6,Option.some.injEq]at h;omega)⟩
  ·refine ins_get (cur:=fun j=>cur2[0+j]?) Mcq (fun j u hj hu=>?_) (fun j u hu=>?_) (fun j u hu=>?_)
   ·show cur2[0+j]?=_;rw[Nat.zero_add,l3 _ (.inl Mcq),k3 _ (.inl Mcq)];rw[cV,List.getElem?_append_left Mcq]at hu;exact sa j u hu
   ·show cur2[0+(i*3+j)]?=_;have Ef:j<3:=by have:=(List.getElem?_eq_some_iff.1 hu).1;rwa [zai]at this
    rw[Nat.zero_add,l3 _ (.inl Mcq)];exact k4 j u hu
   ·show cur2[0+((i+1)*3+j)]?=_;rw[Nat.zero_add];exact l4 j u hu
  ·exact⟨cz.os.trans h2,cz.tape.trans h3,cz.output.trans h4,Nat.le_trans tH.size cz.size,fun k hk hn=>(cz.block k (Nat.lt_of_lt_of_le hk tH.size) Mcw).trans (tH.block k hk hn)⟩
 subst aP;have hGi:¬(G=i):=Mcq;have Kb:¬(G=i+1):=Mcq;have hci:¬(xs.length=i):=Mcq;have hGc:(xs.length:Int)+1<=(G:Int):=Mcq;have Ka:(i:Int)<=(xs.length:Int)+1:=Mcq;clear iz Ed mY oL hG nM sa cV bT br H8 bI k1 k2 k3 k4 Ao Ar hx hc bC;go_enter Tryz.func137,Tryz.ntmps137
 go_upto_region 10 with(at_builtin;refine Lib.wpList_append_run _ rfl _ _ _ _ rfl _ _ rfl rfl _ _ (B8 _) ?_)
 have GJ:∀ty dc,_:=fun ty dc=>xl ((w.alloc (.cells ROW 59)).drew) rfl ty dc
 clear xl;go_wp2_with fail
 go_region_law_o (go_loud(refine step_copy_runI rfl _ _ 26 26 rfl _ _ MdZ MdZ (DO (((w.alloc (.cells ROW 59)).drew.setCells w.heap.size (i*3) (zaa p)).drew) rfl _ _ _) ?_))
 go_wp2_with fail
 go_ret
 exact HF.o _ rfl rfl rfl rfl
theorem zoy{P:Program}(w:World)(t e ty:TypeId)(z:Value)(ht:P.underlying t=some (.slice e))(hv:∀w,(zeroValue e).run P w=.ok z w)(h1:∀u∈z.cells,u.oneCell'=true)(hp:0<z.cells.size)(b o n c:Nat)(hn:0<n)
 (hc:∀j,j<n*z.cells.size->(w.cell? ⟨b,o+j,none⟩).isSome=true)(hf:∀j,j<n*z.cells.size->w.frozen? ⟨b,o+j,none⟩=false):
 (Builtin.clear_ #[t] ty #[.slice (some ⟨b,o,none⟩) n c]).run P w=.ok (.tuple #[]) (w.setCells b o (Builtin.zeroCells z.cells n).toList):=by
 have hl:(Builtin.zeroCells z.cells n).toList.length=n*z.cells.size:=by simp[Builtin.zeroCells]
 have ai:=run_storeCells_cells (P:=P) b o (Builtin.zeroCells z.cells n).toList 0 w (by rw[hl];simpa using hc) (by rw[hl];simpa using hf) (by
  intro v jG;refine h1 v ?_;obtain⟨i,hi,rfl⟩:=List.getElem_of_mem jG;simp[Builtin.zeroCells]at hi⊢
  first|done|exact Array.getElem_mem _|simp[Nat.mod_lt _ hp])
 simp only[Nat.add_zero]at ai;obtain⟨m,rfl⟩:∃m,n=m+1:=⟨n-1,by omega⟩
 simp[Builtin.clear_,run_underlying ht,hv,ai]
theorem zeP{P:Program}{ops:Array Oper}{o:Oper}{a:Act}{w:World}{K:Act->World->Prop}{Q:Exit->Act->World->Prop}{E:Prop}
 (hg:o.guard=none)(d x:Operand)(dT sT:TypeId)(N0:o.op=Op.call {callee:=Callee.builtin Builtin.append,args:= #[d,x],argTypes:= #[dT,sT]})
 (v u:Value)(hd:a.eval d=v)(hx:a.eval x=u){v':Value}{w':World}(hr:(Builtin.append_ #[dT,sT] o.type #[v,u]).run P w=.ok v' w')(hK:K (a.put o.dst v') w'):
 if Region.wanted o (yielded ops a.tmps)=true then Oper.wp P o a w K Q else E:=by
 have hw:Region.wanted o (yielded ops a.tmps)=true:=by simp[Region.wanted,hg]
 rw[if_pos hw];unfold Oper.wp;simp[execOp,N0,resolve,invoke,builtin,hd,hx,hr,Result.andThen];exact hK
theorem del_any(base:Nat)(xs:Parts)(w:World)(hl:xs.length<=100000)(v:Value)(ac:OwnS w base 59 3 zaa v xs)(i:Nat)(hi:i<xs.length):
 Calls Tryz.prog 136 #[v,.int .i64 i,.int .i64 (i+1:Nat)] w (zfj w base v (xs.take i++xs.drop (i+1))):=by
 rcases ac with⟨rfl,rfl⟩|⟨g,o,c,cur,rfl,kw,hg,hc,ky,aQ,hx⟩
 ·simp at hi
 have mixed:Tryz.prog.follows .mixedOrders=true:=Mcs;obtain⟨i0,z,eG,lz,fm,Bf,uO⟩:=zdW.hi;have hsz:(Tryz.prog.info? 59).map (·.size)=some 3:=by rw[eG];simp[fm]
 have br:((xs.drop (i+1)).flatMap zaa).length=(xs.length-(i+1))*3:=Meh;have bi:∀j,j<c*3->(w.cell? ⟨g,o+j,none⟩).isSome=true:=fun j hj=>by simp[World.cell?,hg];omega
 have bT:((xs.take (i+1)).flatMap zaa).length=(i+1)*3:=Mc5;have cV:xs.flatMap zaa=(xs.take (i+1)).flatMap zaa++(xs.drop (i+1)).flatMap zaa:=Mdc;have nO:∀(A:Addr),(i+1<xs.length->A=⟨g,o+(i+1)*3,none⟩)->∀ty cc,(Builtin.append_ #[26,26] ty #[.slice (some ⟨g,o,none⟩) i c,.slice (some A) (xs.length-(i+1)) cc]).run Tryz.prog w.drew=.ok (.slice (some ⟨g,o,none⟩) (i+(xs.length-(i+1))) c) (w.drew.setCells g (o+i*3) ((xs.drop (i+1)).flatMap zaa)):=fun A hA ty cc=>by
  have:=run_append_room_cells (P:=Tryz.prog) w.drew 26 ty 59 i0 Tryz.underlying26 eG g o i c A (xs.length-(i+1)) cc ((xs.drop (i+1)).flatMap zaa) (by rw[br,fm])
   (fun j u hj=>by
     have bM:=(List.getElem?_eq_some_iff.1 hj).1;rw[hA Mcq,Addr.add_lit];have e:(xs.flatMap zaa)[(i+1)*3+j]?=some u:=by rw[cV,List.getElem?_append_right Mcq,bT,Nat.add_sub_cancel_left];exact hj
     have:=hx _ _ e;show w.cell? _=_;simp only[World.cell?,hg,Nat.add_assoc]
     exact this) (ziv _) Mcq (fun j hj=>by rw[fm];rw[br]at hj;show(w.cell? _).isSome=_;rw[Nat.add_assoc];exact bi _ Mcq) (fun j hj=>by show w.frozen? _=_;simp[World.frozen?,hg])
  rw[fm]at this;exact this
 have aM:i+(xs.length-(i+1))=xs.length-1:=Mcq;rw[aM]at nO;obtain⟨cur1,k1,k2,k3,k4⟩:=zbH g ((xs.drop (i+1)).flatMap zaa) (o+i*3) w.drew cur hg (by rw[br];omega);have bI:=zbD g ((xs.drop (i+1)).flatMap zaa) (o+i*3) w.drew;obtain⟨W1,aP⟩:=Qd (w.drew.setCells g (o+i*3) ((xs.drop (i+1)).flatMap zaa))
 rw[<-aP]at nO k1 bI;have DL:∀ty cc,(Builtin.clear_ #[26] ty #[.slice (some ⟨g,o+(xs.length-1)*3,none⟩) (xs.length-(xs.length-1)) cc]).run Tryz.prog W1=.ok (.tuple #[]) (W1.setCells g (o+(xs.length-1)*3) (Builtin.zeroCells (Value.agg #[.string ⟨#[]⟩,.int .i64 0,.int .i64 0]).cells (xs.length-(xs.length-1))).toList):=fun ty cc=>
  zoy W1 26 59 ty (.agg #[.string ⟨#[]⟩,.int .i64 0,.int .i64 0]) Tryz.underlying26 Tryz.zeroValue59 (by simp[Value.cells,Value.oneCell']) (by simp[Value.cells]) g _ _ cc Mcq
   (fun j hj=>by simp[Value.cells]at hj;simp[World.cell?,k1,k2];omega) (fun j hj=>by simp[World.frozen?,k1])
 have HF:Hid (zfj w base (.slice (some ⟨g,o,none⟩) xs.length c) (xs.take i++xs.drop (i+1)) (.returned (.slice (some ⟨g,o,none⟩) (xs.length-1) c)) (W1.setCells g (o+(xs.length-1)*3) (Builtin.zeroCells (Value.agg #[.string ⟨#[]⟩,.int .i64 0,.int .i64 0]).cells (xs.length-(xs.length-1))).toList)):=by
  have tH:w.grownBy W1 (some g):=⟨bI.os,bI.tape,bI.output,bI.size,bI.block⟩
  have qJ:(Builtin.zeroCells (Value.agg #[.string ⟨#[]⟩,.int .i64 0,.int .i64 0]).cells (xs.length-(xs.length-1))).toList.length=3:=by
   rw[Array.length_toList,zek];simp[Value.cells];omega
  obtain⟨cur2,l1,l2,l3,l4⟩:=zbH g _ (o+(xs.length-1)*3) W1 cur1 k1 (by rw[qJ,k2];omega);have ae:(xs.take i++xs.drop (i+1)).length=xs.length-1:=Mcw;refine⟨_,rfl,.inr ⟨g,o,c,cur2,by rw[ae],kw,l1,by rw[ae];omega,ky,by rw[l2,k2];exact aQ,fun j u hj=>?_⟩,zbo tH (zbD _ _ _ _),fun g' h=> .inl h⟩;have bM:=(List.getElem?_eq_some_iff.1 hj).1;rw[zew,ae]at bM;rw[l3 _ (.inl Mcq)];have Nm:((xs.take i).flatMap zaa).length=i*3:=Mc5;rw[List.flatMap_append]at hj;by_cases bF:j<i*3
  ·rw[List.getElem?_append_left Mcq]at hj;rw[k3 _ (.inl Mcq)];refine hx j u ?_;exact MaM
  ·rw[List.getElem?_append_right Mcq,Nm]at hj;have:=k4 _ u hj;rwa [show o+i*3+(j-i*3)=o+j by omega]at this
 have aO:(i:Int)+1<=(xs.length:Int):=Mcq;have aN:(0:Int)<=(i:Int):=Mcq;have bC:¬((i:Int)=(i:Int)+1):=Mcq;have av:(xs.length:Int)<=(c:Int):=Mcq;have ay:(i:Int)<=(c:Int):=Mcq;have aq:¬(c=xs.length-1):=Mcq;have aV:((xs.length-1:Nat):Int)<=(xs.length:Int):=Mcq;have bK:(0:Int)<=(i:Int)+1:=Mcq;have dA:((i:Int)+1).toNat=i+1:=Mcq;clear aP k1 k2 k3 k4 bI bi hx br bT cV hg aM;go_enter Tryz.func136,Tryz.ntmps136
 by_cases hlast:c=i+1
 ·clear av ay aq aV aO hl;generalize hm:xs.length=m at*;obtain rfl:m=i+1:=by omega
  subst hlast;clear hm hc hi;have cN:(i:Int)<=(i:Int)+1:=Mcq;simp only[Nat.add_sub_cancel,Nat.add_sub_cancel_left,Nat.sub_self]at nO DL HF;go_wp2_with fail
  go_region_law_o (go_loud(refine zeP rfl _ _ 26 26 rfl _ (.slice (some ⟨g,o,none⟩) 0 0) Mda (by simp[Act.eval,Act.put]) (nO _ (fun h=>absurd h Mcq) _ _) ?_))
  go_wp2_with fail
  go_ret
  exact HF.o
 ·go_wp2_with fail
  go_region_law_o (go_loud(refine zeP rfl _ _ 26 26 rfl _ _ Mda Mda (nO _ (fun _=>rfl) _ _) ?_))
  go_wp2_with fail
  go_ret
  exact HF.o
theorem ins_any(base:Nat)(xs:Parts)(p:ByteArray×Rat)(vb:Nat)(w:World)(hl:xs.length<=100000)(dg:w.heap[vb]?=some (.cells #[.string p.1,.int .i64 p.2.num,.int .i64 p.2.den] 59))(aG:base<=w.heap.size)(v:Value)
 (ac:OwnS w base 59 3 zaa v xs)(ag:za6 v≠some vb)(i:Nat)(hi:i<=xs.length):
 Calls Tryz.prog 137 #[v,.int .i64 i,.slice (some ⟨vb,0,none⟩) 1 1] w (zfj w base v (xs.take i++p::xs.drop i)):=by
 by_cases he:i=xs.length
 ·subst he;rw[List.take_of_length_le Qc,List.drop_eq_nil_of_le Qc];exact zox base xs p vb w hl dg aG v ac
 ·have aa:i<xs.length:=Mcq;rcases ac with⟨rfl,rfl⟩|⟨g,o,c,cur,rfl,kw,hg,hc,ky,aQ,hx⟩
  ·simp at aa
  ·by_cases hr:xs.length+1<=c
   ·exact zm9 base xs p vb w hl dg aG g o c cur kw hg hr ky aQ hx i aa (fun e=>ag (by rw[e];rfl))
   ·have e:c=xs.length:=Mcq;subst e;exact zmA base xs p vb w hl dg aG g o cur hg hx i aa
theorem zhM{W:World}{base:Nat}{e t:TypeId}{size:Nat}{f:ByteArray×Rat->List Value}{v:Value}{xs:Parts}{T:Nat}{cs:Array Value}{fr:Nat×Nat}(h:OwnS W base e size f v xs)(hT:W.heap[T]?=some (.cells cs t fr))(ag:t≠e):za6 v≠some T:=by
 exact M3
def zkm(w:World)(base T:Nat)(pl:ByteArray)(cl fr en:Int)(dv v:Value)(ys:Parts)(e:Ending)(w':World):Prop:=
 e=.returned (.tuple #[])/\∃v',zb1 w' T pl cl fr en v' dv/\OwnS w' base 59 3 zaa v' ys/\Below base w w'/\∀k,k<w.heap.size->k≠T->za6 v≠some k->w'.heap[k]?=w.heap[k]?
theorem numZ(q:Rat):(q==0)=(q.num==0):=by
 rw[Bool.eq_iff_iff,beq_iff_eq,beq_iff_eq,Rat.num_eq_zero]
theorem set_at{P Q:Parts}{nm:ByteArray}{q:Rat}(hP:∀p∈P,zbr p.1 nm=true)(hQ:∀p∈Q,zbr p.1 nm=false):
 setP (P++Q) nm q=if q.num==0 then(if zdU Q nm then P++Q.drop 1 else P++Q)else if zdU Q nm then P++(nm,q)::Q.drop 1 else P++(nm,q)::Q:=by
 rw[zes hP,<-numZ];cases Q with
 |nil=>simp[setP,zdU];split<;>simp
 |cons b Q=>
  rw[setP,hQ b Mcv];simp only[zdU,Bool.false_eq_true,if_false,List.drop_succ_cons,List.drop_zero];split<;>split<;>simp_all
theorem zg7{W:World}{T:Nat}{pl:ByteArray}{cl fr en:Int}{v dv:Value}(h:zb1 W T pl cl fr en v dv)(v':Value):zb1 (W.setCell ⟨T,4,none⟩ v') T pl cl fr en v' dv:=by
 unfold zb1 at*;have:=Joins.block_setCell (i:=4) h v';simpa using this
theorem own_set2{W:World}{base g o n c:Nat}{P Q:Parts}{b:ByteArray×Rat}{q:Rat}(h:OwnS W base 59 3 zaa (.slice (some ⟨g,o,none⟩) n c) (P++b::Q)):
 OwnS ((W.setCell ⟨g,o+P.length*3+1,none⟩ (.int .i64 q.num)).setCell ⟨g,o+P.length*3+1+1,none⟩ (.int .i64 q.den)) base 59 3 zaa (.slice (some ⟨g,o,none⟩) n c) (P++(b.1,q)::Q):=by
 rcases h with⟨h,_⟩|⟨g',o',c',cur,h,hb,hg,hc,hm,hs,hx⟩
 ·cases h
 ·simp only[Value.slice.injEq,Option.some.injEq,Addr.mk.injEq,and_true]at h;obtain⟨⟨rfl,rfl⟩,rfl,rfl⟩:=h;refine .inr ⟨g,o,c,(cur.setIfInBounds (o+P.length*3+1) (.int .i64 q.num)).setIfInBounds (o+P.length*3+1+1) (.int .i64 q.den),by simp,hb,heap_setCell_same _ g _ _ _ _ (heap_setCell_same W g _ cur _ _ hg),by simpa using hc,hm,by simpa using hs,fun j u hj=>?_⟩;have hl:(P.flatMap zaa).length=P.length*3:=zew P;have bM:=(List.getElem?_eq_some_iff.1 hj).1;rw[zew]at bM;simp only[List.length_append,List.length_cons]at bM hc;rw[List.flatMap_append,List.flatMap_cons]at hj;by_cases h1:j<P.length*3
  ·rw[List.getElem?_append_left Mcq]at hj;rw[Array.getElem?_setIfInBounds_ne Mcq,Array.getElem?_setIfInBounds_ne Mcq];refine hx j u ?_;rw[List.flatMap_append,List.getElem?_append_left Mcq];exact hj
  ·rw[List.getElem?_append_right Mcq,hl]at hj;by_cases h2:j-P.length*3<3
   ·rw[List.getElem?_append_left (by rw[zai];exact h2)]at hj;obtain h3|h3|h3:j-P.length*3=0\/j-P.length*3=1\/j-P.length*3=2:=by omega
    ·rw[h3]at hj;rw[Array.getElem?_setIfInBounds_ne Mcq,Array.getElem?_setIfInBounds_ne Mcq];refine hx j u ?_;rw[List.flatMap_append,List.flatMap_cons,List.getElem?_append_right Mcq,hl,List.getElem?_append_left (by rw[zai];exact h2),h3];exact hj
    ·rw[h3]at hj;rw[Array.getElem?_setIfInBounds_ne Mcq,show o+j=o+P.length*3+1 by omega,Array.getElem?_setIfInBounds_self_of_lt Mcq];simpa[zaa]using hj
    ·rw[h3]at hj;rw[show o+j=o+P.length*3+1+1 by omega,Array.getElem?_setIfInBounds_self_of_lt Mcw];simpa[zaa]using hj
   ·rw[List.getElem?_append_right Med,zai]at hj;rw[Array.getElem?_setIfInBounds_ne Mcq,Array.getElem?_setIfInBounds_ne Mcq];refine hx j u ?_;rw[List.flatMap_append,List.flatMap_cons,List.getElem?_append_right Mcq,hl,List.getElem?_append_right Med,zai];exact hj
theorem ziw(base T:Nat)(xs:Parts)(v:Value)(pl:ByteArray)(cl fr en:Int)(dv:Value)(nm:ByteArray)(q:Rat)(w:World)(hT:zb1 w T pl cl fr en v dv)(sy:base<=T)(ac:OwnS w base 59 3 zaa v xs)(hA:AscP xs)(hl:xs.length<=90000):
 Calls Tryz.prog 88 #[.pointer (some ⟨T,0,none⟩),.string nm,.agg #[.int .i64 q.num,.int .i64 q.den]] w (zkm w base T pl cl fr en dv v (setP xs nm q)):=by
 unfold zb1 at hT;have aa:T<w.heap.size:=zab hT;have Au:base<=w.heap.size:=Mcq;have Al:za6 v≠some T:=zhM ac hT Mcu;have fA:=ac.ge;obtain⟨A,c,In,hS,hc⟩:=ac.sl zai;have iV:w.cell? ⟨T,4,none⟩=some v:=by simp[World.cell?,hT]
 have Lg:w.frozen? ⟨T,4,none⟩=false:=by simp[World.frozen?,hT]
 have ag:T≠w.heap.size:=Mcq;obtain⟨HO,HS,HA,HV,HT⟩:=yH5 ac hS hA In hT;clear hS hA ac In hT;go_enter Tryz.func88,Tryz.ntmps88
 go_upto_region 3 with(go_at_call 135;refine(znK xs A c T nm _ (by rw[<-HV.o];simp[go_sem,aa,iV]) Mcq HA.o (HS.o.keep (n:=w.heap.size) Bw)).mono ?_;rintro e wq ⟨P,Q,bv,hP,hQ,rfl,z,rfl⟩;subst bv)
 have bP:=set_at (q:=q) hP hQ;have gy:=zHi bP;clear bP hP hQ;generalize hh:zdU Q nm=ok at*;have HH:=zHi hh;clear hh;obtain⟨W,hW⟩:=Qd ((w.alloc (.cells #[.int .i64 q.num,.int .i64 q.den] 57)).ext z)
 have eQ:Qa w W:=by rw[hW];exact Bw
 have q0:W.cell? ⟨w.heap.size,0,none⟩=some (.int .i64 q.num):=by rw[hW];simp[go_sem]
 have q1:W.cell? ⟨w.heap.size,1,none⟩=some (.int .i64 q.den):=by rw[hW];simp[go_sem]
 have sg:zb1 W T pl cl fr en v dv:=(eQ.block T aa).trans HT.o;have hWs:w.heap.size<W.heap.size:=by rw[hW];simp[zae];omega
 have wJ:=zHi (HO.o.keep (n:=w.heap.size) eQ);have wT:T<W.heap.size:=zab sg;rw[<-hW];clear hW;have c4:W.cell? ⟨T,4,none⟩=some v:=by unfold zb1 at sg;simp[World.cell?,sg]
 have f4:W.frozen? ⟨T,4,none⟩=false:=by unfold zb1 at sg;simp[World.frozen?,sg]
 have rG:=zHi sg;clear sg iV Lg ag;have fM:P.length<=(P++Q).length:=Mcv;have HB:Hid (∀w1,W.grownBy w1 (za6 v)->Below base w w1/\w1.heap[T]?=W.heap[T]?):=fun w1 h2=>⟨Below.grown (eQ.mono Au) h2 (Nat.le_trans Au eQ.size) (fun j hj=>(fA j hj).1),h2.block T wT (fun e=>Al e.symm)⟩
 have lK:Hid (∀w1 v' ys,W.grownBy w1 (za6 v)->OwnS w1 base 59 3 zaa v' ys->(∀g,za6 v'=some g->za6 v=some g\/W.heap.size<=g)->setP (P++Q) nm q=ys->zkm w base T pl cl fr en dv v (setP (P++Q) nm q) (.returned (.tuple #[])) (w1.setCell ⟨T,4,none⟩ v')):=fun w1 v' ys h2 h1 h3 hs=>by
  obtain⟨aO,uG⟩:=HB.o w1 h2;have jG:za6 v'≠some T:=fun e=>by
   rcases h3 T e with h|h
   ·exact Al h
   ·omega
  rw[hs];refine⟨rfl,v',zg7 (uG.trans rG.o) v',h1.grown (za2 _ _ _ _) (.inr jG),zaN aO sy _,fun k hk AK pe=>?_⟩;have Hn:k<W.heap.size:=Nat.lt_of_lt_of_le hk eQ.size;rw[(za2 w1 T 4 v').block k (Nat.lt_of_lt_of_le Hn h2.size) (fun e=>AK MdP),h2.block k Hn (fun e=>pe e.symm),eQ.block k hk]
 cases hq:(q.num==0)
 ·have HQ:=zHi hq;have gV:¬q.num=0:=by simpa using hq
  clear hq;cases ok
  ·
   have rz:Hid (setP (P++Q) nm q=(P++Q).take P.length++(nm,q)::(P++Q).drop P.length):=by
    show _=_;rw[gy.o,HQ.o,List.take_left,List.drop_left];simp
   have cv:Hid (((P++Q).take P.length++(nm,q)::(P++Q).drop P.length).length=P.length+(Q.length+1)):=by show _=_;simp
   go_upto_region 2 with fail
   go_region_law (go_simp;go_at_call 137
                  refine(ins_any base (P++Q) (nm,q) W.heap.size _ Mcq ?q1 ?q2 v ?q3 ?q4 P.length Mcq).mono ?_
                  case q1=>(first|exact zat _ _ _ rfl|(refine J_drew ?_;exact zat _ _ _ rfl))
                  case q2=>simp;omega
                  case q3=>exact wJ.o.keep (n:=W.heap.size) Bw
                  case q4=>(intro e;have:=(fA _ e).2;omega)
                  rintro e w1 ⟨v',rfl,h1,h2,h3⟩;obtain⟨A',c',jG,_,_⟩:=h1.sl zai;rw[cv.o]at jG;subst jG;have t1:=(h2.block T Mcw (fun e=>Al e.symm)).trans (show _=some (Obj.cells #[.string pl,.int .i64 cl,.int .i64 fr,.int .i64 en,v,dv] 90 (0,0)) from(Below.heap_alloc _ _ _ wT).trans rG.o);have k1:w1.cell? ⟨T,4,none⟩=some v:=by simp[World.cell?,t1]
                  have k2:w1.frozen? ⟨T,4,none⟩=false:=by simp[World.frozen?,t1])
   all_goals go_wp2_with fail
   all_goals go_end0
   all_goals exact lK.o w1 _ _ (zbo (World.grownBy_alloc W _ _) ⟨h2.os,h2.tape,h2.output,h2.size,h2.block⟩) h1 (fun g hg=>(h3 g hg).imp id (fun h=>by simp at h;omega)) rz.o
  ·
   cases Q with
   |nil=>have:=HH.o;simp[zdU]at this
   |cons b Q=>
    have i8:b.1=nm:=za3.1 HH.o;rcases wJ.o with⟨_,h'⟩|⟨g,o,cap,cur,hv,hb,hg,bj,ky,aQ,hx⟩
    ·simp at h'
    subst hv;have hl:(P.flatMap zaa).length=P.length*3:=zew P;have i7:∀j u,(zaa b)[j]?=some u->cur[o+P.length*3+j]?=some u:=fun j u hj=>by
     have:=hx (P.length*3+j) u (by rw[List.flatMap_append,List.flatMap_cons,List.getElem?_append_right Mcq,hl,Nat.add_sub_cancel_left,List.getElem?_append_left (List.getElem?_eq_some_iff.1 hj).1];exact hj);rwa [<-Nat.add_assoc]at this
    have k1:W.cell? ⟨g,o+P.length*3+1,none⟩=some (.int .i64 b.2.num):=by simp only[World.cell?,hg];exact i7 1 _ rfl
    have k2:W.cell? ⟨g,o+P.length*3+1+1,none⟩=some (.int .i64 b.2.den):=by simp only[World.cell?,hg];exact i7 2 _ rfl
    have k3:W.frozen? ⟨g,o+P.length*3+1,none⟩=false:=by simp[World.frozen?,hg]
    have k4:W.frozen? ⟨g,o+P.length*3+1+1,none⟩=false:=by simp[World.frozen?,hg]
    have H9:T≠g:=fun e=>Al (by rw[e];rfl)
    have iY:g≠w.heap.size:=by have:=(fA g rfl).2;omega
    have qi:(P.length:Int)<((P++b::Q).length:Int):=Mcw;have eG:(0:Int)<=(P.length:Int):=Mcq;have rz:Hid (setP (P++b::Q) nm q=P++(b.1,q)::Q):=by
     show _=_;rw[gy.o,HQ.o,i8];simp
    clear hx i7 hg;go_upto_region 7 with fail
    go_region
    all_goals go_wp2_with fail
    all_goals go_end0
    all_goals exact⟨rfl,_,(J_ne H9 (J_ne H9 rG.o):_),by rw[rz.o];exact own_set2 wJ.o,by have hBb:=eQ.mono Au;exact Bw,fun k hk AK pe=>((zbo (za2 W g _ _) (za2 _ g _ _)).block k (Nat.lt_of_lt_of_le hk eQ.size) (fun e=>pe (by rw[e];rfl))).trans (eQ.block k hk)⟩
 ·have HQ:=zHi hq;have gV:q.num=0:=by simpa using hq
  clear hq;cases ok
  ·
   go_wp2_with fail
   go_end0
   exact⟨rfl,v,rG.o,by rw[gy.o,HQ.o];exact wJ.o,eQ.mono Au,fun k hk _ _=>eQ.block k hk⟩
  ·
   have cA:P.length<(P++Q).length:=by
    cases Q with
    |nil=>have:=HH.o;simp[zdU]at this
    |cons b Q=>simp
   have rz:Hid (setP (P++Q) nm q=(P++Q).take P.length++(P++Q).drop (P.length+1)):=by
    show _=_;rw[gy.o,HQ.o,List.take_left,List.drop_append];simp
   have cv:Hid (((P++Q).take P.length++(P++Q).drop (P.length+1)).length=P.length+(Q.length-1)):=by show _=_;simp
   have xn:=del_any base (P++Q) W Mcq v wJ.o P.length cA;rw[show((P.length+1:Nat):Int)=(P.length:Int)+1 by omega]at xn;have kg:IntKind.i64.wrap ((P.length:Int)+1)=(P.length:Int)+1:=Mdb;go_wp2_with (go_at_call 136;go_loud(refine xn.mono ?_;rintro e w1 ⟨v',rfl,h1,h2,h3⟩;obtain⟨A',c',jG,_,_⟩:=h1.sl zai;rw[cv.o]at jG;subst jG;have t1:w1.heap[T]?=some (Obj.cells #[.string pl,.int .i64 cl,.int .i64 fr,.int .i64 en,v,dv] 90 (0,0)):=(HB.o w1 h2).2.trans rG.o;have k1:w1.cell? ⟨T,4,none⟩=some v:=(by simp[World.cell?,t1]);have k2:w1.frozen? ⟨T,4,none⟩=false:=(by simp[World.frozen?,t1])))
   go_end0
   exact lK.o w1 _ _ h2 h1 h3 rz.o
end
theorem zjB{V:Type}(ev:V->Value)(s:ByteArray):∀(es:List MapEntry) (m:List (ByteArray×V)),es.map (fun e=>(e.key,e.val))=m.map (fun p=>(ekS p.1,ev p.2))->∀i,
 Instr.findNow .string (.string s) es i=some ((locate eqS s m i).map fun p=>(p.1,ev p.2))
 | [],[],_,_=>rfl
 | [],_::_,h,_=>by simp at h
 |_::_,[],h,_=>by simp at h
 |e::es,p::m,h,i=>by
  simp only[List.map_cons,List.cons.injEq,Prod.mk.injEq]at h;obtain⟨⟨hk,hv⟩,ht⟩:=h;unfold Instr.findNow locate;rw[hk,hv,ekS,Instr.sameNow,beq_toListBytes];cases hq:eqS s p.1
  ·rw[eqS]at hq;rw[hq];simpa using zjB ev s es m ht (i+1)
  ·rw[eqS]at hq;rw[hq];rfl
theorem zkn{V:Type}{t et:TypeId}{ev:V->Value}{z:V}(ht:Tryz.prog.underlying t=some (.map 9 et))(hz:∀w,(zeroValue et).run Tryz.prog w=.ok (ev z) w):MapTy Tryz.prog t 9 et ekS ev z eqS where
 ht:=ht
 hz:=hz
 hck:=zok
 hfind:=fun k es m h w=>by
  simp[Instr.findKey,run_underlying Tryz.underlying9,ekS,zjB ev k es m h 0]
 hsame:=fun k k' h=>by
  rw[ekS,ekS,zjw,beq_toListBytes];rw[eqS]at h;rw[eq_of_beq h];exact beq_self_eq_true _
def nilS:Value:=.slice none 0 0
theorem mapSB:MapTy Tryz.prog 79 9 4 ekS evB false eqS:=zkn Tryz.underlying79 (fun w=>by kernel_rfl)
theorem zmB:MapTy Tryz.prog 80 9 32 ekS (fun v:Value=>v) nilS eqS:=zkn Tryz.underlying80 (fun w=>by kernel_rfl)
theorem mapSP:MapTy Tryz.prog 81 9 26 ekS (fun v:Value=>v) nilS eqS:=zkn Tryz.underlying81 (fun w=>by kernel_rfl)
theorem mapSF:MapTy Tryz.prog 174 9 57 ekS (fun v:Value=>v) (.agg #[.int .i64 0,.int .i64 0]) eqS:=zkn Tryz.underlying174 (fun w=>by kernel_rfl)
def ekP(p:ByteArray×ByteArray):Value:=.agg #[.string p.1,.string p.2]
def eqP(a b:ByteArray×ByteArray):Bool:=eqS a.1 b.1&&eqS a.2 b.2
theorem info_str:∃i,Tryz.prog.info? 9=some i:=⟨_,(by kernel_rfl:Tryz.prog.info? 9=some (Tryz.prog.info? 9).get!)⟩
theorem cells_str:Tryz.prog.cellsOf 9=1:=by kernel_rfl
theorem equalIn_p(d:Nat)(a c a' c':ByteArray)(w:World):(Op.equalIn (d+2) 140 (.agg #[.string a,.string c]) (.agg #[.string a',.string c'])).run Tryz.prog w=.ok (eqS a a'&&eqS c c') w:=by
 obtain⟨i,hi⟩:=info_str;rw[run_equalIn_array w (d+1) _ _ Tryz.underlying140 hi,cells_str];have hr:List.range 2=[0,1]:=rfl;rw[hr];simp only[Op.eqItems,Sem.run_bind,Nat.zero_mul,Nat.one_mul];have hp:∀(v:Array Value) (j:Nat) (x:ByteArray),v[j]?=some (.string x)->∀W,(part 9 v j).run Tryz.prog W=.ok (.string x) W:=fun v j x hv W=>by
  simp[part,isAgg,run_underlying Tryz.underlying9,hv]
 rw[hp _ 0 a rfl,Result.andThen_ok,hp _ 0 a' rfl,Result.andThen_ok,run_equalIn_string w d 9 a a' Tryz.underlying9,Result.andThen_ok];cases h1:(a.toList==a'.toList)
 ·simp[eqS,h1]
 ·simp only[Bool.not_true,Bool.false_eq_true,if_false,Sem.run_bind];rw[hp _ 1 c rfl,Result.andThen_ok,hp _ 1 c' rfl,Result.andThen_ok,run_equalIn_string w d 9 c c' Tryz.underlying9,Result.andThen_ok];cases h2:(c.toList==c'.toList)<;>simp[eqS,h1,h2]
theorem equal_p(a c a' c':ByteArray)(w:World):(Op.equal 140 (.agg #[.string a,.string c]) (.agg #[.string a',.string c'])).run Tryz.prog w=.ok (eqS a a'&&eqS c c') w:=equalIn_p 9998 a c a' c' w
theorem findNow_p(v:Value)(e:MapEntry)(es:List MapEntry)(n:Nat)(t:TypeId)(i:Nat):Instr.findNow (.array n t) v (e::es) i=none:=by
 unfold Instr.findNow;cases v<;>simp[Instr.sameNow]
theorem zh1(p:ByteArray×ByteArray)(w:World):∀(es:List MapEntry) (m:List ((ByteArray×ByteArray)×Bool)),es.map (fun e=>(e.key,e.val))=m.map (fun p=>(ekP p.1,evB p.2))->∀i,
 (Instr.findAsking 140 (ekP p) es i).run Tryz.prog w=.ok ((locate eqP p m i).map fun p=>(p.1,evB p.2)) w
 | [],[],_,_=>by simp[Instr.findAsking,locate]
 | [],_::_,h,_=>by simp at h
 |_::_,[],h,_=>by simp at h
 |e::es,q::m,h,i=>by
  simp only[List.map_cons,List.cons.injEq,Prod.mk.injEq]at h;obtain⟨⟨hk,hv⟩,ht⟩:=h;unfold Instr.findAsking locate;have h1:=equal_p p.1 p.2 q.1.1 q.1.2 w;have h2:=zh1 p w es m ht (i+1);rw[hk,hv];simp only[ekP]at h1 h2⊢;simp only[Sem.run_bind,h1,Result.andThen_ok];change Sem.run _ (if(eqP p q.1)=true then _ else _) w=_;cases hq:eqP p q.1
  ·simpa using h2
  ·simp
theorem zoz(e:Bool)(p:ByteArray×ByteArray)(w:World):(Instr.checkKey e 10000 140 (ekP p)).run Tryz.prog w=.ok () w:=by
 obtain⟨a,c⟩:=p;cases e<;>kernel_rfl
theorem zo0(a c a' c':ByteArray)(h1:a=a')(h2:c=c'):Instr.sameBits 10000 (.agg #[.string a,.string c]) (.agg #[.string a',.string c'])=true:=by
 subst h1 h2;have h2:∀n,Instr.sameBits (n+1) (.agg #[.string a,.string c]) (.agg #[.string a,.string c])=true:=fun n=>by simp[Instr.sameBits,zjw,beq_toListBytes]
 exact h2 9999
theorem eqS_eq{a b:ByteArray}(h:eqS a b=true):a=b:=za3.1 h
theorem mapPB:MapTy Tryz.prog 82 140 4 ekP evB false eqP where
 ht:=Tryz.underlying82
 hz:=fun w=>by kernel_rfl
 hck:=zoz
 hfind:=fun k es m h w=>by
  match es,m,h with
  | [],[],_=>simp[Instr.findKey,run_underlying Tryz.underlying140,Instr.findNow,locate]
  | [],_::_,h=>simp at h
  |e::es,m,h=>
   simp only[Instr.findKey,Sem.run_bind,run_underlying Tryz.underlying140,Result.andThen_ok,findNow_p];exact zh1 k w (e::es) m h 0
 hsame:=fun k k' h=>by
  obtain⟨a,c⟩:=k;obtain⟨a',c'⟩:=k';simp only[eqP,Bool.and_eq_true]at h;exact zo0 a' c' a c (eqS_eq h.1).symm (eqS_eq h.2).symm
section
def sC(s:ByteArray):List Value:=[.string s]
theorem zaH(s:ByteArray):(sC s).length=1:=rfl
theorem zbI(s:ByteArray):∀u∈sC s,u.oneCell'=true:=by simp[sC,Value.oneCell']
theorem zbn(p:ByteArray×ByteArray):(zaX p).length=2:=rfl
theorem zdJ(p:ByteArray×ByteArray):∀u∈zaX p,u.oneCell'=true:=by simp[zaX,Value.oneCell']
def ptrC(T:Nat):List Value:=[.pointer (some ⟨T,0,none⟩)]
theorem zcK(T:Nat):(ptrC T).length=1:=rfl
theorem znL(T:Nat):∀u∈ptrC T,u.oneCell'=true:=by simp[ptrC,Value.oneCell']
theorem zbJ:ElTy Tryz.prog 32 9 1 16:=zdC (z:=.string ⟨#[]⟩) Mcs Mcs rfl Mcu
theorem zg8:ElTy Tryz.prog 31 140 2 32:=zdC (z:=.agg #[.string ⟨#[]⟩,.string ⟨#[]⟩]) Mcs Mcs rfl Mcu
theorem elTomb:ElTy Tryz.prog 85 88 1 8:=zdC (z:=.pointer none) Mcs Mcs rfl Mcu
def Ro{α:Type}(W:World)(e:TypeId)(f:α->List Value)(A:Option Addr)(xs:List α):Prop:=
 0<xs.length->∃b off cur fr,A=some ⟨b,off,none⟩/\W.heap[b]?=some (.cells cur e fr)/\∀j u,(xs.flatMap f)[j]?=some u->cur[off+j]?=some u
section
variable {α:Type} {W W':World} {e:TypeId} {size base:Nat} {f:α->List Value} {A:Option Addr} {xs:List α} {v:Value}
theorem Ro.sl(ae:∀x,(f x).length=size)(h:Ro W e f A xs):Sl W size f A xs:=fun hl=>by
 obtain⟨b,off,cur,fr,hA,hb,hx⟩:=h hl;refine⟨b,off,hA,(Array.getElem?_eq_some_iff.1 hb).1,fun k x hk j u hu=>?_⟩;have:=hx (k*size+j) u (zeW f size ae xs k x hk j u hu);simp only[World.cell?,hb,Nat.add_assoc];exact this
theorem Ro.same(h:Ro W e f A xs)(hk:∀b cur fr,W.heap[b]?=some (.cells cur e fr)->(∀off,A=some ⟨b,off,none⟩->True)->W'.heap[b]?=W.heap[b]?):Ro W' e f A xs:=fun hl=>by
 obtain⟨b,off,cur,fr,hA,hb,hx⟩:=h hl;exact⟨b,off,cur,fr,hA,(hk b cur fr hb fun _ _=>trivial).trans hb,hx⟩
theorem Ro.keep{n:Nat}(h:Ro W e f A xs)(hB:Below n W W')(hn:W.heap.size<=n:=by first|exact Qc|omega):Ro W' e f A xs:=
 h.same fun b cur fr hb _=>hB.block b (Nat.lt_of_lt_of_le (Array.getElem?_eq_some_iff.1 hb).1 hn)
theorem Ro.nil:Ro W e f A ([]:List α):=fun h=>absurd h Mcv
theorem OwnS.ro(h:OwnS W base e size f v xs):∃A c,v=.slice A xs.length c/\xs.length<=c/\Ro W e f A xs:=by
 rcases h with⟨rfl,rfl⟩|⟨g,o,c,cur,rfl,_,hg,hc,_,_,hx⟩
 ·exact⟨none,0,rfl,Qc,Ro.nil⟩
 ·exact⟨_,c,rfl,hc,fun _=>⟨g,o,cur,_,rfl,hg,hx⟩⟩
theorem OwnS.kept{g:Nat}{cs:Array Value}{t:TypeId}{fr:Nat×Nat}(h:OwnS W base e size f v xs)(hg:W.grownBy W' (some g))(hx:W.heap[g]?=some (.cells cs t fr))(ag:t≠e):OwnS W' base e size f v xs:=
 h.grown hg (by
  rcases h with⟨rfl,_⟩|⟨g',o,c,cur,rfl,_,iv,_⟩
  ·exact .inl rfl
  ·refine .inr fun e'=>?_
   simp only[za6,Option.some.injEq]at e';subst e';rw[iv]at hx;simp only[Option.some.injEq,Obj.cells.injEq]at hx
   exact ag hx.2.1.symm)
theorem OwnS.keptM{g:Nat}{es:Array MapEntry}{c:Nat}(h:OwnS W base e size f v xs)(hg:W.grownBy W' (some g))(hx:W.heap[g]?=some (.map es c)):OwnS W' base e size f v xs:=
 h.grown hg (by
  rcases h with⟨rfl,_⟩|⟨g',o,c,cur,rfl,_,iv,_⟩
  ·exact .inl rfl
  ·refine .inr fun e'=>?_
   simp only[za6,Option.some.injEq]at e';subst e';rw[iv]at hx
   simp at hx)
theorem Ro.kept{g:Nat}{cs:Array Value}{t:TypeId}{fr:Nat×Nat}(h:Ro W e f A xs)(hg:W.grownBy W' (some g))(hx:W.heap[g]?=some (.cells cs t fr))(ag:t≠e):Ro W' e f A xs:=
 h.same fun b cur fr' hb _=>hg.block b (Array.getElem?_eq_some_iff.1 hb).1 (fun e'=>by
  simp only[Option.some.injEq]at e';subst e';rw[hb]at hx;simp only[Option.some.injEq,Obj.cells.injEq]at hx
  exact ag hx.2.1.symm)
theorem Ro.keptM{g:Nat}{es:Array MapEntry}{c:Nat}(h:Ro W e f A xs)(hg:W.grownBy W' (some g))(hx:W.heap[g]?=some (.map es c)):Ro W' e f A xs:=
 h.same fun b cur fr' hb _=>hg.block b (Array.getElem?_eq_some_iff.1 hb).1 (fun e'=>by
  simp only[Option.some.injEq]at e';subst e';rw[hb]at hx
  simp at hx)
end
theorem MapS.keptC{W W':World}{b g:Nat}{K V:Type}{ek:K->Value}{ev:V->Value}{m:List (K×V)}{cs:Array Value}{t:TypeId}{fr:Nat×Nat}(h:MapS W b ek ev m)(hg:W.grownBy W' (some g))(hx:W.heap[g]?=some (.cells cs t fr)):MapS W' b ek ev m:=
 h.grown hg (fun e=>by
  simp only[Option.some.injEq]at e;subst e;obtain⟨es,c,h1,_⟩:=h;rw[h1]at hx
  simp at hx)
def RowIs(W:World)(base:Nat)(m:List (ByteArray×Value))(n:ByteArray)(xs:List ByteArray):Prop:=
 (mget eqS n m=none/\xs=[])\/∃v,mget eqS n m=some v/\OwnS W base 9 1 sC v xs
def WillIs(W:World)(m:List (ByteArray×Value))(n:ByteArray)(xs:Parts):Prop:=
 (mget eqS n m=none/\xs=[])\/∃A c,mget eqS n m=some (.slice A xs.length c)/\Ro W 59 zaa A xs
def zaY(m:List (ByteArray×Value)):List Nat:=m.filterMap fun e=>za6 e.2
structure PplAt (base:Nat) (W:World) (B:List Nat) (d c p wl r:Nat) (mv:Value) (s:St):Prop where
 nd:[d,c,p,wl,r].Nodup
 ge:base<=d/\base<=c/\base<=p/\base<=wl/\base<=r
 dead:MapS W d ekS evB (s.dead.map fun n=>(n,true))
 rows:∃mc mp,MapS W c ekS (fun v:Value=>v) mc/\MapS W p ekS (fun v:Value=>v) mp/\(∀n,RowIs W base mc n (zaj s n))/\(∀n,RowIs W base mp n (zbM s n))/\B=zaY (mc++mp)/\(B.Nodup/\(mc.map (·.1)).Nodup/\(mp.map (·.1)).Nodup)
 marr:OwnS W base 140 2 zaX mv s.marriages
 wills:∃m,MapS W wl ekS (fun v:Value=>v) m/\∀n,WillIs W m n (zbx s n)
 ren:MapS W r ekP evB (s.renounce.map fun x=>(x,true))
def TombAt(W:World)(base:Nat)(B:List Nat)(T:Nat)(g:Grave):Prop:=
 ∃H hc D dc fr,zb1 W T g.place g.cls fr g.fin (.slice H g.holders.length hc) (.slice D g.died.length dc)/\base<=T/\g.holders.length<=hc/\g.died.length<=dc/\Ro W 59 zaa H g.holders/\Ro W 9 sC D g.died/\(0<g.died.length->∀a,D=some a->a.block∉B)
structure TombsAt (base:Nat) (W:World) (B:List Nat) (tv:Value) (ps:List Nat) (gs:List Grave):Prop where
 own:OwnS W base 88 1 ptrC tv ps
 len:ps.length=gs.length
 nd:ps.Nodup
 all:∀(i T:Nat) (g:Grave),ps[i]?=some T->gs[i]?=some g->TombAt W base B T g
def WldC(W:World)(b d c p wl r:Nat)(mv tv:Value)(last count:Int):Prop:=W.heap[b]?=some (.cells #[.map (some d),.map (some c),.map (some p),mv,.map (some wl),.map (some r),tv,.int .i64 last,.int .i64 count] 87)
def WldAt(base:Nat)(W:World)(b:Nat)(s:St)(last count:Int):Prop:=
 ∃B d c p wl r mv tv ps,base<=b/\WldC W b d c p wl r mv tv last count/\PplAt base W B d c p wl r mv s/\TombsAt base W B tv ps s.graves
def PeoAt(base:Nat)(W:World)(b:Nat)(s:St):Prop:= ∃B d c p wl r mv tv la co,WldC W b d c p wl r mv tv la co/\PplAt base W B d c p wl r mv s
section
variable {base n:Nat} {W W':World} {B:List Nat} {d c p wl r:Nat} {mv tv:Value} {s:St} {m:List (ByteArray×Value)} {nm:ByteArray}
theorem RowIs.keep{xs:List ByteArray}(h:RowIs W base m nm xs)(hB:Below n W W')(hn:W.heap.size<=n:=by first|exact Qc|omega):RowIs W' base m nm xs:=by
 rcases h with h|⟨v,h1,h2⟩
 ·exact .inl h
 ·exact .inr ⟨v,h1,h2.keep hB hn⟩
theorem WillIs.keep{xs:Parts}(h:WillIs W m nm xs)(hB:Below n W W')(hn:W.heap.size<=n:=by first|exact Qc|omega):WillIs W' m nm xs:=by
 rcases h with h|⟨A,c,h1,h2⟩
 ·exact .inl h
 ·exact .inr ⟨A,c,h1,h2.keep hB hn⟩
theorem PplAt.keep(h:PplAt base W B d c p wl r mv s)(hB:Below n W W')(hn:W.heap.size<=n:=by first|exact Qc|omega):PplAt base W' B d c p wl r mv s:=by
 obtain⟨mc,mp,k1,k2,k3,k4,k5,k6⟩:=h.rows;obtain⟨m,k7,k8⟩:=h.wills;exact⟨h.nd,h.ge,h.dead.below hB hn,⟨mc,mp,k1.below hB hn,k2.below hB hn,fun x=>(k3 x).keep hB hn,fun x=>(k4 x).keep hB hn,k5,k6⟩,h.marr.keep hB hn,⟨m,k7.below hB hn,fun x=>(k8 x).keep hB hn⟩,h.ren.below hB hn⟩
theorem TombAt.keep{T:Nat}{g:Grave}(h:TombAt W base B T g)(hB:Below n W W')(hn:W.heap.size<=n:=by first|exact Qc|omega):TombAt W' base B T g:=by
 obtain⟨H,hc,D,dc,fr,h1,h2,h3,h4,h5,h6,h7⟩:=h;exact⟨H,hc,D,dc,fr,(hB.block T (Nat.lt_of_lt_of_le (zab h1) hn)).trans h1,h2,h3,h4,h5.keep hB hn,h6.keep hB hn,h7⟩
theorem TombsAt.keep{ps:List Nat}{gs:List Grave}(h:TombsAt base W B tv ps gs)(hB:Below n W W')(hn:W.heap.size<=n:=by first|exact Qc|omega):TombsAt base W' B tv ps gs:=
 ⟨h.own.keep hB hn,h.len,h.nd,fun i T g h1 h2=>(h.all i T g h1 h2).keep hB hn⟩
theorem WldC.keep{b:Nat}{la co:Int}(h:WldC W b d c p wl r mv tv la co)(hB:Below n W W')(hn:W.heap.size<=n:=by first|exact Qc|omega):WldC W' b d c p wl r mv tv la co:=
 (hB.block b (Nat.lt_of_lt_of_le (zab h) hn)).trans h
theorem WldAt.keep{b:Nat}{la co:Int}(h:WldAt base W b s la co)(hB:Below n W W')(hn:W.heap.size<=n:=by first|exact Qc|omega):WldAt base W' b s la co:=by
 obtain⟨B,d,c,p,wl,r,mv,tv,ps,h1,h2,h3,h4⟩:=h;exact⟨B,d,c,p,wl,r,mv,tv,ps,h1,h2.keep hB hn,h3.keep hB hn,h4.keep hB hn⟩
theorem PeoAt.keep{b:Nat}(h:PeoAt base W b s)(hB:Below n W W')(hn:W.heap.size<=n:=by first|exact Qc|omega):PeoAt base W' b s:=by
 obtain⟨B,d,c,p,wl,r,mv,tv,la,co,h1,h2⟩:=h;exact⟨B,d,c,p,wl,r,mv,tv,la,co,h1.keep hB hn,h2.keep hB hn⟩
theorem WldAt.peo{b:Nat}{la co:Int}(h:WldAt base W b s la co):PeoAt base W b s:=by
 obtain⟨B,d,c,p,wl,r,mv,tv,ps,h1,h2,h3,h4⟩:=h;exact⟨B,d,c,p,wl,r,mv,tv,la,co,h2,h3⟩
theorem WldAt.lt{b:Nat}{la co:Int}(h:WldAt base W b s la co):b<W.heap.size/\base<=b:=by
 obtain⟨B,d,c,p,wl,r,mv,tv,ps,h1,h2,h3,h4⟩:=h;exact⟨zab h2,h1⟩
end
theorem PplAt.kept{base:Nat}{W W':World}{B:List Nat}{d c p wl r g:Nat}{mv:Value}{s:St}{cs:Array Value}{t:TypeId}{fr:Nat×Nat}(h:PplAt base W B d c p wl r mv s)(hg:W.grownBy W' (some g))(hx:W.heap[g]?=some (.cells cs t fr))
 (h1:t≠9)(h2:t≠140)(h3:t≠59):PplAt base W' B d c p wl r mv s:=by
 obtain⟨mc,mp,k1,k2,k3,k4,k5,k6⟩:=h.rows;obtain⟨m,k7,k8⟩:=h.wills;have aX:∀ {m:List (ByteArray×Value)} {nm:ByteArray} {xs:List ByteArray},RowIs W base m nm xs->RowIs W' base m nm xs:=fun h=>by
  rcases h with h|⟨v,pU,JW⟩
  ·exact .inl h
  ·exact .inr ⟨v,pU,JW.kept hg hx h1⟩
 refine⟨h.nd,h.ge,h.dead.keptC hg hx,⟨mc,mp,k1.keptC hg hx,k2.keptC hg hx,fun x=>aX (k3 x),fun x=>aX (k4 x),k5,k6⟩,h.marr.kept hg hx h2,⟨m,k7.keptC hg hx,fun x=>?_⟩,h.ren.keptC hg hx⟩;rcases k8 x with h'|⟨A,c,e1,e2⟩
 ·exact .inl h'
 ·exact .inr ⟨A,c,e1,e2.kept hg hx h3⟩
end
section
open Go.Shelf
attribute [local go_sem] zap zac
theorem zhN(n:ByteArray):∀l:List ByteArray,(mget eqS n (l.map fun x=>(x,true))).getD false=l.any (zaf n)
 | []=>rfl
 |x::l=>by
  rw[List.map_cons,mget,List.any_cons];show(if eqS n x=true then some true else _).getD false=_;have e:eqS n x=zaf n x:=rfl;rw[e];cases h:zaf n x
  ·simpa using zhN n l
  ·rfl
theorem zmC(k:ByteArray×ByteArray):∀l:List (ByteArray×ByteArray),(mget eqP k (l.map fun x=>(x,true))).getD false=l.any fun r=>zaf r.1 k.1&&zaf r.2 k.2
 | []=>rfl
 |x::l=>by
  rw[List.map_cons,mget,List.any_cons];have e1:∀a b:ByteArray,zaf a b=zaf b a:=fun a b=>by
   rw[Bool.eq_iff_iff,za3,za3];exact⟨Eq.symm,Eq.symm⟩
  have e:eqP k x=(zaf x.1 k.1&&zaf x.2 k.2):=by rw[e1 x.1,e1 x.2];rfl
  show(if eqP k x=true then some true else _).getD false=_;rw[e];cases h:(zaf x.1 k.1&&zaf x.2 k.2)
  ·simpa using zmC k l
  ·rfl
theorem zd0{base:Nat}{W:World}{B:List Nat}{d c p wl r:Nat}{mv:Value}{s:St}(h:PplAt base W B d c p wl r mv s)(n:ByteArray):
 (Instr.lookup 79 (.map (some d)) (.string n) false).run Tryz.prog W=.ok (.bool (zaP s n)) W:=by
 have:=zcp mapSB h.dead.at n;rw[zhN]at this;exact this
theorem znM{base:Nat}{W:World}{B:List Nat}{d c p wl r:Nat}{mv:Value}{s:St}(h:PplAt base W B d c p wl r mv s)(a b:ByteArray):
 (Instr.lookup 82 (.map (some r)) (.agg #[.string a,.string b]) false).run Tryz.prog W=.ok (.bool (s.renounce.any fun x=>zaf x.1 a&&zaf x.2 b)) W:=by
 have:=zcp mapPB h.ren.at (a,b);rw[zmC]at this;exact this
theorem PplAt.drewN{base:Nat}{W:World}{B:List Nat}{d c p wl r:Nat}{mv:Value}{s:St}(h:PplAt base W B d c p wl r mv s)(q:Nat):PplAt base (W.drewN q) B d c p wl r mv s:=h.keep (n:=W.heap.size) ⟨rfl,rfl,rfl,Qc,fun _ _=>rfl⟩
theorem zll(base b X:Nat)(s:St)(q:RPart)(w:World)(hW:PeoAt base w b s)(hX:X<w.heap.size)(hc:w.cell? ⟨X,0,none⟩=some (.pointer (some ⟨b,0,none⟩))):
 Calls Tryz.prog 134 #[.agg #[.string q.name,.int .i64 q.num,.int .i64 q.den],.pointer (some ⟨X,0,none⟩)] w (Ret w (.bool (zaP s q.name))):=by
 obtain⟨B,d,c,p,wl,r,mv,tv,la,co,h1,h2⟩:=hW;have hb:=zab h1;unfold WldC at h1;have c0:w.cell? ⟨b,0,none⟩=some (.map (some d)):=by simp[World.cell?,h1]
 have fL:∀o q',(Instr.lookup 79 (.map (some d)) (.string q.name) false).run Tryz.prog ((w.alloc o).drewN q')=.ok (.bool (zaP s q.name)) ((w.alloc o).drewN q'):=fun o q'=>zd0 ((h2.keep (n:=w.heap.size) (zad Qb o)).drewN q') _
 have hXn:X≠w.heap.size:=Mcq;have i8:b≠w.heap.size:=Mcq;clear h1 h2;go_enter Tryz.func134,Tryz.ntmps134
 go_wp2_with fail
 go_quiet (fail)
 exact MbK
theorem zko(base b X:Nat)(s:St)(xs:List RPart)(w:World)(hW:PeoAt base w b s)(hX:X<w.heap.size)(hc:w.cell? ⟨X,0,none⟩=some (.pointer (some ⟨b,0,none⟩))):
 zeZ 134 #[.pointer (some ⟨X,0,none⟩)] (fun x=> .agg (RPart.cells x).toArray) (fun q=>zaP s q.name) xs w:=fun x _ W hB=>by
 refine(zll base b X s x W (hW.keep hB) (Nat.lt_of_lt_of_le hX hB.size) ((hB.cell (p:=⟨X,0,none⟩) hX).trans hc)).mono ?_;rintro e wq ⟨rfl,z,rfl⟩;exact⟨rfl,hB.trans ((zaq W z).mono hB.size)⟩
theorem zix(base b:Nat)(s:St)(xs:List RPart)(A:Option Addr)(n c:Nat)(w:World)(hn:n=xs.length)(hl:xs.length<=100000)(hW:PeoAt base w b s)(hS:Sl w 3 RPart.cells A xs):
 Calls Tryz.prog 86 #[.pointer (some ⟨b,0,none⟩),.slice A n c] w (Ret w (.bool (ze1 s xs))):=by
 have eg:∀args w,(callFunc 134 args).run Tryz.prog w=.ok (.enter 134 args) w:=enters_of Tryz.func134 Mcs rfl;obtain⟨HS,HW,HN⟩:=yH3 hS hW hn;clear hS hW hn;go_enter Tryz.func86,Tryz.ntmps86
 go_wp2_with (go_at_call 47
              refine(zcf _ _ eg (fun q=>zaP s q.name) _ n _ xs _ HN.o hl (HS.o.keep (n:=w.heap.size) Bw) (zko base b _ s xs _ (HW.o.keep (n:=w.heap.size) Bw) Mcv Mc0)).mono ?_
              rintro e wq ⟨rfl,z,rfl⟩)
 go_ret
 exact Ret.of rfl Bw
theorem coStr_any(xs:List ByteArray)(x:ByteArray)(A:Option Addr)(n c:Nat)(w:World)(hn:n=xs.length)(hl:xs.length<=100000)(hS:Sl w 1 sC A xs):
 Calls Tryz.prog 98 #[.slice A n c,.string x] w (Ret0 w (.bool (xs.any (zaf x)))):=by
 subst hn;by_cases h0:xs.length=0
 ·have hx:xs=[]:=List.eq_nil_of_length_eq_zero h0;subst hx;have ba:=AnyE.slices_Contains_empty coStr A c (.string x) w;change Calls Tryz.prog 98 _ _ _ at ba;exact Mbj
 ·obtain⟨b,off,rfl,hb,hc⟩:=hS Mcq;haveI:Inhabited ByteArray:=⟨⟨#[]⟩⟩
  have ba:=AnyE.slices_Contains coStr Value.string (fun a b:ByteArray=>a.toList==b.toList) (EqlAt.string _ _) b off xs.length c xs x w Qc Mcq (fun j hj=>by
   rw[getElem!_pos xs j hj];have:=hc j _ (List.getElem?_eq_getElem hj) 0 _ rfl
   simpa using this)
  rw[List.take_of_length_le Qc]at ba;change Calls Tryz.prog 98 _ _ _ at ba;exact Mbj
end
open Go.Shelf
attribute [local go_sem] Oper.semAt_some
abbrev Pair2:=ByteArray×ByteArray
def pr0:Pair2:=(⟨#[]⟩,⟨#[]⟩)
def zef(ms:List Pair2)(k:Nat):List (Int×Pair2):=(List.range k).map fun j=>(((ms.length-1-j:Nat):Int),ms.getD (ms.length-1-j) pr0)
theorem zmD(ms:List Pair2)(k:Nat):zef ms (k+1)=zef ms k++[(((ms.length-1-k:Nat):Int),ms.getD (ms.length-1-k) pr0)]:=by
 unfold zef;rw[List.range_succ,List.map_append];rfl
theorem zo1(ms:List Pair2)(k:Nat):(zef ms k).length=k:=by simp[zef]
theorem zo2(ms:List Pair2):(zef ms ms.length).map (·.2)=ms.reverse:=by
 unfold zef;apply List.ext_getElem
 ·simp
 ·intro i h1 h2;simp at h1;rw[List.getElem_reverse];exact Mby
theorem zmE(ms:List Pair2)(k:Nat)(hk:k<=ms.length):(zef ms k).map Prod.snd=ms.reverse.take k:=by
 unfold zef;apply List.ext_getElem
 ·simp;omega
 ·intro i h1 h2;simp at h1;rw[List.getElem_take,List.getElem_reverse];exact Mby
def encB(x:Int×Pair2):Array Value:= #[.int .i64 x.1,.agg #[.string x.2.1,.string x.2.2]]
theorem back1_in(n:Nat)(hn:1<=n)(l n₀ Bs:Nat)(ms:List Pair2)(A:Option Addr)(c:Nat)(hl:ms.length<=100000)(J Jx:List (Int×Pair2)->World->Prop)
 (hY:∀pre x W,J pre W->pre.length<ms.length->YieldAt Fence.wide (n-1) Tryz.prog l (encB x) W fun e W'=>
   (e=.returned (.bool true)/\J (pre++[x]) W'/\Below n₀ W W')\/(e=.returned (.bool false)/\Jx (pre++[x]) W'))
 (W:World)(wk:Bs<n₀)(CJ:W.cell? ⟨Bs,0,none⟩=some (.slice A ms.length c))(hS:∀W',Below n₀ W W'->Sl W' 2 zaX A ms)(h0:J [] W):
 CallsIn Fence.wide n Tryz.prog 168 #[.func (.yield l) #[] #[],.pointer (some ⟨Bs,0,none⟩)] W fun e W'=>(∃v,e=.returned v)/\
  ((∃ys,ys=zef ms ms.length/\J ys W')\/(∃pre,(∃k,k<=ms.length/\pre=zef ms k)/\Jx pre W')):=by
 refine callsIn_of_wp Tryz.func168 rfl trivial ?_ rfl;simp only[Tryz.ntmps168,List.size_toArray,List.length_cons,List.length_nil,Nat.reduceAdd,Nat.reduceSub,Array.replicate_succ,Array.replicate_zero,List.push_toArray,List.append_toArray,List.nil_append,List.cons_append];have uJ:IntKind.i64.wrap ((ms.length:Int)-1)=(ms.length:Int)-1:=IntWalk.i64_in _ Mcq;gi_wp2
 gi_loopw [3] (fun i wr=>∃k:Nat,k<=ms.length/\i=.int .i64 ((ms.length:Int)-1-k)/\J (zef ms k) wr/\Below n₀ W wr) (fun i _=>(intOf i+1).toNat)
 case atStart=>exact⟨0,Nat.zero_le _,by simp,h0,Qb⟩
 case round=>
  obtain⟨k,hk,rfl,Ge,hB⟩:=hrel;have aQ:wr.cell? ⟨Bs,0,none⟩=some (.slice A ms.length c):=(hB.cell (p:=⟨Bs,0,none⟩) wk).trans CJ;by_cases aa:k<ms.length
  ·have hi:ms.length-1-k<ms.length:=Mcq;obtain⟨b,off,rfl,hb,hc⟩:=(hS wr hB).at hi;obtain⟨fn,tmps,assign,body,hy,hR⟩:=hY _ (((ms.length-1-k:Nat):Int),ms.getD (ms.length-1-k) pr0) wr Ge (by rw[zo1];exact aa);have bL:ms.getD (ms.length-1-k) pr0=ms[ms.length-1-k]:=by rw[List.getD_eq_getElem?_getD,List.getElem?_eq_getElem hi];rfl
   have HT:=zHi (zmD ms k);rw[bL]at hy hR;have HG:=zHi bL;clear bL;generalize ms[ms.length-1-k]=m at hc hy hR HG;obtain⟨m1,m2⟩:=m;have c0:wr.cell? ⟨b,off+(ms.length-1-k)*2,none⟩=some (.string m1):=hc 0 _ rfl;have c1:wr.cell? ⟨b,off+(ms.length-1-k)*2+1,none⟩=some (.string m2):=hc 1 _ rfl;obtain⟨j,hj⟩:∃j:Nat,j=ms.length-1-k:=⟨_,rfl⟩
   rw[<-hj]at c0 c1 hy hR HT HG hi;have bF:(ms.length:Int)-1-k=(j:Int):=Mcq;have sW:(0:Int)<=(j:Int):=Mcq;have bM:(j:Int)<(ms.length:Int):=Mcq;rw[bF];have HJ:=zHi bF;clear bF hj hc;simp only[encB]at hy hR;gi_wp2
   refine hR.mono ?_;rintro e W3 (⟨rfl,Kj,uy⟩|⟨rfl,CZ⟩)
   ·have kg:IntKind.i64.wrap ((j:Int)-1)=(j:Int)-1:=IntWalk.i64_in _ Mcq;have L9:W3.cell? ⟨Bs,0,none⟩=some (.slice (some ⟨b,off,none⟩) ms.length c):=(uy.cell (p:=⟨Bs,0,none⟩) wk).trans aQ;gi_wp2
    go_roundw
    case rel=>exact⟨k+1,by omega,by have:=HJ.o;exact zcd Mcq,by rw[HT.o,HG.o];exact Kj,hB.trans uy⟩
    case measure=>(have:=HJ.o;simp[intOf];first|done|omega)
   ·gi_wp2
    refine bodyPost_ret (results_none rfl _ _ _) rfl ?_;exact⟨⟨_,rfl⟩,.inr ⟨_,⟨k+1,by omega,rfl⟩,by rw[HT.o,HG.o];exact CZ⟩⟩
  ·obtain rfl:k=ms.length:=by omega
   have pm:(ms.length:Int)-1-(ms.length:Int)= -1:=Mcq;rw[pm];gi_wp2
   go_end0
   exact⟨⟨_,rfl⟩,.inl ⟨_,rfl,Ge⟩⟩
theorem back1_seq(n:Nat)(hn:1<=n)(n₀ Bs:Nat)(ms:List Pair2)(A:Option Addr)(c:Nat)(hl:ms.length<=100000)(w:World)(I5:n₀<=w.heap.size)(wk:Bs<n₀)(CJ:w.cell? ⟨Bs,0,none⟩=some (.slice A ms.length c))(hS:∀W',Below n₀ w W'->Sl W' 2 zaX A ms):
 SeqStopsK Fence.wide n Tryz.prog 168 #[.pointer (some ⟨Bs,0,none⟩)] encB (Below n₀) (fun ys=>ys=zef ms ms.length) (fun pre=>∃k,k<=ms.length/\pre=zef ms k) ms.length w:=fun l J Jx W hW _ _ hY Ki=>
 back1_in n hn l n₀ Bs ms A c hl J Jx hY W wk ((hW.cell (p:=⟨Bs,0,none⟩) (Nat.lt_of_lt_of_le wk I5)).trans CJ) (fun W' h=>hS W' ((hW.mono I5).trans h)) Ki
theorem zlm{fn:Func}{p:Tmp}(h:fn.results= #[.cell p 9])(tmps:Array Value)(w:World)(B:Nat)(x:ByteArray)(hp:tmps.getD p undef=.pointer (some ⟨B,0,none⟩))
 (h0:w.cell? ⟨B,0,none⟩=some (.string x)):(results fn tmps).run Tryz.prog w=.ok (.string x) w:=by
 rw[zdL h,hp];go_simp
theorem back_any(A:Option Addr)(n c:Nat)(w:World):Calls Tryz.prog 146 #[.slice A n c] w fun e w'=>e=.returned (.func (.func 168) #[] #[.pointer (some ⟨w.heap.size,0,none⟩)])/\w'=w.alloc (.cells #[.slice A n c] 31):=by
 go_enter Tryz.func146,Tryz.ntmps146
 go_wp2_with fail
 go_ret
 exact⟨rfl,rfl⟩
def hasN(m:Pair2)(n:ByteArray):Bool:=zaf m.1 n||zaf m.2 n
def zeQ(m:Pair2)(n:ByteArray):ByteArray:=if zaf m.1 n then m.2 else m.1
theorem ziy{n:ByteArray}:∀ {l:List Pair2},(∀m∈l,hasN m n=false)->zds n l=⟨#[]⟩
 | [],_=>rfl
 |m::l,h=>by
  have h0:=h m Mcv;simp only[hasN,Bool.or_eq_false_iff]at h0;rw[zds,h0.1,h0.2];simpa using ziy fun x hx=>h x Mdl
theorem ziz{n:ByteArray}{m:Pair2}{b:List Pair2}(hm:hasN m n=true):∀ {a:List Pair2},(∀m∈a,hasN m n=false)->zds n (a++m::b)=zeQ m n
 | [],_=>by
   rw[List.nil_append,zds,zeQ];cases h:zaf m.1 n
   ·simp only[hasN,h,Bool.false_or]at hm;simp[hm]
   ·simp
 |x::a,h=>by
  have h0:=h x Mcv;simp only[hasN,Bool.or_eq_false_iff]at h0;rw[List.cons_append,zds,h0.1,h0.2];simpa using ziz hm fun x hx=>h x Mdl
def marks5(Ds:List Nat):List Deferred:=Ds.map fun D=> {target:=.collected D,args:= #[]}
theorem zeA{F:Fence}{n:Nat}{P:Program}{fn:Func}{tmps:Array Value}{R:Ending->World->Prop}{base:Nat}:∀(Ds:List Nat) (w:World),Ds.Nodup->(∀D∈Ds,base<=D/\w.heap[D]?=some (.deferred (some [])))->
 (∀w',Below base w w'->(∀(k:Nat) (cs:Array Value) (t:TypeId) (fr:Nat×Nat),w.heap[k]?=some (.cells cs t fr)->w'.heap[k]?=some (.cells cs t fr))->∃v,(results fn tmps).run P w'=.ok v w'/\R (.returned v) w')->
 LeavesInM F n P fn tmps R (marks5 Ds) .returning w
 | [],w,_,_,h=>h w Qb fun _ _ _ _ h=>h
 |D::Ds,w,cR,hD,h=>by
  obtain⟨hb,hK⟩:=hD D Mcv;have yk:=List.nodup_cons.1 cR;refine⟨by simp,.inl ⟨D,_,rfl,run_takeDeferred hK,?_⟩⟩;have hp:∀k,k≠D->(w.putObj D (.deferred none)).heap[k]?=w.heap[k]?:=fun k hk=>by
   simp only[World.putObj,Array.getElem?_setIfInBounds];rw[if_neg (fun e=>hk e.symm)]
  refine zeA Ds (w.putObj D (.deferred none)) yk.2 (fun D' rT=>⟨(hD D' (by simp[rT])).1,(hp D' (fun e=>yk.1 (e▸rT))).trans (hD D' (by simp[rT])).2⟩) fun w' hB hc=>?_
  refine h w' (Below.trans (⟨rfl,rfl,rfl,by simp[World.putObj],fun k hk=>hp k Mcq⟩:Below base w (w.putObj D (.deferred none))) hB) fun k cs t fr hk=>hc k cs t fr ((hp k (fun e=>?_)).trans hk)
  subst e;rw[hK]at hk;cases hk
theorem znN{A B:World}{row:Option Nat}{k:Nat}{cs:Array Value}{t:TypeId}{fr:Nat×Nat}(h:A.heap[k]?=some (.cells cs t fr))(hg:A.grownBy B row)(hr:∀r,row=some r->∃o:Obj,A.heap[r]?=some o/\o.isCells=false):B.heap[k]?=some (.cells cs t fr):=
 (hg.block k (zab h) (fun e=>by
   obtain⟨o,ho,hc⟩:=hr k e.symm;rw[h]at ho;simp only[Option.some.injEq]at ho;subst ho
   cases hc)).trans h
def SpI(x:ByteArray)(W0:World)(pre:List (Int×Pair2))(W:World):Prop:=(∀m∈pre.map Prod.snd,hasN m x=false)/\Qa W0 W
def SpIx(s:St)(x:ByteArray)(w:World)(c:Code)(pre:List (Int×Pair2))(W:World):Prop:=
 (c=.ret/\∃a m,pre.map Prod.snd=a++[m]/\(∀y∈a,hasN y x=false)/\hasN m x=true/\W.heap[w.heap.size+1+1]?=some (.cells #[.string (if zaP s (zeQ m x)then⟨#[]⟩else zeQ m x)] 9 (0,0)))/\Qa w W
theorem spouse_in(base b:Nat)(s:St)(x:ByteArray)(w:World)(hW:PeoAt base w b s)(hl:s.marriages.length<=100000):
 CallsIn Fence.wide 9 Tryz.prog 97 #[.pointer (some ⟨b,0,none⟩),.string x] w (Ret w (.string (zaM s x))):=by
 obtain⟨B,d,c,p,wl,r,mv,tv,la,co,h1,h2⟩:=hW;obtain⟨A,cc,rfl,hS,hc⟩:=h2.marr.sl zbn;have hb:=zab h1;unfold WldC at h1;have c3:w.cell? ⟨b,3,none⟩=some (.slice A s.marriages.length cc):=by simp[World.cell?,h1]
 obtain⟨HS,H1,H2⟩:=yH3 hS h1 h2;clear h1 h2 hS;refine callsIn_of_wp_marks Tryz.func97 rfl trivial ?_ rfl;simp only[Tryz.ntmps97,List.size_toArray,List.length_cons,List.length_nil,Nat.reduceAdd,Nat.reduceSub,Array.replicate_succ,Array.replicate_zero,List.push_toArray,List.append_toArray,List.nil_append,List.cons_append];have aO:b≠w.heap.size:=Mcq;have bC:b≠w.heap.size+1:=Mcq;gi_wp2_with (refine⟨trivial,?_⟩;gi_at_call 146;refine(callsIn_wide.2 (back_any _ _ _ _)).mono ?_;rintro e wq ⟨rfl,rfl⟩)
 generalize am:((((w.alloc (.cells #[.pointer (some ⟨b,0,none⟩)] 139)).alloc (.cells #[.string x] 9)).alloc (.cells #[.string ⟨#[]⟩] 9)).alloc (.cells #[.slice A s.marriages.length cc] 31))=W0;have lz:W0.heap.size=w.heap.size+4:=by rw[<-am];simp
 have s0:W0.heap[w.heap.size]?=some (.cells #[.pointer (some ⟨b,0,none⟩)] 139 (0,0)):=by rw[<-am];exact zal (zal (zal (zat _ _ _ rfl)))
 have s1:W0.heap[w.heap.size+1]?=some (.cells #[.string x] 9 (0,0)):=by rw[<-am];exact zal (zal (zat _ _ _ Mcv))
 have s2:W0.heap[w.heap.size+1+1]?=some (.cells #[.string ⟨#[]⟩] 9 (0,0)):=by rw[<-am];exact zal (zat _ _ _ Mcv)
 have s3:W0.heap[w.heap.size+1+1+1]?=some (.cells #[.slice A s.marriages.length cc] 31 (0,0)):=by rw[<-am];exact zat _ _ _ Mcv
 have aS:Qa w W0:=by rw[<-am];exact Bw
 have aW:W0.cell? ⟨w.heap.size+1+1+1,0,none⟩=some (.slice A s.marriages.length cc):=by simp[World.cell?,s3]
 clear am;obtain⟨S0,S1,S2⟩:=yH3 s0 s1 s2;clear s0 s1 s2 s3;refine wpIn_rangeFunc_ownH rfl Mcq (gf:=168) (lb:= #[.pointer (some ⟨w.heap.size+1+1+1,0,none⟩)]) rfl trivial (enters_of Tryz.func168 Mcs rfl)
  (back1_seq (9-1) Mcq W0.heap.size (w.heap.size+1+1+1) s.marriages A cc hl W0 Qc Mcq aW (fun W' h=>(HS.o.keep aS).keep h)) belowK_t (belowK_b Qc) Qb (fun _=>rfl)
  (fun(pre:List (Int×Pair2)) W=>SpI x W0 pre W)
  (fun c (pre:List (Int×Pair2)) W=>SpIx s x w c pre W)
  (fun s A B row hs hg hr=>⟨hs.1,hs.2.grown hg hs.2.size (fun r e=>(hr r e).1)⟩)
  (fun cc s A B row hs hg hr=>⟨by obtain⟨⟨h1,a,m,h2,h3,h4,h5⟩,_⟩:=hs;exact⟨h1,a,m,h2,h3,h4,znN h5 hg (fun r e=>(hr r e).2)⟩,hs.2.grown hg hs.2.size (fun r e=>by have:=(hr r e).1;omega)⟩)
  ⟨by simp,Qb⟩
  (fun y a' W=>∃Bx,W0.heap.size<=Bx/\W.heap[Bx]?=some (.cells #[.string y.2.1,.string y.2.2] 140 (0,0))/\a'= {tmps:= #[.pointer (some ⟨b,0,none⟩),.string x,.pointer (some ⟨w.heap.size,0,none⟩),.pointer (some ⟨w.heap.size+1,0,none⟩),.pointer (some ⟨w.heap.size+1+1,0,none⟩),undef,.pointer (some ⟨Bx,0,none⟩),undef,undef,undef,.pointer (some ⟨b,0,none⟩),.pointer (some ⟨b,0,none⟩),.pointer (some ⟨b,3,none⟩),.slice A s.marriages.length cc,.func (.func 168) #[] #[.pointer (some ⟨w.heap.size+1+1+1,0,none⟩)],.int .i64 y.1,.agg #[.string y.2.1,.string y.2.2],undef,undef,undef,undef,undef,undef,undef,undef,undef,undef,undef,undef,undef,undef,undef,undef,undef,undef,undef,undef,undef],defers:=[]})
  (fun y a' s A B row hs hg hr=>by obtain⟨Bx,h1,h2,h3⟩:=hs;exact⟨Bx,h1,znN h2 hg (fun r e=>(hr r e).2),h3⟩) ?assign ?body ?done ?stop
 case assign=>
  rintro l pre ⟨yi,y1,y2⟩ W K hi hK;simp only[encB];gi_wp2
  exact hK _ _ ((KeepsOthers.alloc _ _).from _) (zad Qb _ hi.2.size) ⟨hi.1,zad hi.2 _⟩ ⟨W.heap.size,hi.2.size,zat _ _ _ rfl,rfl⟩
 case body=>
  rintro l pre ⟨yi,y1,y2⟩ a' W hWl _ ⟨hp,eQ⟩ ⟨Bx,eE,fw,rfl⟩ ae;simp only at fw;have t0:=(eQ.block w.heap.size Mcq).trans S0.o;have t1:=(eQ.block (w.heap.size+1) Mcq).trans S1.o;have t2:=(eQ.block (w.heap.size+1+1) Mcq).trans S2.o;have tW:=(eQ.block b Mcq).trans ((aS.block b hb).trans H1.o);have De:=H2.o.keep (aS.trans (eQ.mono Mcq));have k0:W.cell? ⟨w.heap.size,0,none⟩=some (.pointer (some ⟨b,0,none⟩)):=by simp[World.cell?,t0]
  have k1:W.cell? ⟨w.heap.size+1,0,none⟩=some (.string x):=by simp[World.cell?,t1]
  have k2:W.cell? ⟨w.heap.size+1+1,0,none⟩=some (.string ⟨#[]⟩):=by simp[World.cell?,t2]
  have k3:W.frozen? ⟨w.heap.size+1+1,0,none⟩=false:=by simp[World.frozen?,t2]
  have k4:W.cell? ⟨b,0,none⟩=some (.map (some d)):=by simp[World.cell?,tW]
  have k5:W.cell? ⟨Bx,0,none⟩=some (.string y1):=by simp[World.cell?,fw]
  have k6:W.cell? ⟨Bx,1,none⟩=some (.string y2):=by simp[World.cell?,fw]
  have l1:=zd0 De y1;have l2:=zd0 De y2;obtain⟨aU,HP,T2⟩:=yH3 eQ hp t2;clear t0 t1 t2 tW De hp;have Ly:∀W:World,Sem.run Tryz.prog (Instr.index 140 (.agg #[.string y1,.string y2]) (.int .i64 0)) W=.ok (.string y1) W:=fun W=>by kernel_rfl
  have Lz:∀W:World,Sem.run Tryz.prog (Instr.index 140 (.agg #[.string y1,.string y2]) (.int .i64 1)) W=.ok (.string y2) W:=fun W=>by kernel_rfl
  gi_wp2
  gi_loopw [18] (fun i wr=>∃k:Nat,k<=2/\i=.int .i64 k/\wr=W/\Hid ((0<k->zaf y1 x=false)/\(1<k->zaf y2 x=false))) (fun i _=>2-(intOf i).toNat)
  case atStart=>exact⟨0,by omega,rfl,rfl,⟨by omega,by omega⟩⟩
  case round=>
   obtain⟨k,hk,rfl,rfl,hs⟩:=hrel;obtain rfl|rfl|rfl:k=0\/k=1\/k=2:=by omega
   ·rw[show((0:Nat):Int)=0 from rfl];by_cases h1:y1.toList=x.toList
    ·have aO:(y1.toList==x.toList)=true:=McZ;have hm:hasN (y1,y2) x=true:=by simp[hasN,zei h1]
     have ho:zeQ (y1,y2) x=y2:=by simp[zeQ,zei h1]
     obtain⟨HM,HO⟩:=yH2 hm ho;clear hm ho;cases hd:zaP s y2
     ·rw[hd]at l2;gi_wp2
      have g2:=Boxed.set (.string y2) T2.o;have HD:=zHi hd;have bH:∀i,SpIx s x w .ret (pre++[(i,y1,y2)]) (wr.setCell ⟨w.heap.size+1+1,0,none⟩ (.string y2)):=fun i=>⟨⟨rfl,pre.map Prod.snd,(y1,y2),by simp,HP.o,HM.o,by rw[HO.o,HD.o];exact g2⟩,zaN (aS.trans (aU.o.mono Mcq)) Mcw _⟩
      exact Mag
     ·rw[hd]at l2;exact MT
    ·have mz:(y1.toList==x.toList)=false:=McZ;have HN:Hid ((0<1->zaf y1 x=false)/\(1<1->zaf y2 x=false)):=⟨fun _=>ze3 h1,by omega⟩
     gi_wp2
     exact⟨⟨1,by omega,rfl,trivial,HN⟩,by simp[intOf]⟩
   ·rw[show((1:Nat):Int)=1 from rfl];by_cases h2:y2.toList=x.toList
    ·have mz:(y2.toList==x.toList)=true:=Mei;have hm:hasN (y1,y2) x=true:=by simp[hasN,zei h2]
     have ho:zeQ (y1,y2) x=y1:=by simp[zeQ,hs.o.1 Mcq]
     obtain⟨HM,HO⟩:=yH2 hm ho;clear hm ho;cases hd:zaP s y1
     ·rw[hd]at l1;gi_wp2
      have g2:=Boxed.set (.string y1) T2.o;have HD:=zHi hd;have bH:∀i,SpIx s x w .ret (pre++[(i,y1,y2)]) (wr.setCell ⟨w.heap.size+1+1,0,none⟩ (.string y1)):=fun i=>⟨⟨rfl,pre.map Prod.snd,(y1,y2),by simp,HP.o,HM.o,by rw[HO.o,HD.o];exact g2⟩,zaN (aS.trans (aU.o.mono Mcq)) Mcw _⟩
      exact Mag
     ·rw[hd]at l1;exact MT
    ·have mz:(y2.toList==x.toList)=false:=Mei;have HN:Hid ((0<2->zaf y1 x=false)/\(1<2->zaf y2 x=false)):=⟨fun _=>hs.o.1 Mcq,fun _=>ze3 h2⟩
     gi_wp2
     exact⟨⟨2,by omega,rfl,trivial,HN⟩,by simp[intOf]⟩
   ·rw[show((2:Nat):Int)=2 from rfl];have hn:hasN (y1,y2) x=false:=by simp[hasN,hs.o.1 Mcq,hs.o.2 Mcq]
    have HN:=zHi hn;clear hn;gi_wp2
    exact⟨KeepsFrom.refl _ _,Qb,fun m hm=>by
     rw[List.map_append]at hm;rcases List.mem_append.1 hm with hm|hm
     ·exact HP.o m hm
     ·simp only[List.map_cons,List.map_nil,List.mem_singleton]at hm
      rw[hm];exact HN.o,aU.o⟩
 case done=>
  rintro D ys W hD rfl ⟨hp,eQ⟩ hK;have t2:=(eQ.block (w.heap.size+1+1) Mcq).trans S2.o;have c2':W.cell? ⟨w.heap.size+1+1,0,none⟩=some (.string ⟨#[]⟩):=by simp[World.cell?,t2]
  have f2':W.frozen? ⟨w.heap.size+1+1,0,none⟩=false:=by simp[World.frozen?,t2]
  have HY:Hid (zaM s x=⟨#[]⟩):=by
   show _=_;rw[zo2]at hp;unfold zaM;rw[ziy hp];simp
  obtain⟨HK,T2⟩:=yH2 hK t2;clear hK t2 hp;gi_wp2
  have g2:=Boxed.set (.string ⟨#[]⟩) T2.o;have K9:(W.setCell ⟨w.heap.size+1+1,0,none⟩ (.string ⟨#[]⟩)).heap[D]?=some (.deferred (some [])):=(heap_setCell_other W ⟨w.heap.size+1+1,0,none⟩ _ _ Mcw).trans HK.o
  refine zeA (base:=w.heap.size) [D] _ Mcv (fun D' rT=>by
   have:D'=D:=by simpa using rT
   subst this
   exact⟨by omega,K9⟩) fun w' jP aI=>⟨.string ⟨#[]⟩,zlm rfl _ _ (w.heap.size+1+1) _ rfl (by simp[World.cell?,aI _ _ _ _ g2]),?_⟩
  exact Ret.of (by rw[HY.o]) ((zaN (aS.trans (eQ.mono Mcq)) Mcw _).trans jP)
 case stop=>
  rintro D cc pre W hD kJ ⟨⟨rfl,a,m,h2,h3,h4,h5⟩,eQ⟩ hK;have HY:Hid (zaM s x=if zaP s (zeQ m x)then⟨#[]⟩else zeQ m x):=by
   show _=_;obtain⟨k,hk,rfl⟩:=kJ;rw[zmE _ _ hk]at h2;have e:s.marriages.reverse=a++m::s.marriages.reverse.drop k:=by
    have:=(List.take_append_drop k s.marriages.reverse).symm;rw[h2]at this;simpa using this
   unfold zaM;rw[e,ziz h4 h3]
  obtain⟨HK,G2⟩:=yH2 hK h5;clear hK h5 h4 h3 h2;gi_wp2
  refine zeA (base:=w.heap.size) [D] _ Mcv (fun D' rT=>by
   have:D'=D:=by simpa using rT
   subst this
   exact⟨by omega,HK.o⟩) fun w' jP aI=>⟨.string (if zaP s (zeQ m x)then⟨#[]⟩else zeQ m x),zlm rfl _ _ (w.heap.size+1+1) _ rfl (by simp[World.cell?,aI _ _ _ _ G2.o]),?_⟩
  exact Ret.of (by rw[HY.o]) (eQ.trans jP)
theorem zjC(base b:Nat)(s:St)(x:ByteArray)(w:World)(hW:PeoAt base w b s)(hl:s.marriages.length<=100000):
 Calls Tryz.prog 97 #[.pointer (some ⟨b,0,none⟩),.string x] w (Ret w (.string (zaM s x))):=callsIn_wide.1 (spouse_in base b s x w hW hl)
