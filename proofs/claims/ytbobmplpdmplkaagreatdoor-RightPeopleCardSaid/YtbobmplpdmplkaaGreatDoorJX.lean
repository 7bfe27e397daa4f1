import Derived.Test.YtbobmplpdmplkaaGreatDoorJ7
import Derived.Test.YtbobmplpdmplkaaGreatDoorJL
import Derived.Shelf.Spec.SlicesInsertGrow
set_option linter.all false
set_option maxRecDepth 100000
set_option maxHeartbeats 4000000
namespace Go.Proofs.YtbobmplpdmplkaaGreatDoor
open Go.RowKit
attribute [local go_sem] World.cell?_alloc_mark zaf za4 zam za7 zaw zax zay zaz za0 za1 za2
section
open Go.Shelf
attribute [local go_sem] zan zac
theorem zlh(a b:ByteArray)(w:World):Calls Tryz.prog 94 #[.string a,.string b] w (Ret0 w (.int .i64 (cmpN a b))):=by
 have aZ:=Any.strings_Compare cmpStr a b w;change Calls Tryz.prog 94 _ _ _ at aZ;exact Mbk
theorem zm2(p:ByteArray×Rat)(s:ByteArray)(w:World):Calls Tryz.prog 93 #[.agg #[.string p.1,.int .i64 p.2.num,.int .i64 p.2.den],.string s] w (Ret w (.int .i64 (cmpN p.1 s))):=by
 have hc:=fun W=>zlh p.1 s W
 generalize cmpN p.1 s=r at hc⊢;go_enter Tryz.func93,Tryz.ntmps93
 go_wp2_with (go_at_call 94;refine(hc _).mono ?_;rintro e wq ⟨rfl,rfl⟩)
 go_ret
 exact Ret.of rfl Bw
def znG(w:World)(xs:Parts)(nm:ByteArray)(e:Ending)(w':World):Prop:=
 ∃P Q,xs=P++Q/\(∀p∈P,zbh p.1 nm=true)/\(∀p∈Q,zbh p.1 nm=false)/\Ret w (.tuple #[.int .i64 P.length,.bool (zdL Q nm)]) e w'
theorem bsf_any(xs:Parts)(A:Option Addr)(n c:Nat)(nm:ByteArray)(w:World)(hn:n=xs.length)(hl:xs.length<=100000)(hA:AscP xs)(hS:Sl w 3 zaa A xs):
 Calls Tryz.prog 92 #[.slice A n c,.string nm,.func (.func 93) #[] #[]] w (znG w xs nm):=by
 subst hn;have eg:∀args w,(callFunc 93 args).run Tryz.prog w=.ok (.enter 93 args) w:=enters_of Tryz.func93 Mcz rfl;obtain⟨HA,HC⟩:=yH2 hA (fun(p:ByteArray×Rat) W=>zm2 p nm W);go_enter Tryz.func92,Tryz.ntmps92
 go_wp2_with fail
 go_loopw [9,10] (fun i j wr=>∃lo hi:Nat,i=.int .i64 lo/\j=.int .i64 hi/\lo<=hi/\hi<=xs.length/\Hid (∀t (ht:t<xs.length),t<lo->zbh xs[t].1 nm=true)/\Hid (∀t (ht:t<xs.length),hi<=t->zbh xs[t].1 nm=false)/\∃z,wr=w.ext z) (fun i j _=>(intOf j).toNat-(intOf i).toNat)
 case atStart=>exact⟨0,xs.length,rfl,rfl,Nat.zero_le _,Nat.le_refl _,fun t ht h=>absurd h (Nat.not_lt_zero _),fun t ht h=>by omega,zaY (Below.refl _ _)⟩
 case round=>
  obtain⟨lo,hi,rfl,rfl,h1,h2,H3,H4,z,rfl⟩:=hrel;by_cases ae:lo<hi
  ·have hm:(lo+hi)/2<xs.length:=Mcy;obtain⟨b,off,rfl,hb,hc⟩:=(hS.keep (zaq w z)).at hm;obtain⟨HX,HY⟩:=yH2 (fun t (ht:t<xs.length) (h:t<(lo+hi)/2)=>List.pairwise_iff_getElem.1 hA t _ ht hm h) (fun t (ht:t<xs.length) (h:(lo+hi)/2<t)=>List.pairwise_iff_getElem.1 hA _ t hm ht h);generalize hp:xs[(lo+hi)/2]=p at*;obtain⟨pn,pq⟩:=p;have hr:decide (cmpN pn nm<0)=zbh pn nm:=zn8 _ _;have bH:=HC.o (pn,pq);simp only at bH;generalize cmpN pn nm=r at hr bH;have c0:(w.ext z).cell? ⟨b,off+(lo+hi)/2*3,none⟩=some (.string pn):=hc 0 _ rfl;have c1:(w.ext z).cell? ⟨b,off+(lo+hi)/2*3+1,none⟩=some (.int .i64 pq.num):=hc 1 _ rfl;have c2:(w.ext z).cell? ⟨b,off+(lo+hi)/2*3+2,none⟩=some (.int .i64 pq.den):=hc 2 _ rfl;obtain⟨HP,HR⟩:=yH2 hp hr;clear hp hr hc hS hA;by_cases pW:r<0
   ·go_wp2_with (go_at_fn 93;refine(bH _).mono ?_;rintro e wq ⟨rfl,zq,rfl⟩)
    go_round
    case rel=>
     have bI:zbh pn nm=true:=by rw[<-HR.o];simpa using pW
     refine⟨(lo+hi)/2+1,hi,by go_num,rfl,by omega,h2,(show Hid _ from fun t ht h=>?_),H4,zaY Bw⟩;by_cases e:t=(lo+hi)/2
     ·subst e;rw[HP.o];exact bI
     ·have:=HX.o t ht Mcy;exact zb1 this bI
    case measure=>simp[intOf];omega
   ·go_wp2_with (go_at_fn 93;refine(bH _).mono ?_;rintro e wq ⟨rfl,zq,rfl⟩)
    go_round
    case rel=>
     have bI:zbh pn nm=false:=by rw[<-HR.o];simpa using pW
     refine⟨lo,(lo+hi)/2,rfl,by go_num,by omega,by omega,H3,(show Hid _ from fun t ht h=>?_),zaY Bw⟩;by_cases e:t=(lo+hi)/2
     ·subst e;rw[HP.o];exact bI
     ·have:=HY.o t ht Mcy;exact less_up this bI
    case measure=>simp[intOf];omega
  ·have he:hi=lo:=Mcy;subst he;have HP:Hid (∀p∈xs.take hi,zbh p.1 nm=true):=fun p hp=>by
    obtain⟨t,ht,rfl⟩:=List.getElem_of_mem hp;rw[List.getElem_take];have:t<hi:=by rw[List.length_take]at ht;omega
    exact H3.o t Mcy this
   have HQ:Hid (∀p∈xs.drop hi,zbh p.1 nm=false):=fun p hp=>by
    obtain⟨t,ht,rfl⟩:=List.getElem_of_mem hp;rw[List.getElem_drop];exact H4.o (hi+t) (by rw[List.length_drop]at ht;omega) Mcy
   have HL:Hid ((xs.take hi).length=hi):=by show _=_;rw[List.length_take];omega
   by_cases br:hi<xs.length
   ·obtain⟨b,off,rfl,hb,hc⟩:=(hS.keep (zaq w z)).at br;have hd:xs.drop hi=xs[hi]::xs.drop (hi+1):=List.drop_eq_getElem_cons br;generalize hp:xs[hi]=p at*;obtain⟨pn,pq⟩:=p;have hr:(cmpN pn nm==0)=zae pn nm:=cmpN_zero _ _;have bH:=HC.o (pn,pq);simp only at bH;generalize cmpN pn nm=r at hr bH;have c0:(w.ext z).cell? ⟨b,off+hi*3,none⟩=some (.string pn):=hc 0 _ rfl;have c1:(w.ext z).cell? ⟨b,off+hi*3+1,none⟩=some (.int .i64 pq.num):=hc 1 _ rfl;have c2:(w.ext z).cell? ⟨b,off+hi*3+2,none⟩=some (.int .i64 pq.den):=hc 2 _ rfl;obtain⟨HR,HD⟩:=yH2 hr hd;clear hp hr hc hS hA hd;go_wp2_with (go_at_fn 93;refine(bH _).mono ?_;rintro e wq ⟨rfl,zq,rfl⟩)
    all_goals go_ret2
    all_goals exact⟨xs.take hi,xs.drop hi,(List.take_append_drop _ _).symm,HP.o,HQ.o,Ret.of (by rw[HL.o,HD.o];simp[zdL,<-HR.o, *]) Bw⟩
   ·go_wp2_with fail
    all_goals go_ret2
    all_goals exact⟨xs.take hi,xs.drop hi,(List.take_append_drop _ _).symm,HP.o,HQ.o,Ret.of (by rw[HL.o,List.drop_eq_nil_of_le Mcy];simp[zdL]) Bw⟩
def zby(W:World)(T:Nat)(pl:ByteArray)(cl fr en:Int)(v dv:Value):Prop:=W.heap[T]?=some (.cells #[.string pl,.int .i64 cl,.int .i64 fr,.int .i64 en,v,dv] 95)
theorem znH(xs:Parts)(A:Option Addr)(c T:Nat)(nm:ByteArray)(w:World)(ki:w.cell? ⟨T,4,none⟩=some (.slice A xs.length c))(hl:xs.length<=100000)(hA:AscP xs)(hS:Sl w 3 zaa A xs):
 Calls Tryz.prog 64 #[.pointer (some ⟨T,0,none⟩),.string nm] w (znG w xs nm):=by
 have HB:=bsf_any xs A _ c nm w rfl hl hA hS;go_enter Tryz.func64,Tryz.ntmps64
 go_wp2_with (go_at_call 92;refine HB.mono ?_;rintro e wq ⟨P,Q,bv,hP,hQ,rfl,z,rfl⟩)
 go_ret2
 exact⟨P,Q,bv,hP,hQ,Ret.of rfl Bw⟩
theorem shareQ{P Q:Parts}{nm:ByteArray}(hP:∀p∈P,zbh p.1 nm=true)(hQ:∀p∈Q,zbh p.1 nm=false)(hA:AscP (P++Q)):zag (P++Q) nm=if zdL Q nm then(Q.headD (⟨#[]⟩,0)).2 else 0:=by
 rw[zfK hP];cases hh:zdL Q nm
 ·exact zn9 hQ (zh7 hA) hh
 ·cases Q with
  |nil=>cases hh
  |cons q Q=>
   have hs:zae q.1 nm=true:=hh;rw[zbs,hs];rfl
theorem zer(xs:Parts)(A:Option Addr)(c T:Nat)(nm:ByteArray)(w:World)(ki:w.cell? ⟨T,4,none⟩=some (.slice A xs.length c))(hT:T<w.heap.size)(hl:xs.length<=100000)(hA:AscP xs)(hS:Sl w 3 zaa A xs):
 Calls Tryz.prog 32 #[.pointer (some ⟨T,0,none⟩),.string nm] w (Ret w (zaA (zag xs nm))):=by
 have HF:=fun W h1 h2=>znH xs A c T nm W h1 hl hA h2
 obtain⟨HS,HA⟩:=yH2 hS hA;clear hS hA;have ai:T≠w.heap.size:=Mcy;go_enter Tryz.func32,Tryz.ntmps32
 go_upto_region 2 with(go_at_call 64;refine(HF _ (by simp[go_sem,hT,ki]) (HS.o.keep (n:=w.heap.size) Bw)).mono ?_;rintro e wq ⟨P,Q,bv,hP,hQ,rfl,z,rfl⟩;subst bv)
 have hv:=shareQ hP hQ HA.o;have HV:=zHi hv;clear hv hP hQ;cases Q with
 |nil=>
  go_wp2_with fail
  refine bodyPost_ret (v:=zaA (zag (P++[]) nm)) ?_ rfl ?_
  ·rw[HV.o];refine zbU rfl _ _ w.heap.size _ _ rfl ?_ ?_<;>simp[go_sem,zdL]
  ·exact Ret.of rfl Bw
 |cons q Q=>
  obtain⟨qn,qr⟩:=q;have ae:P.length<(P++(qn,qr)::Q).length:=McB;obtain⟨b,off,rfl,hb,hc⟩:=HS.o.at ae;rw[List.getElem_append_right (Nat.le_refl _)]at hc;simp only[Nat.sub_self,List.getElem_cons_zero]at hc;have k1:w.cell? ⟨b,off+P.length*3+1,none⟩=some (.int .i64 qr.num):=hc 1 _ rfl;have k2:w.cell? ⟨b,off+P.length*3+1+1,none⟩=some (.int .i64 qr.den):=hc 2 _ rfl;have br:(P.length:Int)<((P++(qn,qr)::Q).length:Int):=Mcy;have KG:(0:Int)<=(P.length:Int):=Mcy;have HL:=zHi ae;clear hc ae;generalize hh:zdL ((qn,qr)::Q) nm=q at*;have IM:=zHi (HV.o.trans (by rfl:_=if q then qr else 0));cases q
  ·exact Maw
  ·exact Maw
theorem zip(g:Grave)(A:Option Addr)(c T:Nat)(day:Int)(w:World)(h3:w.cell? ⟨T,3,none⟩=some (.int .i64 g.fin))(h4:w.cell? ⟨T,4,none⟩=some (.slice A g.holders.length c)):
 Calls Tryz.prog 34 #[.pointer (some ⟨T,0,none⟩),.int .i64 day] w (Ret w (.bool (zaV g day))):=by
 obtain⟨pl,cl,fin,hs,di⟩:=g;simp only at*;go_enter Tryz.func34,Tryz.ntmps34
 go_wp2_with fail
 all_goals go_ret
 all_goals(refine Ret.of (zaO ?_) Bw;cases hs<;>simp_all[zaV]<;>omega)
theorem zgq{P:Program}(w:World)(dT sT ty elem:TypeId)(size b o dLen dCap:Nat)(a:Addr)(sLen sCap n:Nat)(cs:List Value)
 (hu:P.underlying dT=some (.slice elem))(hs:(P.info? elem).map (·.size)=some size)(hn:Nat.min sLen dLen=n)(hl:cs.length=n*size)
 (Dt:∀j v,cs[j]?=some v->w.cell? (a.add j)=some v)(hc:∀j,j<cs.length->(w.cell? ⟨b,o+j,none⟩).isSome=true)(hf:∀j,j<cs.length->w.frozen? ⟨b,o+j,none⟩=false)(h1:∀v∈cs,v.oneCell'=true):
 (Builtin.copy_ #[dT,sT] ty #[.slice (some ⟨b,o,none⟩) dLen dCap,.slice (some a) sLen sCap]).run P w=.ok (goInt n) (w.setCells b o cs):=by
 have K9:=run_firstCells_some (P:=P) w size n a sLen sCap cs hl Dt;have aq:=run_storeCells_cells (P:=P) b o cs 0 w Meh (by simpa using hf) h1;cases hq:P.info? elem with
 |none=>simp[hq]at hs
 |some i=>
  have hi:i.size=size:=by simpa[hq]using hs
  simp[Builtin.copy_,run_underlying hu,Builtin.lenOf,sizeOf,typeInfo,hq,hi,hn,K9,aq]
theorem zbM(g:Nat){e:TypeId}:∀(vs:List Value) (o:Nat) (w:World) (cur:Array Value),w.heap[g]?=some (.cells cur e (0,0))->o+vs.length<=cur.size->
 ∃cur',(w.setCells g o vs).heap[g]?=some (.cells cur' e (0,0))/\cur'.size=cur.size/\(∀j,j<o\/o+vs.length<=j->cur'[j]?=cur[j]?)/\∀j u,vs[j]?=some u->cur'[o+j]?=some u
 | [],o,w,cur,hg,_=>⟨cur,hg,rfl,fun _ _=>rfl,fun j u h=>by simp at h⟩
 |v::r,o,w,cur,hg,hl=>by
  obtain⟨cur',h1,h2,h3,h4⟩:=zbM g r (o+1) (w.setCell ⟨g,o,none⟩ v) (cur.setIfInBounds o v) (heap_setCell_same w g o cur e v hg) (by simp at hl⊢;omega);refine⟨cur',h1,by simpa using h2,fun j hj=>?_,fun j u hu=>?_⟩
  ·rw[h3 j (by simp at hj;omega),Array.getElem?_setIfInBounds_ne (by simp at hj;omega)]
  ·cases j with
   |zero=>
    simp only[List.getElem?_cons_zero,Option.some.injEq]at hu;subst hu;rw[Nat.add_zero,h3 o Mcy];exact Array.getElem?_setIfInBounds_self_of_lt (by simp at hl;omega)
   |succ j=>
    have:=h4 j u (by simpa using hu);rw[show o+(j+1)=o+1+j by omega];exact this
theorem zap(p:ByteArray×Rat):(zaa p).length=3:=rfl
theorem zcb(p:ByteArray×Rat):∀u∈zaa p,u.oneCell'=true:=by simp[zaa,Value.oneCell']
theorem ziq(l:Parts):∀u∈l.flatMap zaa,u.oneCell'=true:=fun u hu=>by
 obtain⟨x,_,hx⟩:=List.mem_flatMap.1 hu;exact zcb x u hx
theorem zes(l:Parts):(l.flatMap zaa).length=l.length*3:=zfW zaa 3 zap l
theorem zdN:ElTy Tryz.prog 48 71 3 32:=zd4 (z:=.agg #[.string ⟨#[]⟩,.int .i64 0,.int .i64 0]) Mcz Mcz rfl McA
theorem ins_get{xs:Parts}{p:ByteArray×Rat}{i:Nat}(hi:i<=xs.length){cur:Nat->Option Value}(h0:∀j u,j<i*3->(xs.flatMap zaa)[j]?=some u->cur j=some u)(h1:∀j u,(zaa p)[j]?=some u->cur (i*3+j)=some u)
 (h2:∀j u,((xs.drop i).flatMap zaa)[j]?=some u->cur ((i+1)*3+j)=some u):∀j u,((xs.take i++p::xs.drop i).flatMap zaa)[j]?=some u->cur j=some u:=fun j u hj=>by
 have hl:((xs.take i).flatMap zaa).length=i*3:=Mde;rw[List.flatMap_append,List.flatMap_cons]at hj;by_cases hj1:j<i*3
 ·rw[List.getElem?_append_left Mcy]at hj;refine h0 j u hj1 ?_;exact MaD
 ·rw[List.getElem?_append_right Mcy,hl]at hj;by_cases FR:j-i*3<3
  ·rw[List.getElem?_append_left (by rw[zap];exact FR)]at hj;have:=h1 _ u hj;rwa [show i*3+(j-i*3)=j by omega]at this
  ·rw[List.getElem?_append_right Mee,zap]at hj;have:=h2 _ u hj;rwa [show(i+1)*3+(j-i*3-3)=j by omega]at this
def zfe(w:World)(base:Nat)(v:Value)(ys:Parts)(e:Ending)(w':World):Prop:=
 ∃v',e=.returned v'/\OwnS w' base 71 3 zaa v' ys/\w.grownBy w' (za5 v)/\∀g,za5 v'=some g->za5 v=some g\/w.heap.size<=g
theorem zm3{w:World}{vb:Nat}{p:ByteArray×Rat}{t:TypeId}{fr:Nat×Nat}(h:w.heap[vb]?=some (.cells #[.string p.1,.int .i64 p.2.num,.int .i64 p.2.den] t fr)):∀j v,(zaa p)[j]?=some v->w.cell? ⟨vb,j,none⟩=some v:=fun j v hj=>by
 match j,hj with
 |0,hj=>simp[zaa]at hj;simp[World.cell?,h,<-hj]
 |1,hj=>simp[zaa]at hj;simp[World.cell?,h,<-hj]
 |2,hj=>simp[zaa]at hj;simp[World.cell?,h,<-hj]
 |j+3,hj=>simp[zaa]at hj
theorem zoz(base:Nat)(xs:Parts)(p:ByteArray×Rat)(vb:Nat)(w:World)(hl:xs.length<=100000)(dB:w.heap[vb]?=some (.cells #[.string p.1,.int .i64 p.2.num,.int .i64 p.2.den] 71))(aL:base<=w.heap.size)(v:Value)(aa:OwnS w base 71 3 zaa v xs):
 Calls Tryz.prog 178 #[v,.int .i64 xs.length,.slice (some ⟨vb,0,none⟩) 1 1] w (zfe w base v (xs++[p])):=by
 have hS:Sl w 3 zaa (some ⟨vb,0,none⟩) [p]:=fun _=>⟨vb,0,rfl,zab dB,fun k x hx j u hu=>by
  have hk:k=0:=by have:=(List.getElem?_eq_some_iff.1 hx).1;simp at this;omega
  subst hk;simp only[List.getElem?_cons_zero,Option.some.injEq]at hx;subst hx;have:=zm3 dB j u hu
  simpa using this⟩
 obtain⟨HO,HS⟩:=yH2 aa hS;obtain⟨A,c,rfl,_,hc⟩:=aa.sl zap;have cx:(xs.length:Int)<=(c:Int):=Mcy;clear hS;have hA:A=none\/∃g o,A=some ⟨g,o,none⟩:=by
  rcases aa with⟨h,_⟩|⟨g,o,cap,cur,h,_⟩
  ·simp only[Value.slice.injEq]at h;exact .inl h.1
  ·simp only[Value.slice.injEq]at h;exact .inr ⟨g,o,h.1⟩
 clear aa;go_enter Tryz.func178,Tryz.ntmps178
 rcases hA with rfl|⟨g,o,rfl⟩
 ·exact Maj
 ·exact Maj
theorem zm4(base:Nat)(xs:Parts)(p:ByteArray×Rat)(vb:Nat)(w:World)(hl:xs.length<=100000)(dB:w.heap[vb]?=some (.cells #[.string p.1,.int .i64 p.2.num,.int .i64 p.2.den] 71))(aL:base<=w.heap.size)(g o c:Nat)(cur:Array Value)(ji:base<=g)(hg:w.heap[g]?=some (.cells cur 71 (0,0)))(y8:xs.length+1<=c)(iF:c<=maxLen)(bh:o+c*3<=cur.size)(hx:∀j u,(xs.flatMap zaa)[j]?=some u->cur[o+j]?=some u)
 (i:Nat)(hi:i<xs.length)(ai:vb≠g):
 Calls Tryz.prog 178 #[.slice (some ⟨g,o,none⟩) xs.length c,.int .i64 i,.slice (some ⟨vb,0,none⟩) 1 1] w (zfe w base (.slice (some ⟨g,o,none⟩) xs.length c) (xs.take i++p::xs.drop i)):=by
 have mixed:Tryz.prog.follows .mixedOrders=true:=Mcz;have JU:(c:Int)<=9223372036854775807:=by unfold maxLen at iF;omega
 have Dl:(xs.length:Int)+1<=(c:Int):=Mcy;have Dm:¬((c:Int)<(xs.length:Int)+1):=Mcy;have lj:IntKind.i64.wrap ((xs.length:Int)+1)=(xs.length:Int)+1:=Mda;have iT:¬((i:Int)=(xs.length:Int)):=Mcy;have jz:IntKind.i64.wrap ((i:Int)+1)=(i:Int)+1:=Mda;have aS:(0:Int)<=(i:Int)+1:=Mcy;have ba:(0:Int)<=(i:Int):=Mcy;have fI:((i:Int)+1).toNat=i+1:=Mcy;have bs:¬(c=i+1):=Mcy;have aC:¬(c=i):=Mcy;have ax:(i:Int)<=(xs.length:Int)+1:=Mcy;have ao:(i:Int)<=(xs.length:Int):=Mcy;have KT:∀lb cb,(callFunc 195 #[.slice (some ⟨vb,0,none⟩) 1 1,.slice (some ⟨g,o+(i+1)*3,none⟩) lb cb]).run Tryz.prog w=.ok (.value (.bool false)) w:=fun lb cb=>by
  rw[run_callFunc_extern Tryz.func195 Mcz Mcz Mcz (e:=Extern.SlicesOverlaps.overlaps #[48,48] #[4]) Mcz,
   Lib.run_overlaps_apart w 48 4 71 Tryz.underlying48 3 Tryz.sizeOf71 ⟨vb,0,none⟩ ⟨g,o+(i+1)*3,none⟩ 1 1 lb cb ai 71 71 3 cur.size (by simp[World.shape?,dB]) (by simp[World.shape?,hg]) Mcy (by simp[World.frozen?,dB]) (by simp[World.frozen?,dB])]
  rfl
 obtain⟨i0,z,fm,Ag,fe,Ah,um⟩:=zdN.hi;have hsz:(Tryz.prog.info? 71).map (·.size)=some 3:=by rw[fm];simp[fe]
 have bu:((xs.drop i).flatMap zaa).length=(xs.length-i)*3:=Mej;have bl:∀j,j<c*3->(w.cell? ⟨g,o+j,none⟩).isSome=true:=fun j hj=>by simp[World.cell?,hg];omega
 have wK:∀ty dc sc,(Builtin.copy_ #[48,48] ty #[.slice (some ⟨g,o+(i+1)*3,none⟩) (xs.length+1-(i+1)) dc,.slice (some ⟨g,o+i*3,none⟩) (xs.length+1-i) sc]).run Tryz.prog w.drew=.ok (goInt (xs.length-i:Nat)) (w.drew.setCells g (o+(i+1)*3) ((xs.drop i).flatMap zaa)):=fun ty dc sc=>
  zgq w.drew _ _ ty 71 3 g (o+(i+1)*3) _ dc ⟨g,o+i*3,none⟩ _ sc (xs.length-i) _ Tryz.underlying48 hsz Mdz bu
   (fun j v hj=>by
     rw[Addr.add_lit];have e:(xs.flatMap zaa)[i*3+j]?=some v:=by
      have e2:xs.flatMap zaa=(xs.take i).flatMap zaa++(xs.drop i).flatMap zaa:=Mdk;have e3:((xs.take i).flatMap zaa).length=i*3:=Mde;rw[e2,List.getElem?_append_right Mcy,e3,Nat.add_sub_cancel_left];exact hj
     have:=hx _ _ e;show w.cell? _=_;simp only[World.cell?,hg,Nat.add_assoc]
     exact this)
   (fun j hj=>by rw[bu]at hj;show(w.cell? _).isSome=_;rw[Nat.add_assoc];exact bl _ Mcy) (fun j hj=>by show w.frozen? _=_;simp[World.frozen?,hg]) (ziq _)
 obtain⟨cur1,k1,k2,k3,k4⟩:=zbM g ((xs.drop i).flatMap zaa) (o+(i+1)*3) w.drew cur hg (by rw[bu];omega);have bK:=zbJ g ((xs.drop i).flatMap zaa) (o+(i+1)*3) w.drew;obtain⟨W1,aT⟩:∃W1,W1=w.drew.setCells g (o+(i+1)*3) ((xs.drop i).flatMap zaa):=⟨_,rfl⟩
 rw[<-aT]at wK k1 bK;have yu:W1.heap[vb]?=some (.cells #[.string p.1,.int .i64 p.2.num,.int .i64 p.2.den] 71):=(bK.block vb (zab dB) (by simp[ai])).trans dB;have Cw:∀(W:World),W.heap=W1.heap->∀ty dc,(Builtin.copy_ #[48,48] ty #[.slice (some ⟨g,o+i*3,none⟩) (xs.length+1-i) dc,.slice (some ⟨vb,0,none⟩) 1 1]).run Tryz.prog W=.ok (goInt (1:Nat)) (W.setCells g (o+i*3) (zaa p)):=fun W me ty dc=>
  zgq W _ _ ty 71 3 g (o+i*3) _ dc ⟨vb,0,none⟩ 1 1 1 _ Tryz.underlying48 hsz Mdz (by rw[zap])
   (fun j v hj=>by rw[Addr.add_lit,Nat.zero_add];exact zm3 (by rw[me];exact yu) j v hj)
   (fun j hj=>by rw[zap]at hj;simp[World.cell?,me,k1,k2];omega) (fun j hj=>by simp[World.frozen?,me,k1]) (zcb p)
 have HF:Hid (∀W:World,W.heap=W1.heap->W.os=W1.os->W.tape=W1.tape->W.output=W1.output->zfe w base (.slice (some ⟨g,o,none⟩) xs.length c) (xs.take i++p::xs.drop i) (.returned (.slice (some ⟨g,o,none⟩) (xs.length+1) c)) (W.setCells g (o+i*3) (zaa p))):=by
  intro W h1 h2 h3 h4;have sP:w.grownBy W (some g):=⟨h2.trans bK.os,h3.trans bK.tape,h4.trans bK.output,by rw[h1];exact bK.size,fun k hk hn=>by rw[h1];exact bK.block k hk hn⟩
  obtain⟨cur2,l1,l2,l3,l4⟩:=zbM g (zaa p) (o+i*3) W cur1 (by rw[h1];exact k1) (by rw[zap,k2];omega);have ag:(xs.take i++p::xs.drop i).length=xs.length+1:=McD;refine⟨_,rfl,.inr ⟨g,o,c,cur2,by rw[ag],ji,l1,by rw[ag];exact y8,iF,by rw[l2,k2];exact bh,?_⟩,zbo sP (zbJ _ _ _ _),fun g' h=> .inl h⟩;refine ins_get (cur:=fun j=>cur2[o+j]?) Mcy (fun j u hj hu=>?_) (fun j u hu=>?_) (fun j u hu=>?_)
  ·show cur2[o+j]?=_;rw[l3 _ (.inl Mcy),k3 _ (.inl Mcy)];exact hx j u hu
  ·have:=l4 j u hu;rw[show o+i*3+j=o+(i*3+j) by omega]at this;exact this
  ·show cur2[o+((i+1)*3+j)]?=_;rw[l3 _ (.inr Mee)];have:=k4 j u hu;rw[show o+(i+1)*3+j=o+((i+1)*3+j) by omega]at this;exact this
 clear aT k1 k2 k3 k4 bK bl hx yu bu hg dB;go_enter Tryz.func178,Tryz.ntmps178
 go_wp2_with (simp only[KT])
 go_region_law_o (go_loud(refine step_copy_runI rfl _ _ 48 48 rfl _ _ Md4 Md4 (wK _ _ _) ?_))
 go_wp2_with (at_builtin;refine wpList_copy_runI _ rfl _ _ 48 48 rfl _ _ rfl rfl (Cw _ rfl _ _) ?_)
 go_ret
 exact HF.o _ rfl rfl rfl rfl
theorem zed(z:Array Value)(k:Nat):(Builtin.zeroCells z k).size=k*z.size:=by
 simp[Builtin.zeroCells]
theorem zm5(base:Nat)(xs:Parts)(p:ByteArray×Rat)(vb:Nat)(w:World)(hl:xs.length<=100000)(dB:w.heap[vb]?=some (.cells #[.string p.1,.int .i64 p.2.num,.int .i64 p.2.den] 71))(aL:base<=w.heap.size)(g o:Nat)(cur:Array Value)(hg:w.heap[g]?=some (.cells cur 71 (0,0)))(hx:∀j u,(xs.flatMap zaa)[j]?=some u->cur[o+j]?=some u)
 (i:Nat)(hi:i<xs.length):
 Calls Tryz.prog 178 #[.slice (some ⟨g,o,none⟩) xs.length xs.length,.int .i64 i,.slice (some ⟨vb,0,none⟩) 1 1] w (zfe w base (.slice (some ⟨g,o,none⟩) xs.length xs.length) (xs.take i++p::xs.drop i)):=by
 have mixed:Tryz.prog.follows .mixedOrders=true:=Mcz;have lj:IntKind.i64.wrap ((xs.length:Int)+1)=(xs.length:Int)+1:=Mda;have dq:(xs.length:Int)<(xs.length:Int)+1:=Mcy;obtain⟨c,hc⟩:∃c,xs.length=c:=⟨_,rfl⟩
 have bs:¬(c=i+1)\/c=i+1:=Mcy;have iT:¬((i:Int)=(xs.length:Int)):=Mcy;have jz:IntKind.i64.wrap ((i:Int)+1)=(i:Int)+1:=Mda;have aS:(0:Int)<=(i:Int)+1:=Mcy;have ba:(0:Int)<=(i:Int):=Mcy;have fI:((i:Int)+1).toNat=i+1:=Mcy;have ao:(i:Int)<=(xs.length:Int):=Mcy;have aP:(i:Int)+1<=(xs.length:Int)+1:=Mcy;have hkw:IntKind.i64.wrap ((xs.length:Int)+1-(i:Int))=(xs.length:Int)+1-(i:Int):=Mda;have fR:(xs.length:Int)+1-(i:Int)=((xs.length+1-i:Nat):Int):=Mcy;have CS:i+(xs.length+1-i)=xs.length+1:=Mcy;obtain⟨i0,z,fm,Ag,fe,Ah,um⟩:=zdN.hi;have hsz:(Tryz.prog.info? 71).map (·.size)=some 3:=by rw[fm];simp[fe]
 have cz:g<w.heap.size:=zab hg;have Lb:vb<w.heap.size:=zab dB;have cn:((xs.take i).flatMap zaa).length=i*3:=Mde;have cZ:xs.flatMap zaa=(xs.take i).flatMap zaa++(xs.drop i).flatMap zaa:=Mdk;have kr:(Builtin.firstCells i0.size i (.slice (some ⟨g,o,none⟩) i xs.length)).run Tryz.prog w.drew=.ok ((xs.take i).flatMap zaa).toArray w.drew:=by
  rw[fe]
  exact run_firstCells_some w.drew 3 i ⟨g,o,none⟩ i xs.length _ cn (fun j v hj=>by
   rw[Addr.add_lit];have:=hx j v (by rw[cZ,List.getElem?_append_left (List.getElem?_eq_some_iff.1 hj).1];exact hj);show w.cell? _=_;simp only[World.cell?,hg]
   exact this)
 have Gt:∀ty,(Builtin.append_ #[48,3] ty #[.slice (some ⟨g,o,none⟩) i xs.length,.int .i64 ((xs.length:Int)+1-(i:Int))]).run Tryz.prog w=
  .ok (.slice (some ⟨w.heap.size,0,none⟩) (xs.length+1) (grownCap w (xs.length+1) xs.length 71)) (w.drew.alloc (.cells (((xs.take i).flatMap zaa).toArray++Builtin.zeroCells z.cells (xs.length+1-i)++Builtin.zeroCells z.cells (grownCap w (xs.length+1) xs.length 71-(xs.length+1))) 71)):=fun ty=>by
  have h:=Lib.run_append_grow_zeros w 48 3 ty 71 i0 _ .i64 .i64 Tryz.underlying48 Tryz.underlying3 fm Ag (some ⟨g,o,none⟩) i xs.length ((xs.take i).flatMap zaa) kr (xs.length+1-i) Mcy Mcy Mcy Mcy (by rw[Ah];omega) (by rw[Ah,CS];exact growslice_fits Mcy Mcy);rw[CS]at h;rw[fR];exact h
 obtain⟨G,hG⟩:∃G,G=grownCap w (xs.length+1) xs.length 71:=⟨_,rfl⟩
 obtain⟨ROW,ow⟩:∃ROW:Array Value,ROW=((xs.take i).flatMap zaa).toArray++Builtin.zeroCells z.cells (xs.length+1-i)++Builtin.zeroCells z.cells (G-(xs.length+1)):=⟨_,rfl⟩
 rw[<-hG,<-ow]at Gt;have J9:xs.length+1<=G:=by rw[hG];exact grownCap_ge w _ _ _
 have BO:G<=maxLen:=by
  rw[hG];exact grownCap_le_maxLen w (xs.length+1) xs.length 71 (by unfold maxLen;omega)
 have nA:ROW.size=G*3:=by
  rw[ow,Array.size_append,Array.size_append,zed,zed,um];simp only[List.size_toArray,cn];omega
 have rq:∀j u,((xs.take i).flatMap zaa)[j]?=some u->ROW[j]?=some u:=fun j u hj=>by
  have cQ:=(List.getElem?_eq_some_iff.1 hj).1;rw[ow,Array.getElem?_append_left (by rw[Array.size_append,List.size_toArray];omega),Array.getElem?_append_left (by simpa using cQ)];simpa using hj
 obtain⟨W1,aT⟩:∃W1,W1=w.drew.alloc (.cells ROW 71):=⟨_,rfl⟩
 have zE:W1.heap[w.heap.size]?=some (.cells ROW 71):=by rw[aT];exact heap_alloc_new w.drew _
 have zH:∀k,k<w.heap.size->W1.heap[k]?=w.heap[k]?:=fun k hk=>by rw[aT];exact Below.heap_alloc w.drew _ k hk
 have wL:∀(W:World),W.heap=W1.heap->∀ty dc,(Builtin.copy_ #[48,48] ty #[.slice (some ⟨w.heap.size,i*3,none⟩) (xs.length+1-i) dc,.slice (some ⟨vb,0,none⟩) 1 1]).run Tryz.prog W=.ok (goInt (1:Nat)) (W.setCells w.heap.size (i*3) (zaa p)):=fun W me ty dc=>
  zgq W _ _ ty 71 3 w.heap.size (i*3) _ dc ⟨vb,0,none⟩ 1 1 1 _ Tryz.underlying48 hsz Mdz (by rw[zap])
   (fun j v hj=>by rw[Addr.add_lit,Nat.zero_add];exact zm3 (by rw[me,zH vb Lb];exact dB) j v hj)
   (fun j hj=>by rw[zap]at hj;simp[World.cell?,me,zE];omega) (fun j hj=>by simp[World.frozen?,me,zE]) (zcb p)
 obtain⟨cur1,k1,k2,k3,k4⟩:=zbM w.heap.size (zaa p) (i*3) W1 ROW zE (by rw[zap,nA];omega);have bK:=zbJ w.heap.size (zaa p) (i*3) W1;have bu:((xs.drop i).flatMap zaa).length=(xs.length-i)*3:=Mej;have FK:(W1.setCells w.heap.size (i*3) (zaa p)).heap[g]?=some (.cells cur 71):=by rw[bK.block g (by rw[aT];simp;omega) McD,zH g cz];exact hg
 have Cx:∀(W:World),W.heap=(W1.setCells w.heap.size (i*3) (zaa p)).heap->∀ty dc sc,(Builtin.copy_ #[48,48] ty #[.slice (some ⟨w.heap.size,(i+1)*3,none⟩) (xs.length-i) dc,.slice (some ⟨g,o+i*3,none⟩) (xs.length-i) sc]).run Tryz.prog W=.ok (goInt (xs.length-i:Nat)) (W.setCells w.heap.size ((i+1)*3) ((xs.drop i).flatMap zaa)):=fun W me ty dc sc=>
  zgq W _ _ ty 71 3 w.heap.size ((i+1)*3) _ dc ⟨g,o+i*3,none⟩ _ sc (xs.length-i) _ Tryz.underlying48 hsz Mdz bu
   (fun j v hj=>by
     rw[Addr.add_lit];have e:(xs.flatMap zaa)[i*3+j]?=some v:=by
      rw[cZ,List.getElem?_append_right Mcy,cn,Nat.add_sub_cancel_left];exact hj
     have:=hx _ _ e;simp only[World.cell?,me,FK,Nat.add_assoc]
     exact this)
   (fun j hj=>by rw[bu]at hj;simp[World.cell?,me,k1,k2,nA];omega) (fun j hj=>by simp[World.frozen?,me,k1]) (ziq _)
 have HF:Hid (∀W:World,W.heap=(W1.setCells w.heap.size (i*3) (zaa p)).heap->W.os=w.os->W.tape=w.tape->W.output=w.output->zfe w base (.slice (some ⟨g,o,none⟩) xs.length xs.length) (xs.take i++p::xs.drop i) (.returned (.slice (some ⟨w.heap.size,0,none⟩) (xs.length+1) G)) (W.setCells w.heap.size ((i+1)*3) ((xs.drop i).flatMap zaa))):=by
  intro W h1 h2 h3 h4;have sP:w.grownBy W (some g):=⟨h2,h3,h4,by rw[h1];exact Nat.le_trans (by rw[aT];simp) bK.size,fun k hk hn=>by rw[h1,bK.block k (by rw[aT];simp;omega) McD,zH k hk]⟩
  obtain⟨cur2,l1,l2,l3,l4⟩:=zbM w.heap.size ((xs.drop i).flatMap zaa) ((i+1)*3) W cur1 (by rw[h1];exact k1) (by rw[bu,k2,nA];omega);have ag:(xs.take i++p::xs.drop i).length=xs.length+1:=McD;have cy:=zbJ w.heap.size ((xs.drop i).flatMap zaa) ((i+1)*3) W;refine⟨_,rfl,.inr ⟨w.heap.size,0,G,cur2,by rw[ag],aL,l1,by rw[ag];exact J9,BO,by rw[l2,k2,nA];omega,?_⟩,?_,fun g' h=> .inr (by simp only[za5,Option.some.injEq]at h;omega)⟩
  ·refine ins_get (cur:=fun j=>cur2[0+j]?) Mcy (fun j u hj hu=>?_) (fun j u hu=>?_) (fun j u hu=>?_)
   ·show cur2[0+j]?=_;rw[Nat.zero_add,l3 _ (.inl Mcy),k3 _ (.inl Mcy)];rw[cZ,List.getElem?_append_left Mcy]at hu;exact rq j u hu
   ·show cur2[0+(i*3+j)]?=_;have CU:j<3:=by have:=(List.getElem?_eq_some_iff.1 hu).1;rwa [zap]at this
    rw[Nat.zero_add,l3 _ (.inl Mcy)];exact k4 j u hu
   ·show cur2[0+((i+1)*3+j)]?=_;rw[Nat.zero_add];exact l4 j u hu
  ·exact⟨cy.os.trans h2,cy.tape.trans h3,cy.output.trans h4,Nat.le_trans sP.size cy.size,fun k hk hn=>(cy.block k (Nat.lt_of_lt_of_le hk sP.size) McD).trans (sP.block k hk hn)⟩
 subst aT;have hGi:¬(G=i):=Mcy;have J7:¬(G=i+1):=Mcy;have oC:¬(xs.length=i):=Mcy;have hGc:(xs.length:Int)+1<=(G:Int):=Mcy;have J6:(i:Int)<=(xs.length:Int)+1:=Mcy;clear fR CS kr ow hG nA rq cZ cn bu FK bK k1 k2 k3 k4 zE zH hx hc bs;go_enter Tryz.func178,Tryz.ntmps178
 go_upto_region 10 with(at_builtin;refine Lib.wpList_append_run _ rfl _ _ _ _ rfl _ _ rfl rfl _ _ (Gt _) ?_)
 have FA:∀ty dc,_:=fun ty dc=>wL ((w.alloc (.cells ROW 71)).drew) rfl ty dc
 clear wL;go_wp2_with fail
 go_region_law_o (go_loud(refine step_copy_runI rfl _ _ 48 48 rfl _ _ Md4 Md4 (Cx (((w.alloc (.cells ROW 71)).drew.setCells w.heap.size (i*3) (zaa p)).drew) rfl _ _ _) ?_))
 go_wp2_with fail
 go_ret
 exact HF.o _ rfl rfl rfl rfl
theorem zo0{P:Program}(w:World)(t e ty:TypeId)(z:Value)(ht:P.underlying t=some (.slice e))(hv:∀w,(zeroValue e).run P w=.ok z w)(h1:∀u∈z.cells,u.oneCell'=true)(hp:0<z.cells.size)(b o n c:Nat)(hn:0<n)
 (hc:∀j,j<n*z.cells.size->(w.cell? ⟨b,o+j,none⟩).isSome=true)(hf:∀j,j<n*z.cells.size->w.frozen? ⟨b,o+j,none⟩=false):
 (Builtin.clear_ #[t] ty #[.slice (some ⟨b,o,none⟩) n c]).run P w=.ok (.tuple #[]) (w.setCells b o (Builtin.zeroCells z.cells n).toList):=by
 have hl:(Builtin.zeroCells z.cells n).toList.length=n*z.cells.size:=by simp[Builtin.zeroCells]
 have aq:=run_storeCells_cells (P:=P) b o (Builtin.zeroCells z.cells n).toList 0 w (by rw[hl];simpa using hc) (by rw[hl];simpa using hf) (by
  intro v jy;refine h1 v ?_;obtain⟨i,hi,rfl⟩:=List.getElem_of_mem jy;simp[Builtin.zeroCells]at hi⊢
  first|done|exact Array.getElem_mem _|simp[Nat.mod_lt _ hp])
 simp only[Nat.add_zero]at aq;obtain⟨m,rfl⟩:∃m,n=m+1:=⟨n-1,by omega⟩
 simp[Builtin.clear_,run_underlying ht,hv,aq]
theorem zeM{P:Program}{ops:Array Oper}{o:Oper}{a:Act}{w:World}{K:Act->World->Prop}{Q:Exit->Act->World->Prop}{E:Prop}
 (hg:o.guard=none)(d x:Operand)(dT sT:TypeId)(KS:o.op=Op.call {callee:=Callee.builtin Builtin.append,args:= #[d,x],argTypes:= #[dT,sT]})
 (v u:Value)(hd:a.eval d=v)(hx:a.eval x=u){v':Value}{w':World}(hr:(Builtin.append_ #[dT,sT] o.type #[v,u]).run P w=.ok v' w')(hK:K (a.put o.dst v') w'):
 if Region.wanted o (yielded ops a.tmps)=true then Oper.wp P o a w K Q else E:=by
 have hw:Region.wanted o (yielded ops a.tmps)=true:=by simp[Region.wanted,hg]
 rw[if_pos hw];unfold Oper.wp;simp[execOp,KS,resolve,invoke,builtin,hd,hx,hr,Result.andThen];exact hK
theorem del_any(base:Nat)(xs:Parts)(w:World)(hl:xs.length<=100000)(v:Value)(aa:OwnS w base 71 3 zaa v xs)(i:Nat)(hi:i<xs.length):
 Calls Tryz.prog 177 #[v,.int .i64 i,.int .i64 (i+1:Nat)] w (zfe w base v (xs.take i++xs.drop (i+1))):=by
 rcases aa with⟨rfl,rfl⟩|⟨g,o,c,cur,rfl,ji,hg,hc,iF,bh,hx⟩
 ·simp at hi
 have mixed:Tryz.prog.follows .mixedOrders=true:=Mcz;obtain⟨i0,z,fm,Ag,fe,Ah,um⟩:=zdN.hi;have hsz:(Tryz.prog.info? 71).map (·.size)=some 3:=by rw[fm];simp[fe]
 have bu:((xs.drop (i+1)).flatMap zaa).length=(xs.length-(i+1))*3:=Mej;have bl:∀j,j<c*3->(w.cell? ⟨g,o+j,none⟩).isSome=true:=fun j hj=>by simp[World.cell?,hg];omega
 have cn:((xs.take (i+1)).flatMap zaa).length=(i+1)*3:=Mde;have cZ:xs.flatMap zaa=(xs.take (i+1)).flatMap zaa++(xs.drop (i+1)).flatMap zaa:=Mdk;have nC:∀(A:Addr),(i+1<xs.length->A=⟨g,o+(i+1)*3,none⟩)->∀ty cc,(Builtin.append_ #[48,48] ty #[.slice (some ⟨g,o,none⟩) i c,.slice (some A) (xs.length-(i+1)) cc]).run Tryz.prog w.drew=.ok (.slice (some ⟨g,o,none⟩) (i+(xs.length-(i+1))) c) (w.drew.setCells g (o+i*3) ((xs.drop (i+1)).flatMap zaa)):=fun A hA ty cc=>by
  have:=run_append_room_cells (P:=Tryz.prog) w.drew 48 ty 71 i0 Tryz.underlying48 fm g o i c A (xs.length-(i+1)) cc ((xs.drop (i+1)).flatMap zaa) (by rw[bu,fe])
   (fun j u hj=>by
     have cQ:=(List.getElem?_eq_some_iff.1 hj).1;rw[hA Mcy,Addr.add_lit];have e:(xs.flatMap zaa)[(i+1)*3+j]?=some u:=by rw[cZ,List.getElem?_append_right Mcy,cn,Nat.add_sub_cancel_left];exact hj
     have:=hx _ _ e;show w.cell? _=_;simp only[World.cell?,hg,Nat.add_assoc]
     exact this) (ziq _) Mcy (fun j hj=>by rw[fe];rw[bu]at hj;show(w.cell? _).isSome=_;rw[Nat.add_assoc];exact bl _ Mcy) (fun j hj=>by show w.frozen? _=_;simp[World.frozen?,hg])
  rw[fe]at this;exact this
 have aH:i+(xs.length-(i+1))=xs.length-1:=Mcy;rw[aH]at nC;obtain⟨cur1,k1,k2,k3,k4⟩:=zbM g ((xs.drop (i+1)).flatMap zaa) (o+i*3) w.drew cur hg (by rw[bu];omega);have bK:=zbJ g ((xs.drop (i+1)).flatMap zaa) (o+i*3) w.drew;obtain⟨W1,aT⟩:∃W1,W1=w.drew.setCells g (o+i*3) ((xs.drop (i+1)).flatMap zaa):=⟨_,rfl⟩
 rw[<-aT]at nC k1 bK;have Cu:∀ty cc,(Builtin.clear_ #[48] ty #[.slice (some ⟨g,o+(xs.length-1)*3,none⟩) (xs.length-(xs.length-1)) cc]).run Tryz.prog W1=.ok (.tuple #[]) (W1.setCells g (o+(xs.length-1)*3) (Builtin.zeroCells (Value.agg #[.string ⟨#[]⟩,.int .i64 0,.int .i64 0]).cells (xs.length-(xs.length-1))).toList):=fun ty cc=>
  zo0 W1 48 71 ty (.agg #[.string ⟨#[]⟩,.int .i64 0,.int .i64 0]) Tryz.underlying48 Tryz.zeroValue71 (by simp[Value.cells,Value.oneCell']) (by simp[Value.cells]) g _ _ cc Mcy
   (fun j hj=>by simp[Value.cells]at hj;simp[World.cell?,k1,k2];omega) (fun j hj=>by simp[World.frozen?,k1])
 have HF:Hid (zfe w base (.slice (some ⟨g,o,none⟩) xs.length c) (xs.take i++xs.drop (i+1)) (.returned (.slice (some ⟨g,o,none⟩) (xs.length-1) c)) (W1.setCells g (o+(xs.length-1)*3) (Builtin.zeroCells (Value.agg #[.string ⟨#[]⟩,.int .i64 0,.int .i64 0]).cells (xs.length-(xs.length-1))).toList)):=by
  have sP:w.grownBy W1 (some g):=⟨bK.os,bK.tape,bK.output,bK.size,bK.block⟩
  have yE:(Builtin.zeroCells (Value.agg #[.string ⟨#[]⟩,.int .i64 0,.int .i64 0]).cells (xs.length-(xs.length-1))).toList.length=3:=by
   rw[Array.length_toList,zed];simp[Value.cells];omega
  obtain⟨cur2,l1,l2,l3,l4⟩:=zbM g _ (o+(xs.length-1)*3) W1 cur1 k1 (by rw[yE,k2];omega);have ag:(xs.take i++xs.drop (i+1)).length=xs.length-1:=McD;refine⟨_,rfl,.inr ⟨g,o,c,cur2,by rw[ag],ji,l1,by rw[ag];omega,iF,by rw[l2,k2];exact bh,fun j u hj=>?_⟩,zbo sP (zbJ _ _ _ _),fun g' h=> .inl h⟩;have cQ:=(List.getElem?_eq_some_iff.1 hj).1;rw[zes,ag]at cQ;rw[l3 _ (.inl Mcy)];have L3:((xs.take i).flatMap zaa).length=i*3:=Mde;rw[List.flatMap_append]at hj;by_cases cB:j<i*3
  ·rw[List.getElem?_append_left Mcy]at hj;rw[k3 _ (.inl Mcy)];refine hx j u ?_;exact MaD
  ·rw[List.getElem?_append_right Mcy,L3]at hj;have:=k4 _ u hj;rwa [show o+i*3+(j-i*3)=o+j by omega]at this
 have aS:(i:Int)+1<=(xs.length:Int):=Mcy;have ba:(0:Int)<=(i:Int):=Mcy;have bs:¬((i:Int)=(i:Int)+1):=Mcy;have ax:(xs.length:Int)<=(c:Int):=Mcy;have aC:(i:Int)<=(c:Int):=Mcy;have ao:¬(c=xs.length-1):=Mcy;have aP:((xs.length-1:Nat):Int)<=(xs.length:Int):=Mcy;have bQ:(0:Int)<=(i:Int)+1:=Mcy;have fI:((i:Int)+1).toNat=i+1:=Mcy;clear aT k1 k2 k3 k4 bK bl hx bu cn cZ hg aH;go_enter Tryz.func177,Tryz.ntmps177
 by_cases hlast:c=i+1
 ·clear ax aC ao aP aS hl;generalize hm:xs.length=m at*;obtain rfl:m=i+1:=by omega
  subst hlast;clear hm hc hi;have cL:(i:Int)<=(i:Int)+1:=Mcy;simp only[Nat.add_sub_cancel,Nat.add_sub_cancel_left,Nat.sub_self]at nC Cu HF;go_wp2_with fail
  go_region_law_o (go_loud(refine zeM rfl _ _ 48 48 rfl _ (.slice (some ⟨g,o,none⟩) 0 0) Mdj (by simp[Act.eval,Act.put]) (nC _ (fun h=>absurd h Mcy) _ _) ?_))
  go_wp2_with fail
  go_ret
  exact HF.o
 ·go_wp2_with fail
  go_region_law_o (go_loud(refine zeM rfl _ _ 48 48 rfl _ _ Mdj Mdj (nC _ (fun _=>rfl) _ _) ?_))
  go_wp2_with fail
  go_ret
  exact HF.o
theorem ins_any(base:Nat)(xs:Parts)(p:ByteArray×Rat)(vb:Nat)(w:World)(hl:xs.length<=100000)(dB:w.heap[vb]?=some (.cells #[.string p.1,.int .i64 p.2.num,.int .i64 p.2.den] 71))(aL:base<=w.heap.size)(v:Value)
 (aa:OwnS w base 71 3 zaa v xs)(ai:za5 v≠some vb)(i:Nat)(hi:i<=xs.length):
 Calls Tryz.prog 178 #[v,.int .i64 i,.slice (some ⟨vb,0,none⟩) 1 1] w (zfe w base v (xs.take i++p::xs.drop i)):=by
 by_cases he:i=xs.length
 ·subst he;rw[List.take_of_length_le (Nat.le_refl _),List.drop_eq_nil_of_le (Nat.le_refl _)];exact zoz base xs p vb w hl dB aL v aa
 ·have ae:i<xs.length:=Mcy;rcases aa with⟨rfl,rfl⟩|⟨g,o,c,cur,rfl,ji,hg,hc,iF,bh,hx⟩
  ·simp at ae
  ·by_cases hr:xs.length+1<=c
   ·exact zm4 base xs p vb w hl dB aL g o c cur ji hg hr iF bh hx i ae (fun e=>ai (by rw[e];rfl))
   ·have e:c=xs.length:=Mcy;subst e;exact zm5 base xs p vb w hl dB aL g o cur hg hx i ae
theorem zhB{W:World}{base:Nat}{e t:TypeId}{size:Nat}{f:ByteArray×Rat->List Value}{v:Value}{xs:Parts}{T:Nat}{cs:Array Value}{fr:Nat×Nat}(h:OwnS W base e size f v xs)(hT:W.heap[T]?=some (.cells cs t fr))(ai:t≠e):za5 v≠some T:=by
 exact MY
def zkn(w:World)(base T:Nat)(pl:ByteArray)(cl fr en:Int)(dv v:Value)(ys:Parts)(e:Ending)(w':World):Prop:=
 e=.returned (.tuple #[])/\∃v',zby w' T pl cl fr en v' dv/\OwnS w' base 71 3 zaa v' ys/\Below base w w'/\∀k,k<w.heap.size->k≠T->za5 v≠some k->w'.heap[k]?=w.heap[k]?
theorem numZ(q:Rat):(q==0)=(q.num==0):=by
 rw[Bool.eq_iff_iff,beq_iff_eq,beq_iff_eq,Rat.num_eq_zero]
theorem set_at{P Q:Parts}{nm:ByteArray}{q:Rat}(hP:∀p∈P,zbh p.1 nm=true)(hQ:∀p∈Q,zbh p.1 nm=false):
 setP (P++Q) nm q=if q.num==0 then(if zdL Q nm then P++Q.drop 1 else P++Q)else if zdL Q nm then P++(nm,q)::Q.drop 1 else P++(nm,q)::Q:=by
 rw[zem hP,<-numZ];cases Q with
 |nil=>simp[setP,zdL];split<;>simp
 |cons b Q=>
  rw[setP,hQ b McB];simp only[zdL,Bool.false_eq_true,if_false,List.drop_succ_cons,List.drop_zero];split<;>split<;>simp_all
theorem zgr{W:World}{T:Nat}{pl:ByteArray}{cl fr en:Int}{v dv:Value}(h:zby W T pl cl fr en v dv)(v':Value):zby (W.setCell ⟨T,4,none⟩ v') T pl cl fr en v' dv:=by
 unfold zby at*;have:=Joins.block_setCell (i:=4) h v';simpa using this
theorem own_set2{W:World}{base g o n c:Nat}{P Q:Parts}{b:ByteArray×Rat}{q:Rat}(h:OwnS W base 71 3 zaa (.slice (some ⟨g,o,none⟩) n c) (P++b::Q)):
 OwnS ((W.setCell ⟨g,o+P.length*3+1,none⟩ (.int .i64 q.num)).setCell ⟨g,o+P.length*3+1+1,none⟩ (.int .i64 q.den)) base 71 3 zaa (.slice (some ⟨g,o,none⟩) n c) (P++(b.1,q)::Q):=by
 rcases h with⟨h,_⟩|⟨g',o',c',cur,h,hb,hg,hc,hm,hs,hx⟩
 ·cases h
 ·simp only[Value.slice.injEq,Option.some.injEq,Addr.mk.injEq,and_true]at h;obtain⟨⟨rfl,rfl⟩,rfl,rfl⟩:=h;refine .inr ⟨g,o,c,(cur.setIfInBounds (o+P.length*3+1) (.int .i64 q.num)).setIfInBounds (o+P.length*3+1+1) (.int .i64 q.den),by simp,hb,heap_setCell_same _ g _ _ _ _ (heap_setCell_same W g _ cur _ _ hg),by simpa using hc,hm,by simpa using hs,fun j u hj=>?_⟩;have hl:(P.flatMap zaa).length=P.length*3:=zes P;have cQ:=(List.getElem?_eq_some_iff.1 hj).1;rw[zes]at cQ;simp only[List.length_append,List.length_cons]at cQ hc;rw[List.flatMap_append,List.flatMap_cons]at hj;by_cases h1:j<P.length*3
  ·rw[List.getElem?_append_left Mcy]at hj;rw[Array.getElem?_setIfInBounds_ne Mcy,Array.getElem?_setIfInBounds_ne Mcy];refine hx j u ?_;rw[List.flatMap_append,List.getElem?_append_left Mcy];exact hj
  ·rw[List.getElem?_append_right Mcy,hl]at hj;by_cases h2:j-P.length*3<3
   ·rw[List.getElem?_append_left (by rw[zap];exact h2)]at hj;obtain h3|h3|h3:j-P.length*3=0\/j-P.length*3=1\/j-P.length*3=2:=by omega
    ·rw[h3]at hj;rw[Array.getElem?_setIfInBounds_ne Mcy,Array.getElem?_setIfInBounds_ne Mcy];refine hx j u ?_;rw[List.flatMap_append,List.flatMap_cons,List.getElem?_append_right Mcy,hl,List.getElem?_append_left (by rw[zap];exact h2),h3];exact hj
    ·rw[h3]at hj;rw[Array.getElem?_setIfInBounds_ne Mcy,show o+j=o+P.length*3+1 by omega,Array.getElem?_setIfInBounds_self_of_lt Mcy];simpa[zaa]using hj
    ·rw[h3]at hj;rw[show o+j=o+P.length*3+1+1 by omega,Array.getElem?_setIfInBounds_self_of_lt McD];simpa[zaa]using hj
   ·rw[List.getElem?_append_right Mee,zap]at hj;rw[Array.getElem?_setIfInBounds_ne Mcy,Array.getElem?_setIfInBounds_ne Mcy];refine hx j u ?_;rw[List.flatMap_append,List.flatMap_cons,List.getElem?_append_right Mcy,hl,List.getElem?_append_right Mee,zap];exact hj
theorem zir(base T:Nat)(xs:Parts)(v:Value)(pl:ByteArray)(cl fr en:Int)(dv:Value)(nm:ByteArray)(q:Rat)(w:World)(hT:zby w T pl cl fr en v dv)(rK:base<=T)(aa:OwnS w base 71 3 zaa v xs)(hA:AscP xs)(hl:xs.length<=90000):
 Calls Tryz.prog 152 #[.pointer (some ⟨T,0,none⟩),.string nm,.agg #[.int .i64 q.num,.int .i64 q.den]] w (zkn w base T pl cl fr en dv v (setP xs nm q)):=by
 unfold zby at hT;have ae:T<w.heap.size:=zab hT;have zN:base<=w.heap.size:=Mcy;have zC:za5 v≠some T:=zhB aa hT McA;have eT:=aa.ge;obtain⟨A,c,GE,hS,hc⟩:=aa.sl zap;have ki:w.cell? ⟨T,4,none⟩=some v:=by simp[World.cell?,hT]
 have K5:w.frozen? ⟨T,4,none⟩=false:=by simp[World.frozen?,hT]
 have ai:T≠w.heap.size:=Mcy;obtain⟨HO,HS,HA,HV,HT⟩:=yH5 aa hS hA GE hT;clear hS hA aa GE hT;go_enter Tryz.func152,Tryz.ntmps152
 go_upto_region 3 with(go_at_call 64;refine(znH xs A c T nm _ (by rw[<-HV.o];simp[go_sem,ae,ki]) Mcy HA.o (HS.o.keep (n:=w.heap.size) Bw)).mono ?_;rintro e wq ⟨P,Q,bv,hP,hQ,rfl,z,rfl⟩;subst bv)
 have iz:=set_at (q:=q) hP hQ;have fZ:=zHi iz;clear iz hP hQ;generalize hh:zdL Q nm=ok at*;have HH:=zHi hh;clear hh;obtain⟨W,hW⟩:∃W,W=(w.alloc (.cells #[.int .i64 q.num,.int .i64 q.den] 31)).ext z:=⟨_,rfl⟩
 have eM:Below w.heap.size w W:=by rw[hW];exact Bw
 have q0:W.cell? ⟨w.heap.size,0,none⟩=some (.int .i64 q.num):=by rw[hW];simp[go_sem]
 have q1:W.cell? ⟨w.heap.size,1,none⟩=some (.int .i64 q.den):=by rw[hW];simp[go_sem]
 have rz:zby W T pl cl fr en v dv:=(eM.block T ae).trans HT.o;have hWs:w.heap.size<W.heap.size:=by rw[hW];simp[zaf];omega
 have vT:=zHi (HO.o.keep (n:=w.heap.size) eM);have wg:T<W.heap.size:=zab rz;rw[<-hW];clear hW;have c4:W.cell? ⟨T,4,none⟩=some v:=by unfold zby at rz;simp[World.cell?,rz]
 have f4:W.frozen? ⟨T,4,none⟩=false:=by unfold zby at rz;simp[World.frozen?,rz]
 have qN:=zHi rz;clear rz ki K5 ai;have fF:P.length<=(P++Q).length:=McB;have HB:Hid (∀w1,W.grownBy w1 (za5 v)->Below base w w1/\w1.heap[T]?=W.heap[T]?):=fun w1 h2=>⟨Below.grown (eM.mono zN) h2 (Nat.le_trans zN eM.size) (fun j hj=>(eT j hj).1),h2.block T wg (fun e=>zC e.symm)⟩
 have uG:Hid (∀w1 v' ys,W.grownBy w1 (za5 v)->OwnS w1 base 71 3 zaa v' ys->(∀g,za5 v'=some g->za5 v=some g\/W.heap.size<=g)->setP (P++Q) nm q=ys->zkn w base T pl cl fr en dv v (setP (P++Q) nm q) (.returned (.tuple #[])) (w1.setCell ⟨T,4,none⟩ v')):=fun w1 v' ys h2 h1 h3 hs=>by
  obtain⟨aS,ub⟩:=HB.o w1 h2;have jy:za5 v'≠some T:=fun e=>by
   rcases h3 T e with h|h
   ·exact zC h
   ·omega
  rw[hs];refine⟨rfl,v',zgr (ub.trans qN.o) v',h1.grown (zav _ _ _ _) (.inr jy),zaP aS rK _,fun k hk zZ oL=>?_⟩;have FW:k<W.heap.size:=Nat.lt_of_lt_of_le hk eM.size;rw[(zav w1 T 4 v').block k (Nat.lt_of_lt_of_le FW h2.size) (fun e=>zZ MdJ),h2.block k FW (fun e=>oL e.symm),eM.block k hk]
 cases hq:(q.num==0)
 ·have HQ:=zHi hq;have fu:¬q.num=0:=by simpa using hq
  clear hq;cases ok
  ·
   have vg:Hid (setP (P++Q) nm q=(P++Q).take P.length++(nm,q)::(P++Q).drop P.length):=by
    show _=_;rw[fZ.o,HQ.o,List.take_left,List.drop_left];simp
   have dP:Hid (((P++Q).take P.length++(nm,q)::(P++Q).drop P.length).length=P.length+(Q.length+1)):=by show _=_;simp
   go_upto_region 2 with fail
   go_region_law (go_simp;go_at_call 178
                  refine(ins_any base (P++Q) (nm,q) W.heap.size _ Mcy ?q1 ?q2 v ?q3 ?q4 P.length Mcy).mono ?_
                  case q1=>(first|exact zar _ _ _ rfl|(refine J_drew ?_;exact zar _ _ _ rfl))
                  case q2=>simp;omega
                  case q3=>exact vT.o.keep (n:=W.heap.size) Bw
                  case q4=>(intro e;have:=(eT _ e).2;omega)
                  rintro e w1 ⟨v',rfl,h1,h2,h3⟩;obtain⟨A',c',jy,_,_⟩:=h1.sl zap;rw[dP.o]at jy;subst jy;have t1:=(h2.block T McD (fun e=>zC e.symm)).trans (show _=some (Obj.cells #[.string pl,.int .i64 cl,.int .i64 fr,.int .i64 en,v,dv] 95 (0,0)) from(Below.heap_alloc _ _ _ wg).trans qN.o);have k1:w1.cell? ⟨T,4,none⟩=some v:=by simp[World.cell?,t1]
                  have k2:w1.frozen? ⟨T,4,none⟩=false:=by simp[World.frozen?,t1])
   all_goals go_wp2_with fail
   all_goals go_end0
   all_goals exact uG.o w1 _ _ (zbo (World.grownBy_alloc W _ _) ⟨h2.os,h2.tape,h2.output,h2.size,h2.block⟩) h1 (fun g hg=>(h3 g hg).imp id (fun h=>by simp at h;omega)) vg.o
  ·
   cases Q with
   |nil=>have:=HH.o;simp[zdL]at this
   |cons b Q=>
    have gU:b.1=nm:=zau.1 HH.o;rcases vT.o with⟨_,h'⟩|⟨g,o,cap,cur,hv,hb,hg,aW,iF,bh,hx⟩
    ·simp at h'
    subst hv;have hl:(P.flatMap zaa).length=P.length*3:=zes P;have gT:∀j u,(zaa b)[j]?=some u->cur[o+P.length*3+j]?=some u:=fun j u hj=>by
     have:=hx (P.length*3+j) u (by rw[List.flatMap_append,List.flatMap_cons,List.getElem?_append_right Mcy,hl,Nat.add_sub_cancel_left,List.getElem?_append_left (List.getElem?_eq_some_iff.1 hj).1];exact hj);rwa [<-Nat.add_assoc]at this
    have k1:W.cell? ⟨g,o+P.length*3+1,none⟩=some (.int .i64 b.2.num):=by simp only[World.cell?,hg];exact gT 1 _ rfl
    have k2:W.cell? ⟨g,o+P.length*3+1+1,none⟩=some (.int .i64 b.2.den):=by simp only[World.cell?,hg];exact gT 2 _ rfl
    have k3:W.frozen? ⟨g,o+P.length*3+1,none⟩=false:=by simp[World.frozen?,hg]
    have k4:W.frozen? ⟨g,o+P.length*3+1+1,none⟩=false:=by simp[World.frozen?,hg]
    have FL:T≠g:=fun e=>zC (by rw[e];rfl)
    have iG:g≠w.heap.size:=by have:=(eT g rfl).2;omega
    have tU:(P.length:Int)<((P++b::Q).length:Int):=McD;have fm:(0:Int)<=(P.length:Int):=Mcy;have vg:Hid (setP (P++b::Q) nm q=P++(b.1,q)::Q):=by
     show _=_;rw[fZ.o,HQ.o,gU];simp
    clear hx gT hg;go_upto_region 7 with fail
    go_region
    all_goals go_wp2_with fail
    all_goals go_end0
    all_goals exact⟨rfl,_,(J_ne FL (J_ne FL qN.o):_),by rw[vg.o];exact own_set2 vT.o,by have hBb:=eM.mono zN;exact Bw,fun k hk zZ oL=>((zbo (zav W g _ _) (zav _ g _ _)).block k (Nat.lt_of_lt_of_le hk eM.size) (fun e=>oL (by rw[e];rfl))).trans (eM.block k hk)⟩
 ·have HQ:=zHi hq;have fu:q.num=0:=by simpa using hq
  clear hq;cases ok
  ·
   go_wp2_with fail
   go_end0
   exact⟨rfl,v,qN.o,by rw[fZ.o,HQ.o];exact vT.o,eM.mono zN,fun k hk _ _=>eM.block k hk⟩
  ·
   have br:P.length<(P++Q).length:=by
    cases Q with
    |nil=>have:=HH.o;simp[zdL]at this
    |cons b Q=>simp
   have vg:Hid (setP (P++Q) nm q=(P++Q).take P.length++(P++Q).drop (P.length+1)):=by
    show _=_;rw[fZ.o,HQ.o,List.take_left,List.drop_append];simp
   have dP:Hid (((P++Q).take P.length++(P++Q).drop (P.length+1)).length=P.length+(Q.length-1)):=by show _=_;simp
   have wO:=del_any base (P++Q) W Mcy v vT.o P.length br;rw[show((P.length+1:Nat):Int)=(P.length:Int)+1 by omega]at wO;have jz:IntKind.i64.wrap ((P.length:Int)+1)=(P.length:Int)+1:=Mda;go_wp2_with (go_at_call 177;go_loud(refine wO.mono ?_;rintro e w1 ⟨v',rfl,h1,h2,h3⟩;obtain⟨A',c',jy,_,_⟩:=h1.sl zap;rw[dP.o]at jy;subst jy;have t1:w1.heap[T]?=some (Obj.cells #[.string pl,.int .i64 cl,.int .i64 fr,.int .i64 en,v,dv] 95 (0,0)):=(HB.o w1 h2).2.trans qN.o;have k1:w1.cell? ⟨T,4,none⟩=some v:=(by simp[World.cell?,t1]);have k2:w1.frozen? ⟨T,4,none⟩=false:=(by simp[World.frozen?,t1])))
   go_end0
   exact uG.o w1 _ _ h2 h1 h3 vg.o
end
theorem zj9{V:Type}(ev:V->Value)(s:ByteArray):∀(es:List MapEntry) (m:List (ByteArray×V)),es.map (fun e=>(e.key,e.val))=m.map (fun p=>(ekS p.1,ev p.2))->∀i,
 Instr.findNow .string (.string s) es i=some ((locate eqS s m i).map fun p=>(p.1,ev p.2))
 | [],[],_,_=>rfl
 | [],_::_,h,_=>by simp at h
 |_::_,[],h,_=>by simp at h
 |e::es,p::m,h,i=>by
  simp only[List.map_cons,List.cons.injEq,Prod.mk.injEq]at h;obtain⟨⟨hk,hv⟩,ht⟩:=h;unfold Instr.findNow locate;rw[hk,hv,ekS,Instr.sameNow,beq_toListBytes];cases hq:eqS s p.1
  ·rw[eqS]at hq;rw[hq];simpa using zj9 ev s es m ht (i+1)
  ·rw[eqS]at hq;rw[hq];rfl
theorem zko{V:Type}{t et:TypeId}{ev:V->Value}{z:V}(ht:Tryz.prog.underlying t=some (.map 9 et))(hz:∀w,(zeroValue et).run Tryz.prog w=.ok (ev z) w):MapTy Tryz.prog t 9 et ekS ev z eqS where
 ht:=ht
 hz:=hz
 hck:=zol
 hfind:=fun k es m h w=>by
  simp[Instr.findKey,run_underlying Tryz.underlying9,ekS,zj9 ev k es m h 0]
 hsame:=fun k k' h=>by
  rw[ekS,ekS,zgH,beq_toListBytes];rw[eqS]at h;rw[eq_of_beq h];exact beq_self_eq_true _
def nilS:Value:=.slice none 0 0
theorem zli:MapTy Tryz.prog 84 9 4 ekS evB false eqS:=zko Tryz.underlying84 (fun w=>by kernel_rfl)
theorem zjl:MapTy Tryz.prog 85 9 36 ekS (fun v:Value=>v) nilS eqS:=zko Tryz.underlying85 (fun w=>by kernel_rfl)
theorem mapSP:MapTy Tryz.prog 86 9 48 ekS (fun v:Value=>v) nilS eqS:=zko Tryz.underlying86 (fun w=>by kernel_rfl)
theorem mapSF:MapTy Tryz.prog 221 9 31 ekS (fun v:Value=>v) (.agg #[.int .i64 0,.int .i64 0]) eqS:=zko Tryz.underlying221 (fun w=>by kernel_rfl)
def ekP(p:ByteArray×ByteArray):Value:=.agg #[.string p.1,.string p.2]
def eqP(a b:ByteArray×ByteArray):Bool:=eqS a.1 b.1&&eqS a.2 b.2
theorem info_str:∃i,Tryz.prog.info? 9=some i:=⟨_,(by kernel_rfl:Tryz.prog.info? 9=some (Tryz.prog.info? 9).get!)⟩
theorem cells_str:Tryz.prog.cellsOf 9=1:=by kernel_rfl
theorem zlj(d:Nat)(a c a' c':ByteArray)(w:World):(Op.equalIn (d+2) 107 (.agg #[.string a,.string c]) (.agg #[.string a',.string c'])).run Tryz.prog w=.ok (eqS a a'&&eqS c c') w:=by
 obtain⟨i,hi⟩:=info_str;rw[run_equalIn_array w (d+1) _ _ Tryz.underlying107 hi,cells_str];have hr:List.range 2=[0,1]:=rfl;rw[hr];simp only[Op.eqItems,Sem.run_bind,Nat.zero_mul,Nat.one_mul];have hp:∀(v:Array Value) (j:Nat) (x:ByteArray),v[j]?=some (.string x)->∀W,(part 9 v j).run Tryz.prog W=.ok (.string x) W:=fun v j x hv W=>by
  simp[part,isAgg,run_underlying Tryz.underlying9,hv]
 rw[hp _ 0 a rfl,Result.andThen_ok,hp _ 0 a' rfl,Result.andThen_ok,run_equalIn_string w d 9 a a' Tryz.underlying9,Result.andThen_ok];cases h1:(a.toList==a'.toList)
 ·simp[eqS,h1]
 ·simp only[Bool.not_true,Bool.false_eq_true,if_false,Sem.run_bind];rw[hp _ 1 c rfl,Result.andThen_ok,hp _ 1 c' rfl,Result.andThen_ok,run_equalIn_string w d 9 c c' Tryz.underlying9,Result.andThen_ok];cases h2:(c.toList==c'.toList)<;>simp[eqS,h1,h2]
theorem equal_p(a c a' c':ByteArray)(w:World):(Op.equal 107 (.agg #[.string a,.string c]) (.agg #[.string a',.string c'])).run Tryz.prog w=.ok (eqS a a'&&eqS c c') w:=zlj 9998 a c a' c' w
theorem findNow_p(v:Value)(e:MapEntry)(es:List MapEntry)(n:Nat)(t:TypeId)(i:Nat):Instr.findNow (.array n t) v (e::es) i=none:=by
 unfold Instr.findNow;cases v<;>simp[Instr.sameNow]
theorem zhn(p:ByteArray×ByteArray)(w:World):∀(es:List MapEntry) (m:List ((ByteArray×ByteArray)×Bool)),es.map (fun e=>(e.key,e.val))=m.map (fun p=>(ekP p.1,evB p.2))->∀i,
 (Instr.findAsking 107 (ekP p) es i).run Tryz.prog w=.ok ((locate eqP p m i).map fun p=>(p.1,evB p.2)) w
 | [],[],_,_=>by simp[Instr.findAsking,locate]
 | [],_::_,h,_=>by simp at h
 |_::_,[],h,_=>by simp at h
 |e::es,q::m,h,i=>by
  simp only[List.map_cons,List.cons.injEq,Prod.mk.injEq]at h;obtain⟨⟨hk,hv⟩,ht⟩:=h;unfold Instr.findAsking locate;have h1:=equal_p p.1 p.2 q.1.1 q.1.2 w;have h2:=zhn p w es m ht (i+1);rw[hk,hv];simp only[ekP]at h1 h2⊢;simp only[Sem.run_bind,h1,Result.andThen_ok];change Sem.run _ (if(eqP p q.1)=true then _ else _) w=_;cases hq:eqP p q.1
  ·simpa using h2
  ·simp
theorem zo1(e:Bool)(p:ByteArray×ByteArray)(w:World):(Instr.checkKey e 10000 107 (ekP p)).run Tryz.prog w=.ok () w:=by
 obtain⟨a,c⟩:=p;cases e<;>kernel_rfl
theorem zo2(a c a' c':ByteArray)(h1:a=a')(h2:c=c'):Instr.sameBits 10000 (.agg #[.string a,.string c]) (.agg #[.string a',.string c'])=true:=by
 subst h1 h2;have h2:∀n,Instr.sameBits (n+1) (.agg #[.string a,.string c]) (.agg #[.string a,.string c])=true:=fun n=>by simp[Instr.sameBits,zgH,beq_toListBytes]
 exact h2 9999
theorem eqS_eq{a b:ByteArray}(h:eqS a b=true):a=b:=zau.1 h
theorem mapPB:MapTy Tryz.prog 87 107 4 ekP evB false eqP where
 ht:=Tryz.underlying87
 hz:=fun w=>by kernel_rfl
 hck:=zo1
 hfind:=fun k es m h w=>by
  match es,m,h with
  | [],[],_=>simp[Instr.findKey,run_underlying Tryz.underlying107,Instr.findNow,locate]
  | [],_::_,h=>simp at h
  |e::es,m,h=>
   simp only[Instr.findKey,Sem.run_bind,run_underlying Tryz.underlying107,Result.andThen_ok,findNow_p];exact zhn k w (e::es) m h 0
 hsame:=fun k k' h=>by
  obtain⟨a,c⟩:=k;obtain⟨a',c'⟩:=k';simp only[eqP,Bool.and_eq_true]at h;exact zo2 a' c' a c (eqS_eq h.1).symm (eqS_eq h.2).symm
section
def sC(s:ByteArray):List Value:=[.string s]
theorem za9(s:ByteArray):(sC s).length=1:=rfl
theorem zbA(s:ByteArray):∀u∈sC s,u.oneCell'=true:=by simp[sC,Value.oneCell']
theorem zbj(p:ByteArray×ByteArray):(zaT p).length=2:=rfl
theorem zdB(p:ByteArray×ByteArray):∀u∈zaT p,u.oneCell'=true:=by simp[zaT,Value.oneCell']
def ptrC(T:Nat):List Value:=[.pointer (some ⟨T,0,none⟩)]
theorem zdb(T:Nat):(ptrC T).length=1:=rfl
theorem znI(T:Nat):∀u∈ptrC T,u.oneCell'=true:=by simp[ptrC,Value.oneCell']
theorem zbB:ElTy Tryz.prog 36 9 1 16:=zd4 (z:=.string ⟨#[]⟩) Mcz Mcz rfl McA
theorem zgs:ElTy Tryz.prog 41 107 2 32:=zd4 (z:=.agg #[.string ⟨#[]⟩,.string ⟨#[]⟩]) Mcz Mcz rfl McA
theorem elTomb:ElTy Tryz.prog 90 80 1 8:=zd4 (z:=.pointer none) Mcz Mcz rfl McA
def Ro{α:Type}(W:World)(e:TypeId)(f:α->List Value)(A:Option Addr)(xs:List α):Prop:=
 0<xs.length->∃b off cur fr,A=some ⟨b,off,none⟩/\W.heap[b]?=some (.cells cur e fr)/\∀j u,(xs.flatMap f)[j]?=some u->cur[off+j]?=some u
section
variable {α:Type} {W W':World} {e:TypeId} {size base:Nat} {f:α->List Value} {A:Option Addr} {xs:List α} {v:Value}
theorem Ro.sl(ag:∀x,(f x).length=size)(h:Ro W e f A xs):Sl W size f A xs:=fun hl=>by
 obtain⟨b,off,cur,fr,hA,hb,hx⟩:=h hl;refine⟨b,off,hA,(Array.getElem?_eq_some_iff.1 hb).1,fun k x hk j u hu=>?_⟩;have:=hx (k*size+j) u (zeO f size ag xs k x hk j u hu);simp only[World.cell?,hb,Nat.add_assoc];exact this
theorem Ro.same(h:Ro W e f A xs)(hk:∀b cur fr,W.heap[b]?=some (.cells cur e fr)->(∀off,A=some ⟨b,off,none⟩->True)->W'.heap[b]?=W.heap[b]?):Ro W' e f A xs:=fun hl=>by
 obtain⟨b,off,cur,fr,hA,hb,hx⟩:=h hl;exact⟨b,off,cur,fr,hA,(hk b cur fr hb fun _ _=>trivial).trans hb,hx⟩
theorem Ro.keep{n:Nat}(h:Ro W e f A xs)(hB:Below n W W')(hn:W.heap.size<=n:=by first|exact Nat.le_refl _|omega):Ro W' e f A xs:=
 h.same fun b cur fr hb _=>hB.block b (Nat.lt_of_lt_of_le (Array.getElem?_eq_some_iff.1 hb).1 hn)
theorem Ro.nil:Ro W e f A ([]:List α):=fun h=>absurd h McB
theorem OwnS.ro(h:OwnS W base e size f v xs):∃A c,v=.slice A xs.length c/\xs.length<=c/\Ro W e f A xs:=by
 rcases h with⟨rfl,rfl⟩|⟨g,o,c,cur,rfl,_,hg,hc,_,_,hx⟩
 ·exact⟨none,0,rfl,Nat.le_refl _,Ro.nil⟩
 ·exact⟨_,c,rfl,hc,fun _=>⟨g,o,cur,_,rfl,hg,hx⟩⟩
theorem OwnS.kept{g:Nat}{cs:Array Value}{t:TypeId}{fr:Nat×Nat}(h:OwnS W base e size f v xs)(hg:W.grownBy W' (some g))(hx:W.heap[g]?=some (.cells cs t fr))(ai:t≠e):OwnS W' base e size f v xs:=
 h.grown hg (by
  rcases h with⟨rfl,_⟩|⟨g',o,c,cur,rfl,_,fB,_⟩
  ·exact .inl rfl
  ·refine .inr fun e'=>?_
   simp only[za5,Option.some.injEq]at e';subst e';rw[fB]at hx;simp only[Option.some.injEq,Obj.cells.injEq]at hx
   exact ai hx.2.1.symm)
theorem OwnS.keptM{g:Nat}{es:Array MapEntry}{c:Nat}(h:OwnS W base e size f v xs)(hg:W.grownBy W' (some g))(hx:W.heap[g]?=some (.map es c)):OwnS W' base e size f v xs:=
 h.grown hg (by
  rcases h with⟨rfl,_⟩|⟨g',o,c,cur,rfl,_,fB,_⟩
  ·exact .inl rfl
  ·refine .inr fun e'=>?_
   simp only[za5,Option.some.injEq]at e';subst e';rw[fB]at hx
   simp at hx)
theorem Ro.kept{g:Nat}{cs:Array Value}{t:TypeId}{fr:Nat×Nat}(h:Ro W e f A xs)(hg:W.grownBy W' (some g))(hx:W.heap[g]?=some (.cells cs t fr))(ai:t≠e):Ro W' e f A xs:=
 h.same fun b cur fr' hb _=>hg.block b (Array.getElem?_eq_some_iff.1 hb).1 (fun e'=>by
  simp only[Option.some.injEq]at e';subst e';rw[hb]at hx;simp only[Option.some.injEq,Obj.cells.injEq]at hx
  exact ai hx.2.1.symm)
theorem Ro.keptM{g:Nat}{es:Array MapEntry}{c:Nat}(h:Ro W e f A xs)(hg:W.grownBy W' (some g))(hx:W.heap[g]?=some (.map es c)):Ro W' e f A xs:=
 h.same fun b cur fr' hb _=>hg.block b (Array.getElem?_eq_some_iff.1 hb).1 (fun e'=>by
  simp only[Option.some.injEq]at e';subst e';rw[hb]at hx
  simp at hx)
end
theorem MapS.keptC{W W':World}{b g:Nat}{K V:Type}{ek:K->Value}{ev:V->Value}{m:List (K×V)}{cs:Array Value}{t:TypeId}{fr:Nat×Nat}(h:MapS W b ek ev m)(hg:W.grownBy W' (some g))(hx:W.heap[g]?=some (.cells cs t fr)):MapS W' b ek ev m:=
 h.grown hg (fun e=>by
  simp only[Option.some.injEq]at e;subst e;obtain⟨es,c,h1,_⟩:=h;rw[h1]at hx
  simp at hx)
def RowIs(W:World)(base:Nat)(m:List (ByteArray×Value))(n:ByteArray)(xs:List ByteArray):Prop:=
 (mget eqS n m=none/\xs=[])\/∃v,mget eqS n m=some v/\OwnS W base 9 1 sC v xs
def WillIs(W:World)(m:List (ByteArray×Value))(n:ByteArray)(xs:Parts):Prop:=
 (mget eqS n m=none/\xs=[])\/∃A c,mget eqS n m=some (.slice A xs.length c)/\Ro W 71 zaa A xs
def zaU(m:List (ByteArray×Value)):List Nat:=m.filterMap fun e=>za5 e.2
structure PplAt (base:Nat) (W:World) (B:List Nat) (d c p wl r:Nat) (mv:Value) (s:St):Prop where
 nd:[d,c,p,wl,r].Nodup
 ge:base<=d/\base<=c/\base<=p/\base<=wl/\base<=r
 dead:MapS W d ekS evB (s.dead.map fun n=>(n,true))
 rows:∃mc mp,MapS W c ekS (fun v:Value=>v) mc/\MapS W p ekS (fun v:Value=>v) mp/\(∀n,RowIs W base mc n (zai s n))/\(∀n,RowIs W base mp n (zbP s n))/\B=zaU (mc++mp)/\(B.Nodup/\(mc.map (·.1)).Nodup/\(mp.map (·.1)).Nodup)
 marr:OwnS W base 107 2 zaT mv s.marriages
 wills:∃m,MapS W wl ekS (fun v:Value=>v) m/\∀n,WillIs W m n (zbw s n)
 ren:MapS W r ekP evB (s.renounce.map fun x=>(x,true))
def TombAt(W:World)(base:Nat)(B:List Nat)(T:Nat)(g:Grave):Prop:=
 ∃H hc D dc fr,zby W T g.place g.cls fr g.fin (.slice H g.holders.length hc) (.slice D g.died.length dc)/\base<=T/\g.holders.length<=hc/\g.died.length<=dc/\Ro W 71 zaa H g.holders/\Ro W 9 sC D g.died/\(0<g.died.length->∀a,D=some a->a.block∉B)
structure TombsAt (base:Nat) (W:World) (B:List Nat) (tv:Value) (ps:List Nat) (gs:List Grave):Prop where
 own:OwnS W base 80 1 ptrC tv ps
 len:ps.length=gs.length
 nd:ps.Nodup
 all:∀(i T:Nat) (g:Grave),ps[i]?=some T->gs[i]?=some g->TombAt W base B T g
def WldC(W:World)(b d c p wl r:Nat)(mv tv:Value)(last count:Int):Prop:=W.heap[b]?=some (.cells #[.map (some d),.map (some c),.map (some p),mv,.map (some wl),.map (some r),tv,.int .i64 last,.int .i64 count] 92)
def WldAt(base:Nat)(W:World)(b:Nat)(s:St)(last count:Int):Prop:=
 ∃B d c p wl r mv tv ps,base<=b/\WldC W b d c p wl r mv tv last count/\PplAt base W B d c p wl r mv s/\TombsAt base W B tv ps s.graves
def PeoAt(base:Nat)(W:World)(b:Nat)(s:St):Prop:= ∃B d c p wl r mv tv la co,WldC W b d c p wl r mv tv la co/\PplAt base W B d c p wl r mv s
section
variable {base n:Nat} {W W':World} {B:List Nat} {d c p wl r:Nat} {mv tv:Value} {s:St} {m:List (ByteArray×Value)} {nm:ByteArray}
theorem RowIs.keep{xs:List ByteArray}(h:RowIs W base m nm xs)(hB:Below n W W')(hn:W.heap.size<=n:=by first|exact Nat.le_refl _|omega):RowIs W' base m nm xs:=by
 rcases h with h|⟨v,h1,h2⟩
 ·exact .inl h
 ·exact .inr ⟨v,h1,h2.keep hB hn⟩
theorem WillIs.keep{xs:Parts}(h:WillIs W m nm xs)(hB:Below n W W')(hn:W.heap.size<=n:=by first|exact Nat.le_refl _|omega):WillIs W' m nm xs:=by
 rcases h with h|⟨A,c,h1,h2⟩
 ·exact .inl h
 ·exact .inr ⟨A,c,h1,h2.keep hB hn⟩
theorem PplAt.keep(h:PplAt base W B d c p wl r mv s)(hB:Below n W W')(hn:W.heap.size<=n:=by first|exact Nat.le_refl _|omega):PplAt base W' B d c p wl r mv s:=by
 obtain⟨mc,mp,k1,k2,k3,k4,k5,k6⟩:=h.rows;obtain⟨m,k7,k8⟩:=h.wills;exact⟨h.nd,h.ge,h.dead.below hB hn,⟨mc,mp,k1.below hB hn,k2.below hB hn,fun x=>(k3 x).keep hB hn,fun x=>(k4 x).keep hB hn,k5,k6⟩,h.marr.keep hB hn,⟨m,k7.below hB hn,fun x=>(k8 x).keep hB hn⟩,h.ren.below hB hn⟩
theorem TombAt.keep{T:Nat}{g:Grave}(h:TombAt W base B T g)(hB:Below n W W')(hn:W.heap.size<=n:=by first|exact Nat.le_refl _|omega):TombAt W' base B T g:=by
 obtain⟨H,hc,D,dc,fr,h1,h2,h3,h4,h5,h6,h7⟩:=h;exact⟨H,hc,D,dc,fr,(hB.block T (Nat.lt_of_lt_of_le (zab h1) hn)).trans h1,h2,h3,h4,h5.keep hB hn,h6.keep hB hn,h7⟩
theorem TombsAt.keep{ps:List Nat}{gs:List Grave}(h:TombsAt base W B tv ps gs)(hB:Below n W W')(hn:W.heap.size<=n:=by first|exact Nat.le_refl _|omega):TombsAt base W' B tv ps gs:=
 ⟨h.own.keep hB hn,h.len,h.nd,fun i T g h1 h2=>(h.all i T g h1 h2).keep hB hn⟩
theorem WldC.keep{b:Nat}{la co:Int}(h:WldC W b d c p wl r mv tv la co)(hB:Below n W W')(hn:W.heap.size<=n:=by first|exact Nat.le_refl _|omega):WldC W' b d c p wl r mv tv la co:=
 (hB.block b (Nat.lt_of_lt_of_le (zab h) hn)).trans h
theorem WldAt.keep{b:Nat}{la co:Int}(h:WldAt base W b s la co)(hB:Below n W W')(hn:W.heap.size<=n:=by first|exact Nat.le_refl _|omega):WldAt base W' b s la co:=by
 obtain⟨B,d,c,p,wl,r,mv,tv,ps,h1,h2,h3,h4⟩:=h;exact⟨B,d,c,p,wl,r,mv,tv,ps,h1,h2.keep hB hn,h3.keep hB hn,h4.keep hB hn⟩
theorem PeoAt.keep{b:Nat}(h:PeoAt base W b s)(hB:Below n W W')(hn:W.heap.size<=n:=by first|exact Nat.le_refl _|omega):PeoAt base W' b s:=by
 obtain⟨B,d,c,p,wl,r,mv,tv,la,co,h1,h2⟩:=h;exact⟨B,d,c,p,wl,r,mv,tv,la,co,h1.keep hB hn,h2.keep hB hn⟩
theorem WldAt.peo{b:Nat}{la co:Int}(h:WldAt base W b s la co):PeoAt base W b s:=by
 obtain⟨B,d,c,p,wl,r,mv,tv,ps,h1,h2,h3,h4⟩:=h;exact⟨B,d,c,p,wl,r,mv,tv,la,co,h2,h3⟩
theorem WldAt.lt{b:Nat}{la co:Int}(h:WldAt base W b s la co):b<W.heap.size/\base<=b:=by
 obtain⟨B,d,c,p,wl,r,mv,tv,ps,h1,h2,h3,h4⟩:=h;exact⟨zab h2,h1⟩
end
theorem PplAt.kept{base:Nat}{W W':World}{B:List Nat}{d c p wl r g:Nat}{mv:Value}{s:St}{cs:Array Value}{t:TypeId}{fr:Nat×Nat}(h:PplAt base W B d c p wl r mv s)(hg:W.grownBy W' (some g))(hx:W.heap[g]?=some (.cells cs t fr))
 (h1:t≠9)(h2:t≠107)(h3:t≠71):PplAt base W' B d c p wl r mv s:=by
 obtain⟨mc,mp,k1,k2,k3,k4,k5,k6⟩:=h.rows;obtain⟨m,k7,k8⟩:=h.wills;have bi:∀ {m:List (ByteArray×Value)} {nm:ByteArray} {xs:List ByteArray},RowIs W base m nm xs->RowIs W' base m nm xs:=fun h=>by
  rcases h with h|⟨v,pw,IY⟩
  ·exact .inl h
  ·exact .inr ⟨v,pw,IY.kept hg hx h1⟩
 refine⟨h.nd,h.ge,h.dead.keptC hg hx,⟨mc,mp,k1.keptC hg hx,k2.keptC hg hx,fun x=>bi (k3 x),fun x=>bi (k4 x),k5,k6⟩,h.marr.kept hg hx h2,⟨m,k7.keptC hg hx,fun x=>?_⟩,h.ren.keptC hg hx⟩;rcases k8 x with h'|⟨A,c,e1,e2⟩
 ·exact .inl h'
 ·exact .inr ⟨A,c,e1,e2.kept hg hx h3⟩
end
open Go.Shelf
attribute [local go_sem] zan zac
theorem zhC(n:ByteArray):∀l:List ByteArray,(mget eqS n (l.map fun x=>(x,true))).getD false=l.any (zae n)
 | []=>rfl
 |x::l=>by
  rw[List.map_cons,mget,List.any_cons];show(if eqS n x=true then some true else _).getD false=_;have e:eqS n x=zae n x:=rfl;rw[e];cases h:zae n x
  ·simpa using zhC n l
  ·rfl
theorem zm6(k:ByteArray×ByteArray):∀l:List (ByteArray×ByteArray),(mget eqP k (l.map fun x=>(x,true))).getD false=l.any fun r=>zae r.1 k.1&&zae r.2 k.2
 | []=>rfl
 |x::l=>by
  rw[List.map_cons,mget,List.any_cons];have e1:∀a b:ByteArray,zae a b=zae b a:=fun a b=>by
   rw[Bool.eq_iff_iff,zau,zau];exact⟨Eq.symm,Eq.symm⟩
  have e:eqP k x=(zae x.1 k.1&&zae x.2 k.2):=by rw[e1 x.1,e1 x.2];rfl
  show(if eqP k x=true then some true else _).getD false=_;rw[e];cases h:(zae x.1 k.1&&zae x.2 k.2)
  ·simpa using zm6 k l
  ·rfl
theorem zdc{base:Nat}{W:World}{B:List Nat}{d c p wl r:Nat}{mv:Value}{s:St}(h:PplAt base W B d c p wl r mv s)(n:ByteArray):
 (Instr.lookup 84 (.map (some d)) (.string n) false).run Tryz.prog W=.ok (.bool (zaJ s n)) W:=by
 have:=zbk zli h.dead.at n;rw[zhC]at this;exact this
theorem znJ{base:Nat}{W:World}{B:List Nat}{d c p wl r:Nat}{mv:Value}{s:St}(h:PplAt base W B d c p wl r mv s)(a b:ByteArray):
 (Instr.lookup 87 (.map (some r)) (.agg #[.string a,.string b]) false).run Tryz.prog W=.ok (.bool (s.renounce.any fun x=>zae x.1 a&&zae x.2 b)) W:=by
 have:=zbk mapPB h.ren.at (a,b);rw[zm6]at this;exact this
theorem PplAt.drewN{base:Nat}{W:World}{B:List Nat}{d c p wl r:Nat}{mv:Value}{s:St}(h:PplAt base W B d c p wl r mv s)(q:Nat):PplAt base (W.drewN q) B d c p wl r mv s:=h.keep (n:=W.heap.size) ⟨rfl,rfl,rfl,Nat.le_refl _,fun _ _=>rfl⟩
theorem zlk(base b X:Nat)(s:St)(q:RPart)(w:World)(hW:PeoAt base w b s)(hX:X<w.heap.size)(hc:w.cell? ⟨X,0,none⟩=some (.pointer (some ⟨b,0,none⟩))):
 Calls Tryz.prog 175 #[.agg #[.string q.name,.int .i64 q.num,.int .i64 q.den],.pointer (some ⟨X,0,none⟩)] w (Ret w (.bool (zaJ s q.name))):=by
 obtain⟨B,d,c,p,wl,r,mv,tv,la,co,h1,h2⟩:=hW;have hb:=zab h1;unfold WldC at h1;have c0:w.cell? ⟨b,0,none⟩=some (.map (some d)):=Mev;have dV:∀o q',(Instr.lookup 84 (.map (some d)) (.string q.name) false).run Tryz.prog ((w.alloc o).drewN q')=.ok (.bool (zaJ s q.name)) ((w.alloc o).drewN q'):=fun o q'=>zdc ((h2.keep (n:=w.heap.size) (zad (Below.refl _ _) o)).drewN q') _
 have hXn:X≠w.heap.size:=Mcy;have gU:b≠w.heap.size:=Mcy;clear h1 h2;go_enter Tryz.func175,Tryz.ntmps175
 go_wp2_with fail
 go_quiet (fail)
 exact Man
theorem zkp(base b X:Nat)(s:St)(xs:List RPart)(w:World)(hW:PeoAt base w b s)(hX:X<w.heap.size)(hc:w.cell? ⟨X,0,none⟩=some (.pointer (some ⟨b,0,none⟩))):
 zeT 175 #[.pointer (some ⟨X,0,none⟩)] (fun x=> .agg (RPart.cells x).toArray) (fun q=>zaJ s q.name) xs w:=fun x _ W hB=>by
 refine(zlk base b X s x W (hW.keep hB) (Nat.lt_of_lt_of_le hX hB.size) ((hB.cell (p:=⟨X,0,none⟩) hX).trans hc)).mono ?_;rintro e wq ⟨rfl,z,rfl⟩;exact⟨rfl,hB.trans ((zaq W z).mono hB.size)⟩
theorem zis(base b:Nat)(s:St)(xs:List RPart)(A:Option Addr)(n c:Nat)(w:World)(hn:n=xs.length)(hl:xs.length<=100000)(hW:PeoAt base w b s)(hS:Sl w 3 RPart.cells A xs):
 Calls Tryz.prog 150 #[.pointer (some ⟨b,0,none⟩),.slice A n c] w (Ret w (.bool (zdU s xs))):=by
 have eg:∀args w,(callFunc 175 args).run Tryz.prog w=.ok (.enter 175 args) w:=enters_of Tryz.func175 Mcz rfl;obtain⟨HS,HW,HN⟩:=yH3 hS hW hn;clear hS hW hn;go_enter Tryz.func150,Tryz.ntmps150
 go_wp2_with (go_at_call 74
              refine(zcQ _ _ eg (fun q=>zaJ s q.name) _ n _ xs _ HN.o hl (HS.o.keep (n:=w.heap.size) Bw) (zkp base b _ s xs _ (HW.o.keep (n:=w.heap.size) Bw) McB Mc3)).mono ?_
              rintro e wq ⟨rfl,z,rfl⟩)
 go_ret
 exact Ret.of rfl Bw
theorem zll(xs:List ByteArray)(x:ByteArray)(A:Option Addr)(n c:Nat)(w:World)(hn:n=xs.length)(hl:xs.length<=100000)(hS:Sl w 1 sC A xs):
 Calls Tryz.prog 52 #[.slice A n c,.string x] w (Ret0 w (.bool (xs.any (zae x)))):=by
 subst hn;by_cases h0:xs.length=0
 ·have hx:xs=[]:=List.eq_nil_of_length_eq_zero h0;subst hx;have aZ:=AnyE.slices_Contains_empty coStr A c (.string x) w;change Calls Tryz.prog 52 _ _ _ at aZ;exact Mbk
 ·obtain⟨b,off,rfl,hb,hc⟩:=hS Mcy;haveI:Inhabited ByteArray:=⟨⟨#[]⟩⟩
  have aZ:=AnyE.slices_Contains coStr Value.string (fun a b:ByteArray=>a.toList==b.toList) (EqlAt.string _ _) b off xs.length c xs x w (Nat.le_refl _) Mcy (fun j hj=>by
   rw[getElem!_pos xs j hj];have:=hc j _ (List.getElem?_eq_getElem hj) 0 _ rfl
   simpa using this)
  rw[List.take_of_length_le (Nat.le_refl _)]at aZ;change Calls Tryz.prog 52 _ _ _ at aZ;exact Mbk
theorem eqlPair:EqlAt Tryz.prog 107 (fun x:ByteArray×ByteArray=> .agg (zaT x).toArray) eqP:=by
 refine⟨fun x y w=>?_,GuardAt.agg _ Mcz⟩;show(binOp .eql 107 (.agg #[.string x.1,.string x.2]) (.agg #[.string y.1,.string y.2])).run Tryz.prog w=_;rw[run_eql_struct,zlj 9998 x.1 x.2 y.1 y.2 w];rfl
theorem ixPairNil(A:Option Addr)(c:Nat)(a b:ByteArray)(w:World):Calls Tryz.prog 111 #[.slice A 0 c,.agg #[.string a,.string b]] w (Ret w (.int .i64 (-1))):=by
 go_enter Tryz.func111,Tryz.ntmps111
 go_wp2_with fail
 go_loopw [5,8] (fun _ i wr=>i=.int .i64 0/\∃z,wr=w.ext z) (fun _ _ _=>0)
 case atStart=>exact⟨rfl,zaY Bw⟩
 case round=>
  obtain⟨rfl,z,rfl⟩:=hrel;exact Man
theorem coPairNil(A:Option Addr)(c:Nat)(a b:ByteArray)(w:World):Calls Tryz.prog 76 #[.slice A 0 c,.agg #[.string a,.string b]] w (Ret w (.bool false)):=by
 go_enter Tryz.func76,Tryz.ntmps76
 go_wp2_with (go_at_call 111;refine(ixPairNil _ _ _ _ _).mono ?_;rintro e wq ⟨rfl,z,rfl⟩)
 go_ret
 exact Ret.of rfl Bw
theorem zo3(xs:List (ByteArray×ByteArray))(a b:ByteArray)(A:Option Addr)(n c:Nat)(w:World)(hn:n=xs.length)(hl:xs.length<=100000)(hS:Sl w 2 zaT A xs):
 Calls Tryz.prog 76 #[.slice A n c,.agg #[.string a,.string b]] w (Ret w (.bool (xs.any fun y=>eqP (a,b) y))):=by
 subst hn;by_cases h0:xs.length=0
 ·have hx:xs=[]:=List.eq_nil_of_length_eq_zero h0;subst hx;refine(coPairNil _ _ _ _ _).mono ?_;rintro e wq ⟨rfl,z,rfl⟩;exact Ret.of rfl Bw
 ·obtain⟨b',off,rfl,hb,hc⟩:=hS Mcy;haveI:Inhabited (ByteArray×ByteArray):=⟨(⟨#[]⟩,⟨#[]⟩)⟩
  have aZ:=AnyQ.slices_Contains coPair 2 Tryz.isAgg107 Tryz.sizeOf107 zaT (fun _=>rfl) eqP eqlPair b' off xs.length c xs (a,b) w (Nat.le_refl _) Mcy (fun j hj i v hi=>by
   rw[getElem!_pos xs j hj]at hi
   exact hc j _ (List.getElem?_eq_getElem hj) i v hi)
  rw[List.take_of_length_le (Nat.le_refl _)]at aZ;change Calls Tryz.prog 76 _ _ _ at aZ;exact Mbi
def zhD(s:St)(a b:ByteArray):Bool:=s.marriages.any (fun y=>eqP (a,b) y)||s.marriages.any fun y=>eqP (b,a) y
theorem zit(base b:Nat)(s:St)(x y:ByteArray)(w:World)(hW:PeoAt base w b s)(hl:s.marriages.length<=100000):
 Calls Tryz.prog 50 #[.pointer (some ⟨b,0,none⟩),.string x,.string y] w (Ret w (.bool (zhD s x y))):=by
 obtain⟨B,d,c,p,wl,r,mv,tv,la,co,h1,h2⟩:=hW;obtain⟨A,cc,rfl,hS,hc⟩:=h2.marr.sl zbj;have hb:=zab h1;unfold WldC at h1;have c3:w.cell? ⟨b,3,none⟩=some (.slice A s.marriages.length cc):=Mev;have HS:=zHi hS;clear h1 h2 hS;go_enter Tryz.func50,Tryz.ntmps50
 go_wp2_with (go_at_call 76;refine(zo3 s.marriages _ _ A _ cc _ rfl hl (HS.o.keep (n:=w.heap.size) Bw)).mono ?_;intro e wq hq;rcases Ret.bools hq with⟨zq,rfl,⟨hb,rfl⟩|⟨hb,rfl⟩⟩<;>clear hq)
 all_goals go_ret
 all_goals exact Ret.of (zaO (by simp[zhD, *])) Bw
