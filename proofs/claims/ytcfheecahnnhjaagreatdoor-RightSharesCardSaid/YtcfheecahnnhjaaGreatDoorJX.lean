import Derived.Test.YtcfheecahnnhjaaGreatDoorJ7
import Derived.Test.YtcfheecahnnhjaaGreatDoorO0
import Derived.Shelf.Spec.SlicesInsertGrow
set_option linter.all false
set_option maxRecDepth 100000
set_option maxHeartbeats 4000000
namespace Go.Proofs.YtcfheecahnnhjaaGreatDoor
open Go.RowKit
attribute [local go_sem] World.cell?_alloc_mark zag za4 zar zaB zaw zax zay zaz za0 za1 za2
section
open Go.Shelf
attribute [local go_sem] zas zad
theorem zlk(a b:ByteArray)(w:World):Calls Tryz.prog 83 #[.string a,.string b] w (Ret0 w (.int .i64 (cmpN a b))):=by
 have b9:=Any.strings_Compare cmpStr a b w;change Calls Tryz.prog 83 _ _ _ at b9;exact Mbi
theorem zm6(p:ByteArray×Rat)(s:ByteArray)(w:World):Calls Tryz.prog 82 #[.agg #[.string p.1,.int .i64 p.2.num,.int .i64 p.2.den],.string s] w (Ret w (.int .i64 (cmpN p.1 s))):=by
 have hc:=fun W=>zlk p.1 s W
 generalize cmpN p.1 s=r at hc⊢;go_enter Tryz.func82,Tryz.ntmps82
 go_wp2_with (go_at_call 83;refine(hc _).mono ?_;rintro e wq ⟨rfl,rfl⟩)
 go_ret
 exact Ret.of rfl Bw
def znI(w:World)(xs:Parts)(nm:ByteArray)(e:Ending)(w':World):Prop:=
 ∃P Q,xs=P++Q/\(∀p∈P,zbb p.1 nm=true)/\(∀p∈Q,zbb p.1 nm=false)/\Ret w (.tuple #[.int .i64 P.length,.bool (zdU Q nm)]) e w'
theorem bsf_any(xs:Parts)(A:Option Addr)(n c:Nat)(nm:ByteArray)(w:World)(hn:n=xs.length)(hl:xs.length<=100000)(hA:AscP xs)(hS:Sl w 3 zaa A xs):
 Calls Tryz.prog 81 #[.slice A n c,.string nm,.func (.func 82) #[] #[]] w (znI w xs nm):=by
 subst hn;have eg:∀args w,(callFunc 82 args).run Tryz.prog w=.ok (.enter 82 args) w:=enters_of Tryz.func82 Mcv rfl;obtain⟨HA,HC⟩:=yH2 hA (fun(p:ByteArray×Rat) W=>zm6 p nm W);go_enter Tryz.func81,Tryz.ntmps81
 go_wp2_with fail
 go_loopw [9,10] (fun i j wr=>∃lo hi:Nat,i=.int .i64 lo/\j=.int .i64 hi/\lo<=hi/\hi<=xs.length/\Hid (∀t (ht:t<xs.length),t<lo->zbb xs[t].1 nm=true)/\Hid (∀t (ht:t<xs.length),hi<=t->zbb xs[t].1 nm=false)/\∃z,wr=w.ext z) (fun i j _=>(intOf j).toNat-(intOf i).toNat)
 case atStart=>exact⟨0,xs.length,rfl,rfl,Nat.zero_le _,Nat.le_refl _,fun t ht h=>absurd h (Nat.not_lt_zero _),fun t ht h=>by omega,zaZ (Below.refl _ _)⟩
 case round=>
  obtain⟨lo,hi,rfl,rfl,h1,h2,H3,H4,z,rfl⟩:=hrel;by_cases ae:lo<hi
  ·have hm:(lo+hi)/2<xs.length:=Mcu;obtain⟨b,off,rfl,hb,hc⟩:=(hS.keep (zao w z)).at hm;obtain⟨HX,HY⟩:=yH2 (fun t (ht:t<xs.length) (h:t<(lo+hi)/2)=>List.pairwise_iff_getElem.1 hA t _ ht hm h) (fun t (ht:t<xs.length) (h:(lo+hi)/2<t)=>List.pairwise_iff_getElem.1 hA _ t hm ht h);generalize hp:xs[(lo+hi)/2]=p at*;obtain⟨pn,pq⟩:=p;have hr:decide (cmpN pn nm<0)=zbb pn nm:=znD _ _;have bJ:=HC.o (pn,pq);simp only at bJ;generalize cmpN pn nm=r at hr bJ;have c0:(w.ext z).cell? ⟨b,off+(lo+hi)/2*3,none⟩=some (.string pn):=hc 0 _ rfl;have c1:(w.ext z).cell? ⟨b,off+(lo+hi)/2*3+1,none⟩=some (.int .i64 pq.num):=hc 1 _ rfl;have c2:(w.ext z).cell? ⟨b,off+(lo+hi)/2*3+2,none⟩=some (.int .i64 pq.den):=hc 2 _ rfl;obtain⟨HP,HR⟩:=yH2 hp hr;clear hp hr hc hS hA;by_cases qd:r<0
   ·go_wp2_with (go_at_fn 82;refine(bJ _).mono ?_;rintro e wq ⟨rfl,zq,rfl⟩)
    go_round
    case rel=>
     have bP:zbb pn nm=true:=by rw[<-HR.o];simpa using qd
     refine⟨(lo+hi)/2+1,hi,by go_num,rfl,by omega,h2,(show Hid _ from fun t ht h=>?_),H4,zaZ Bw⟩;by_cases e:t=(lo+hi)/2
     ·subst e;rw[HP.o];exact bP
     ·have:=HX.o t ht Mcu;exact zb6 this bP
    case measure=>simp[intOf];omega
   ·go_wp2_with (go_at_fn 82;refine(bJ _).mono ?_;rintro e wq ⟨rfl,zq,rfl⟩)
    go_round
    case rel=>
     have bP:zbb pn nm=false:=by rw[<-HR.o];simpa using qd
     refine⟨lo,(lo+hi)/2,rfl,by go_num,by omega,by omega,H3,(show Hid _ from fun t ht h=>?_),zaZ Bw⟩;by_cases e:t=(lo+hi)/2
     ·subst e;rw[HP.o];exact bP
     ·have:=HY.o t ht Mcu;exact less_up this bP
    case measure=>simp[intOf];omega
  ·have he:hi=lo:=Mcu;subst he;have HP:Hid (∀p∈xs.take hi,zbb p.1 nm=true):=fun p hp=>by
    obtain⟨t,ht,rfl⟩:=List.getElem_of_mem hp;rw[List.getElem_take];have:t<hi:=by rw[List.length_take]at ht;omega
    exact H3.o t Mcu this
   have HQ:Hid (∀p∈xs.drop hi,zbb p.1 nm=false):=fun p hp=>by
    obtain⟨t,ht,rfl⟩:=List.getElem_of_mem hp;rw[List.getElem_drop];exact H4.o (hi+t) (by rw[List.length_drop]at ht;omega) Mcu
   have HL:Hid ((xs.take hi).length=hi):=by show _=_;rw[List.length_take];omega
   by_cases bu:hi<xs.length
   ·obtain⟨b,off,rfl,hb,hc⟩:=(hS.keep (zao w z)).at bu;have hd:xs.drop hi=xs[hi]::xs.drop (hi+1):=List.drop_eq_getElem_cons bu;generalize hp:xs[hi]=p at*;obtain⟨pn,pq⟩:=p;have hr:(cmpN pn nm==0)=zae pn nm:=cmpN_zero _ _;have bJ:=HC.o (pn,pq);simp only at bJ;generalize cmpN pn nm=r at hr bJ;have c0:(w.ext z).cell? ⟨b,off+hi*3,none⟩=some (.string pn):=hc 0 _ rfl;have c1:(w.ext z).cell? ⟨b,off+hi*3+1,none⟩=some (.int .i64 pq.num):=hc 1 _ rfl;have c2:(w.ext z).cell? ⟨b,off+hi*3+2,none⟩=some (.int .i64 pq.den):=hc 2 _ rfl;obtain⟨HR,HD⟩:=yH2 hr hd;clear hp hr hc hS hA hd;go_wp2_with (go_at_fn 82;refine(bJ _).mono ?_;rintro e wq ⟨rfl,zq,rfl⟩)
    all_goals go_ret2
    all_goals exact⟨xs.take hi,xs.drop hi,(List.take_append_drop _ _).symm,HP.o,HQ.o,Ret.of (by rw[HL.o,HD.o];simp[zdU,<-HR.o, *]) Bw⟩
   ·go_wp2_with fail
    all_goals go_ret2
    all_goals exact⟨xs.take hi,xs.drop hi,(List.take_append_drop _ _).symm,HP.o,HQ.o,Ret.of (by rw[HL.o,List.drop_eq_nil_of_le Mcu];simp[zdU]) Bw⟩
def zbw(W:World)(T:Nat)(pl:ByteArray)(cl fr en:Int)(v dv:Value):Prop:=W.heap[T]?=some (.cells #[.string pl,.int .i64 cl,.int .i64 fr,.int .i64 en,v,dv] 88)
theorem znJ(xs:Parts)(A:Option Addr)(c T:Nat)(nm:ByteArray)(w:World)(ki:w.cell? ⟨T,4,none⟩=some (.slice A xs.length c))(hl:xs.length<=100000)(hA:AscP xs)(hS:Sl w 3 zaa A xs):
 Calls Tryz.prog 53 #[.pointer (some ⟨T,0,none⟩),.string nm] w (znI w xs nm):=by
 have HB:=bsf_any xs A _ c nm w rfl hl hA hS;go_enter Tryz.func53,Tryz.ntmps53
 go_wp2_with (go_at_call 81;refine HB.mono ?_;rintro e wq ⟨P,Q,bn,hP,hQ,rfl,z,rfl⟩)
 go_ret2
 exact⟨P,Q,bn,hP,hQ,Ret.of rfl Bw⟩
theorem shareQ{P Q:Parts}{nm:ByteArray}(hP:∀p∈P,zbb p.1 nm=true)(hQ:∀p∈Q,zbb p.1 nm=false)(hA:AscP (P++Q)):zaf (P++Q) nm=if zdU Q nm then(Q.headD (⟨#[]⟩,0)).2 else 0:=by
 rw[zfO hP];cases hh:zdU Q nm
 ·exact znE hQ (zhD hA) hh
 ·cases Q with
  |nil=>cases hh
  |cons q Q=>
   have hs:zae q.1 nm=true:=hh;rw[zbu,hs];rfl
theorem zdz(xs:Parts)(A:Option Addr)(c T:Nat)(nm:ByteArray)(w:World)(ki:w.cell? ⟨T,4,none⟩=some (.slice A xs.length c))(hT:T<w.heap.size)(hl:xs.length<=100000)(hA:AscP xs)(hS:Sl w 3 zaa A xs):
 Calls Tryz.prog 25 #[.pointer (some ⟨T,0,none⟩),.string nm] w (Ret w (zaA (zaf xs nm))):=by
 have HF:=fun W h1 h2=>znJ xs A c T nm W h1 hl hA h2
 obtain⟨HS,HA⟩:=yH2 hS hA;clear hS hA;have ai:T≠w.heap.size:=Mcu;go_enter Tryz.func25,Tryz.ntmps25
 go_upto_region 2 with(go_at_call 53;refine(HF _ (by simp[go_sem,hT,ki]) (HS.o.keep (n:=w.heap.size) Bw)).mono ?_;rintro e wq ⟨P,Q,bn,hP,hQ,rfl,z,rfl⟩;subst bn)
 have hv:=shareQ hP hQ HA.o;have HV:=zHi hv;clear hv hP hQ;cases Q with
 |nil=>
  go_wp2_with fail
  refine bodyPost_ret (v:=zaA (zaf (P++[]) nm)) ?_ rfl ?_
  ·rw[HV.o];refine zaS rfl _ _ w.heap.size _ _ rfl ?_ ?_<;>simp[go_sem,zdU]
  ·exact Ret.of rfl Bw
 |cons q Q=>
  obtain⟨qn,qr⟩:=q;have ae:P.length<(P++(qn,qr)::Q).length:=Mcx;obtain⟨b,off,rfl,hb,hc⟩:=HS.o.at ae;rw[List.getElem_append_right (Nat.le_refl _)]at hc;simp only[Nat.sub_self,List.getElem_cons_zero]at hc;have k1:w.cell? ⟨b,off+P.length*3+1,none⟩=some (.int .i64 qr.num):=hc 1 _ rfl;have k2:w.cell? ⟨b,off+P.length*3+1+1,none⟩=some (.int .i64 qr.den):=hc 2 _ rfl;have bu:(P.length:Int)<((P++(qn,qr)::Q).length:Int):=Mcu;have L1:(0:Int)<=(P.length:Int):=Mcu;have HL:=zHi ae;clear hc ae;generalize hh:zdU ((qn,qr)::Q) nm=q at*;have J7:=zHi (HV.o.trans (by rfl:_=if q then qr else 0));cases q
  ·exact May
  ·exact May
theorem zfQ(g:Grave)(A:Option Addr)(c T:Nat)(day:Int)(w:World)(h3:w.cell? ⟨T,3,none⟩=some (.int .i64 g.fin))(h4:w.cell? ⟨T,4,none⟩=some (.slice A g.holders.length c)):
 Calls Tryz.prog 27 #[.pointer (some ⟨T,0,none⟩),.int .i64 day] w (Ret w (.bool (zaR g day))):=by
 obtain⟨pl,cl,fin,hs,di⟩:=g;simp only at*;go_enter Tryz.func27,Tryz.ntmps27
 go_wp2_with fail
 all_goals go_ret
 all_goals(refine Ret.of (zaP ?_) Bw;cases hs<;>simp_all[zaR]<;>omega)
theorem zgm{P:Program}(w:World)(dT sT ty elem:TypeId)(size b o dLen dCap:Nat)(a:Addr)(sLen sCap n:Nat)(cs:List Value)
 (hu:P.underlying dT=some (.slice elem))(hs:(P.info? elem).map (·.size)=some size)(hn:Nat.min sLen dLen=n)(hl:cs.length=n*size)
 (E0:∀j v,cs[j]?=some v->w.cell? (a.add j)=some v)(hc:∀j,j<cs.length->(w.cell? ⟨b,o+j,none⟩).isSome=true)(hf:∀j,j<cs.length->w.frozen? ⟨b,o+j,none⟩=false)(h1:∀v∈cs,v.oneCell'=true):
 (Builtin.copy_ #[dT,sT] ty #[.slice (some ⟨b,o,none⟩) dLen dCap,.slice (some a) sLen sCap]).run P w=.ok (goInt n) (w.setCells b o cs):=by
 have Ku:=run_firstCells_some (P:=P) w size n a sLen sCap cs hl E0;have ao:=run_storeCells_cells (P:=P) b o cs 0 w MdY (by simpa using hf) h1;cases hq:P.info? elem with
 |none=>simp[hq]at hs
 |some i=>
  have hi:i.size=size:=by simpa[hq]using hs
  simp[Builtin.copy_,run_underlying hu,Builtin.lenOf,sizeOf,typeInfo,hq,hi,hn,Ku,ao]
theorem zbP(g:Nat){e:TypeId}:∀(vs:List Value) (o:Nat) (w:World) (cur:Array Value),w.heap[g]?=some (.cells cur e (0,0))->o+vs.length<=cur.size->
 ∃cur',(w.setCells g o vs).heap[g]?=some (.cells cur' e (0,0))/\cur'.size=cur.size/\(∀j,j<o\/o+vs.length<=j->cur'[j]?=cur[j]?)/\∀j u,vs[j]?=some u->cur'[o+j]?=some u
 | [],o,w,cur,hg,_=>⟨cur,hg,rfl,fun _ _=>rfl,fun j u h=>by simp at h⟩
 |v::r,o,w,cur,hg,hl=>by
  obtain⟨cur',h1,h2,h3,h4⟩:=zbP g r (o+1) (w.setCell ⟨g,o,none⟩ v) (cur.setIfInBounds o v) (heap_setCell_same w g o cur e v hg) (by simp at hl⊢;omega);refine⟨cur',h1,by simpa using h2,fun j hj=>?_,fun j u hu=>?_⟩
  ·rw[h3 j (by simp at hj;omega),Array.getElem?_setIfInBounds_ne (by simp at hj;omega)]
  ·cases j with
   |zero=>
    simp only[List.getElem?_cons_zero,Option.some.injEq]at hu;subst hu;rw[Nat.add_zero,h3 o Mcu];exact Array.getElem?_setIfInBounds_self_of_lt (by simp at hl;omega)
   |succ j=>
    have:=h4 j u (by simpa using hu);rw[show o+(j+1)=o+1+j by omega];exact this
theorem zam(p:ByteArray×Rat):(zaa p).length=3:=rfl
theorem zcg(p:ByteArray×Rat):∀u∈zaa p,u.oneCell'=true:=by simp[zaa,Value.oneCell']
theorem zit(l:Parts):∀u∈l.flatMap zaa,u.oneCell'=true:=fun u hu=>by
 obtain⟨x,_,hx⟩:=List.mem_flatMap.1 hu;exact zcg x u hx
theorem zew(l:Parts):(l.flatMap zaa).length=l.length*3:=zgc zaa 3 zam l
theorem zdV:ElTy Tryz.prog 48 64 3 32:=zdA (z:=.agg #[.string ⟨#[]⟩,.int .i64 0,.int .i64 0]) Mcv Mcv rfl Mcw
theorem ins_get{xs:Parts}{p:ByteArray×Rat}{i:Nat}(hi:i<=xs.length){cur:Nat->Option Value}(h0:∀j u,j<i*3->(xs.flatMap zaa)[j]?=some u->cur j=some u)(h1:∀j u,(zaa p)[j]?=some u->cur (i*3+j)=some u)
 (h2:∀j u,((xs.drop i).flatMap zaa)[j]?=some u->cur ((i+1)*3+j)=some u):∀j u,((xs.take i++p::xs.drop i).flatMap zaa)[j]?=some u->cur j=some u:=fun j u hj=>by
 have hl:((xs.take i).flatMap zaa).length=i*3:=Mda;rw[List.flatMap_append,List.flatMap_cons]at hj;by_cases hj1:j<i*3
 ·rw[List.getElem?_append_left Mcu]at hj;refine h0 j u hj1 ?_;exact MaE
 ·rw[List.getElem?_append_right Mcu,hl]at hj;by_cases Gi:j-i*3<3
  ·rw[List.getElem?_append_left (by rw[zam];exact Gi)]at hj;have:=h1 _ u hj;rwa [show i*3+(j-i*3)=j by omega]at this
  ·rw[List.getElem?_append_right Meb,zam]at hj;have:=h2 _ u hj;rwa [show(i+1)*3+(j-i*3-3)=j by omega]at this
def zff(w:World)(base:Nat)(v:Value)(ys:Parts)(e:Ending)(w':World):Prop:=
 ∃v',e=.returned v'/\OwnS w' base 64 3 zaa v' ys/\w.grownBy w' (za5 v)/\∀g,za5 v'=some g->za5 v=some g\/w.heap.size<=g
theorem zm7{w:World}{vb:Nat}{p:ByteArray×Rat}{t:TypeId}{fr:Nat×Nat}(h:w.heap[vb]?=some (.cells #[.string p.1,.int .i64 p.2.num,.int .i64 p.2.den] t fr)):∀j v,(zaa p)[j]?=some v->w.cell? ⟨vb,j,none⟩=some v:=fun j v hj=>by
 match j,hj with
 |0,hj=>simp[zaa]at hj;simp[World.cell?,h,<-hj]
 |1,hj=>simp[zaa]at hj;simp[World.cell?,h,<-hj]
 |2,hj=>simp[zaa]at hj;simp[World.cell?,h,<-hj]
 |j+3,hj=>simp[zaa]at hj
theorem zo0(base:Nat)(xs:Parts)(p:ByteArray×Rat)(vb:Nat)(w:World)(hl:xs.length<=100000)(dH:w.heap[vb]?=some (.cells #[.string p.1,.int .i64 p.2.num,.int .i64 p.2.den] 64))(aN:base<=w.heap.size)(v:Value)(aa:OwnS w base 64 3 zaa v xs):
 Calls Tryz.prog 172 #[v,.int .i64 xs.length,.slice (some ⟨vb,0,none⟩) 1 1] w (zff w base v (xs++[p])):=by
 have hS:Sl w 3 zaa (some ⟨vb,0,none⟩) [p]:=fun _=>⟨vb,0,rfl,zab dH,fun k x hx j u hu=>by
  have hk:k=0:=by have:=(List.getElem?_eq_some_iff.1 hx).1;simp at this;omega
  subst hk;simp only[List.getElem?_cons_zero,Option.some.injEq]at hx;subst hx;have:=zm7 dH j u hu
  simpa using this⟩
 obtain⟨HO,HS⟩:=yH2 aa hS;obtain⟨A,c,rfl,_,hc⟩:=aa.sl zam;have cD:(xs.length:Int)<=(c:Int):=Mcu;clear hS;have hA:A=none\/∃g o,A=some ⟨g,o,none⟩:=by
  rcases aa with⟨h,_⟩|⟨g,o,cap,cur,h,_⟩
  ·simp only[Value.slice.injEq]at h;exact .inl h.1
  ·simp only[Value.slice.injEq]at h;exact .inr ⟨g,o,h.1⟩
 clear aa;go_enter Tryz.func172,Tryz.ntmps172
 rcases hA with rfl|⟨g,o,rfl⟩
 ·exact Maj
 ·exact Maj
theorem zm8(base:Nat)(xs:Parts)(p:ByteArray×Rat)(vb:Nat)(w:World)(hl:xs.length<=100000)(dH:w.heap[vb]?=some (.cells #[.string p.1,.int .i64 p.2.num,.int .i64 p.2.den] 64))(aN:base<=w.heap.size)(g o c:Nat)(cur:Array Value)(jh:base<=g)(hg:w.heap[g]?=some (.cells cur 64 (0,0)))(yN:xs.length+1<=c)(iK:c<=maxLen)(bh:o+c*3<=cur.size)(hx:∀j u,(xs.flatMap zaa)[j]?=some u->cur[o+j]?=some u)
 (i:Nat)(hi:i<xs.length)(ai:vb≠g):
 Calls Tryz.prog 172 #[.slice (some ⟨g,o,none⟩) xs.length c,.int .i64 i,.slice (some ⟨vb,0,none⟩) 1 1] w (zff w base (.slice (some ⟨g,o,none⟩) xs.length c) (xs.take i++p::xs.drop i)):=by
 have mixed:Tryz.prog.follows .mixedOrders=true:=Mcv;have Kk:(c:Int)<=9223372036854775807:=by unfold maxLen at iK;omega
 have DS:(xs.length:Int)+1<=(c:Int):=Mcu;have DT:¬((c:Int)<(xs.length:Int)+1):=Mcu;have lm:IntKind.i64.wrap ((xs.length:Int)+1)=(xs.length:Int)+1:=Mdc;have iH:¬((i:Int)=(xs.length:Int)):=Mcu;have jy:IntKind.i64.wrap ((i:Int)+1)=(i:Int)+1:=Mdc;have aR:(0:Int)<=(i:Int)+1:=Mcu;have ba:(0:Int)<=(i:Int):=Mcu;have fM:((i:Int)+1).toNat=i+1:=Mcu;have bs:¬(c=i+1):=Mcu;have aB:¬(c=i):=Mcu;have ay:(i:Int)<=(xs.length:Int)+1:=Mcu;have aq:(i:Int)<=(xs.length:Int):=Mcu;have Lc:∀lb cb,(callFunc 190 #[.slice (some ⟨vb,0,none⟩) 1 1,.slice (some ⟨g,o+(i+1)*3,none⟩) lb cb]).run Tryz.prog w=.ok (.value (.bool false)) w:=fun lb cb=>by
  rw[run_callFunc_extern Tryz.func190 Mcv Mcv Mcv (e:=Extern.SlicesOverlaps.overlaps #[48,48] #[4]) Mcv,
   Lib.run_overlaps_apart w 48 4 64 Tryz.underlying48 3 Tryz.sizeOf64 ⟨vb,0,none⟩ ⟨g,o+(i+1)*3,none⟩ 1 1 lb cb ai 64 64 3 cur.size (by simp[World.shape?,dH]) (by simp[World.shape?,hg]) Mcu (by simp[World.frozen?,dH]) (by simp[World.frozen?,dH])]
  rfl
 obtain⟨i0,z,eX,AL,fe,AM,uI⟩:=zdV.hi;have hsz:(Tryz.prog.info? 64).map (·.size)=some 3:=by rw[eX];simp[fe]
 have bx:((xs.drop i).flatMap zaa).length=(xs.length-i)*3:=Mee;have bm:∀j,j<c*3->(w.cell? ⟨g,o+j,none⟩).isSome=true:=fun j hj=>by simp[World.cell?,hg];omega
 have xn:∀ty dc sc,(Builtin.copy_ #[48,48] ty #[.slice (some ⟨g,o+(i+1)*3,none⟩) (xs.length+1-(i+1)) dc,.slice (some ⟨g,o+i*3,none⟩) (xs.length+1-i) sc]).run Tryz.prog w.drew=.ok (goInt (xs.length-i:Nat)) (w.drew.setCells g (o+(i+1)*3) ((xs.drop i).flatMap zaa)):=fun ty dc sc=>
  zgm w.drew _ _ ty 64 3 g (o+(i+1)*3) _ dc ⟨g,o+i*3,none⟩ _ sc (xs.length-i) _ Tryz.underlying48 hsz Mdw bx
   (fun j v hj=>by
     rw[Addr.add_lit];have e:(xs.flatMap zaa)[i*3+j]?=some v:=by
      have e2:xs.flatMap zaa=(xs.take i).flatMap zaa++(xs.drop i).flatMap zaa:=Mdh;have e3:((xs.take i).flatMap zaa).length=i*3:=Mda;rw[e2,List.getElem?_append_right Mcu,e3,Nat.add_sub_cancel_left];exact hj
     have:=hx _ _ e;show w.cell? _=_;simp only[World.cell?,hg,Nat.add_assoc]
     exact this)
   (fun j hj=>by rw[bx]at hj;show(w.cell? _).isSome=_;rw[Nat.add_assoc];exact bm _ Mcu) (fun j hj=>by show w.frozen? _=_;simp[World.frozen?,hg]) (zit _)
 obtain⟨cur1,k1,k2,k3,k4⟩:=zbP g ((xs.drop i).flatMap zaa) (o+(i+1)*3) w.drew cur hg (by rw[bx];omega);have bO:=zbM g ((xs.drop i).flatMap zaa) (o+(i+1)*3) w.drew;obtain⟨W1,aV⟩:∃W1,W1=w.drew.setCells g (o+(i+1)*3) ((xs.drop i).flatMap zaa):=⟨_,rfl⟩
 rw[<-aV]at xn k1 bO;have zg:W1.heap[vb]?=some (.cells #[.string p.1,.int .i64 p.2.num,.int .i64 p.2.den] 64):=(bO.block vb (zab dH) (by simp[ai])).trans dH;have CZ:∀(W:World),W.heap=W1.heap->∀ty dc,(Builtin.copy_ #[48,48] ty #[.slice (some ⟨g,o+i*3,none⟩) (xs.length+1-i) dc,.slice (some ⟨vb,0,none⟩) 1 1]).run Tryz.prog W=.ok (goInt (1:Nat)) (W.setCells g (o+i*3) (zaa p)):=fun W mi ty dc=>
  zgm W _ _ ty 64 3 g (o+i*3) _ dc ⟨vb,0,none⟩ 1 1 1 _ Tryz.underlying48 hsz Mdw (by rw[zam])
   (fun j v hj=>by rw[Addr.add_lit,Nat.zero_add];exact zm7 (by rw[mi];exact zg) j v hj)
   (fun j hj=>by rw[zam]at hj;simp[World.cell?,mi,k1,k2];omega) (fun j hj=>by simp[World.frozen?,mi,k1]) (zcg p)
 have HF:Hid (∀W:World,W.heap=W1.heap->W.os=W1.os->W.tape=W1.tape->W.output=W1.output->zff w base (.slice (some ⟨g,o,none⟩) xs.length c) (xs.take i++p::xs.drop i) (.returned (.slice (some ⟨g,o,none⟩) (xs.length+1) c)) (W.setCells g (o+i*3) (zaa p))):=by
  intro W h1 h2 h3 h4;have th:w.grownBy W (some g):=⟨h2.trans bO.os,h3.trans bO.tape,h4.trans bO.output,by rw[h1];exact bO.size,fun k hk hn=>by rw[h1];exact bO.block k hk hn⟩
  obtain⟨cur2,l1,l2,l3,l4⟩:=zbP g (zaa p) (o+i*3) W cur1 (by rw[h1];exact k1) (by rw[zam,k2];omega);have ag:(xs.take i++p::xs.drop i).length=xs.length+1:=Mcz;refine⟨_,rfl,.inr ⟨g,o,c,cur2,by rw[ag],jh,l1,by rw[ag];exact yN,iK,by rw[l2,k2];exact bh,?_⟩,zbq th (zbM _ _ _ _),fun g' h=> .inl h⟩;refine ins_get (cur:=fun j=>cur2[o+j]?) Mcu (fun j u hj hu=>?_) (fun j u hu=>?_) (fun j u hu=>?_)
  ·show cur2[o+j]?=_;rw[l3 _ (.inl Mcu),k3 _ (.inl Mcu)];exact hx j u hu
  ·have:=l4 j u hu;rw[show o+i*3+j=o+(i*3+j) by omega]at this;exact this
  ·show cur2[o+((i+1)*3+j)]?=_;rw[l3 _ (.inr Meb)];have:=k4 j u hu;rw[show o+(i+1)*3+j=o+((i+1)*3+j) by omega]at this;exact this
 clear aV k1 k2 k3 k4 bO bm hx zg bx hg dH;go_enter Tryz.func172,Tryz.ntmps172
 go_wp2_with (simp only[Lc])
 go_region_law_o (go_loud(refine step_copy_runI rfl _ _ 48 48 rfl _ _ MdZ MdZ (xn _ _ _) ?_))
 go_wp2_with (at_builtin;refine wpList_copy_runI _ rfl _ _ 48 48 rfl _ _ rfl rfl (CZ _ rfl _ _) ?_)
 go_ret
 exact HF.o _ rfl rfl rfl rfl
theorem zel(z:Array Value)(k:Nat):(Builtin.zeroCells z k).size=k*z.size:=by
 simp[Builtin.zeroCells]
theorem zm9(base:Nat)(xs:Parts)(p:ByteArray×Rat)(vb:Nat)(w:World)(hl:xs.length<=100000)(dH:w.heap[vb]?=some (.cells #[.string p.1,.int .i64 p.2.num,.int .i64 p.2.den] 64))(aN:base<=w.heap.size)(g o:Nat)(cur:Array Value)(hg:w.heap[g]?=some (.cells cur 64 (0,0)))(hx:∀j u,(xs.flatMap zaa)[j]?=some u->cur[o+j]?=some u)
 (i:Nat)(hi:i<xs.length):
 Calls Tryz.prog 172 #[.slice (some ⟨g,o,none⟩) xs.length xs.length,.int .i64 i,.slice (some ⟨vb,0,none⟩) 1 1] w (zff w base (.slice (some ⟨g,o,none⟩) xs.length xs.length) (xs.take i++p::xs.drop i)):=by
 have mixed:Tryz.prog.follows .mixedOrders=true:=Mcv;have lm:IntKind.i64.wrap ((xs.length:Int)+1)=(xs.length:Int)+1:=Mdc;have dB:(xs.length:Int)<(xs.length:Int)+1:=Mcu;obtain⟨c,hc⟩:∃c,xs.length=c:=⟨_,rfl⟩
 have bs:¬(c=i+1)\/c=i+1:=Mcu;have iH:¬((i:Int)=(xs.length:Int)):=Mcu;have jy:IntKind.i64.wrap ((i:Int)+1)=(i:Int)+1:=Mdc;have aR:(0:Int)<=(i:Int)+1:=Mcu;have ba:(0:Int)<=(i:Int):=Mcu;have fM:((i:Int)+1).toNat=i+1:=Mcu;have aq:(i:Int)<=(xs.length:Int):=Mcu;have aS:(i:Int)+1<=(xs.length:Int)+1:=Mcu;have hkw:IntKind.i64.wrap ((xs.length:Int)+1-(i:Int))=(xs.length:Int)+1-(i:Int):=Mdc;have fY:(xs.length:Int)+1-(i:Int)=((xs.length+1-i:Nat):Int):=Mcu;have Dt:i+(xs.length+1-i)=xs.length+1:=Mcu;obtain⟨i0,z,eX,AL,fe,AM,uI⟩:=zdV.hi;have hsz:(Tryz.prog.info? 64).map (·.size)=some 3:=by rw[eX];simp[fe]
 have cq:g<w.heap.size:=zab hg;have te:vb<w.heap.size:=zab dH;have cw:((xs.take i).flatMap zaa).length=i*3:=Mda;have d9:xs.flatMap zaa=(xs.take i).flatMap zaa++(xs.drop i).flatMap zaa:=Mdh;have mR:(Builtin.firstCells i0.size i (.slice (some ⟨g,o,none⟩) i xs.length)).run Tryz.prog w.drew=.ok ((xs.take i).flatMap zaa).toArray w.drew:=by
  rw[fe]
  exact run_firstCells_some w.drew 3 i ⟨g,o,none⟩ i xs.length _ cw (fun j v hj=>by
   rw[Addr.add_lit];have:=hx j v (by rw[d9,List.getElem?_append_left (List.getElem?_eq_some_iff.1 hj).1];exact hj);show w.cell? _=_;simp only[World.cell?,hg]
   exact this)
 have GU:∀ty,(Builtin.append_ #[48,3] ty #[.slice (some ⟨g,o,none⟩) i xs.length,.int .i64 ((xs.length:Int)+1-(i:Int))]).run Tryz.prog w=
  .ok (.slice (some ⟨w.heap.size,0,none⟩) (xs.length+1) (grownCap w (xs.length+1) xs.length 64)) (w.drew.alloc (.cells (((xs.take i).flatMap zaa).toArray++Builtin.zeroCells z.cells (xs.length+1-i)++Builtin.zeroCells z.cells (grownCap w (xs.length+1) xs.length 64-(xs.length+1))) 64)):=fun ty=>by
  have h:=Lib.run_append_grow_zeros w 48 3 ty 64 i0 _ .i64 .i64 Tryz.underlying48 Tryz.underlying3 eX AL (some ⟨g,o,none⟩) i xs.length ((xs.take i).flatMap zaa) mR (xs.length+1-i) Mcu Mcu Mcu Mcu (by rw[AM];omega) (by rw[AM,Dt];exact growslice_fits Mcu Mcu);rw[Dt]at h;rw[fY];exact h
 obtain⟨G,hG⟩:∃G,G=grownCap w (xs.length+1) xs.length 64:=⟨_,rfl⟩
 obtain⟨ROW,oy⟩:∃ROW:Array Value,ROW=((xs.take i).flatMap zaa).toArray++Builtin.zeroCells z.cells (xs.length+1-i)++Builtin.zeroCells z.cells (G-(xs.length+1)):=⟨_,rfl⟩
 rw[<-hG,<-oy]at GU;have Jv:xs.length+1<=G:=by rw[hG];exact grownCap_ge w _ _ _
 have Cf:G<=maxLen:=by
  rw[hG];exact grownCap_le_maxLen w (xs.length+1) xs.length 64 (by unfold maxLen;omega)
 have nD:ROW.size=G*3:=by
  rw[oy,Array.size_append,Array.size_append,zel,zel,uI];simp only[List.size_toArray,cw];omega
 have rG:∀j u,((xs.take i).flatMap zaa)[j]?=some u->ROW[j]?=some u:=fun j u hj=>by
  have cQ:=(List.getElem?_eq_some_iff.1 hj).1;rw[oy,Array.getElem?_append_left (by rw[Array.size_append,List.size_toArray];omega),Array.getElem?_append_left (by simpa using cQ)];simpa using hj
 obtain⟨W1,aV⟩:∃W1,W1=w.drew.alloc (.cells ROW 64):=⟨_,rfl⟩
 have Ao:W1.heap[w.heap.size]?=some (.cells ROW 64):=by rw[aV];exact heap_alloc_new w.drew _
 have Ar:∀k,k<w.heap.size->W1.heap[k]?=w.heap[k]?:=fun k hk=>by rw[aV];exact Below.heap_alloc w.drew _ k hk
 have xo:∀(W:World),W.heap=W1.heap->∀ty dc,(Builtin.copy_ #[48,48] ty #[.slice (some ⟨w.heap.size,i*3,none⟩) (xs.length+1-i) dc,.slice (some ⟨vb,0,none⟩) 1 1]).run Tryz.prog W=.ok (goInt (1:Nat)) (W.setCells w.heap.size (i*3) (zaa p)):=fun W mi ty dc=>
  zgm W _ _ ty 64 3 w.heap.size (i*3) _ dc ⟨vb,0,none⟩ 1 1 1 _ Tryz.underlying48 hsz Mdw (by rw[zam])
   (fun j v hj=>by rw[Addr.add_lit,Nat.zero_add];exact zm7 (by rw[mi,Ar vb te];exact dH) j v hj)
   (fun j hj=>by rw[zam]at hj;simp[World.cell?,mi,Ao];omega) (fun j hj=>by simp[World.frozen?,mi,Ao]) (zcg p)
 obtain⟨cur1,k1,k2,k3,k4⟩:=zbP w.heap.size (zaa p) (i*3) W1 ROW Ao (by rw[zam,nD];omega);have bO:=zbM w.heap.size (zaa p) (i*3) W1;have bx:((xs.drop i).flatMap zaa).length=(xs.length-i)*3:=Mee;have Gd:(W1.setCells w.heap.size (i*3) (zaa p)).heap[g]?=some (.cells cur 64):=by rw[bO.block g (by rw[aV];simp;omega) Mcz,Ar g cq];exact hg
 have D7:∀(W:World),W.heap=(W1.setCells w.heap.size (i*3) (zaa p)).heap->∀ty dc sc,(Builtin.copy_ #[48,48] ty #[.slice (some ⟨w.heap.size,(i+1)*3,none⟩) (xs.length-i) dc,.slice (some ⟨g,o+i*3,none⟩) (xs.length-i) sc]).run Tryz.prog W=.ok (goInt (xs.length-i:Nat)) (W.setCells w.heap.size ((i+1)*3) ((xs.drop i).flatMap zaa)):=fun W mi ty dc sc=>
  zgm W _ _ ty 64 3 w.heap.size ((i+1)*3) _ dc ⟨g,o+i*3,none⟩ _ sc (xs.length-i) _ Tryz.underlying48 hsz Mdw bx
   (fun j v hj=>by
     rw[Addr.add_lit];have e:(xs.flatMap zaa)[i*3+j]?=some v:=by
      rw[d9,List.getElem?_append_right Mcu,cw,Nat.add_sub_cancel_left];exact hj
     have:=hx _ _ e;simp only[World.cell?,mi,Gd,Nat.add_assoc]
     exact this)
   (fun j hj=>by rw[bx]at hj;simp[World.cell?,mi,k1,k2,nD];omega) (fun j hj=>by simp[World.frozen?,mi,k1]) (zit _)
 have HF:Hid (∀W:World,W.heap=(W1.setCells w.heap.size (i*3) (zaa p)).heap->W.os=w.os->W.tape=w.tape->W.output=w.output->zff w base (.slice (some ⟨g,o,none⟩) xs.length xs.length) (xs.take i++p::xs.drop i) (.returned (.slice (some ⟨w.heap.size,0,none⟩) (xs.length+1) G)) (W.setCells w.heap.size ((i+1)*3) ((xs.drop i).flatMap zaa))):=by
  intro W h1 h2 h3 h4;have th:w.grownBy W (some g):=⟨h2,h3,h4,by rw[h1];exact Nat.le_trans (by rw[aV];simp) bO.size,fun k hk hn=>by rw[h1,bO.block k (by rw[aV];simp;omega) Mcz,Ar k hk]⟩
  obtain⟨cur2,l1,l2,l3,l4⟩:=zbP w.heap.size ((xs.drop i).flatMap zaa) ((i+1)*3) W cur1 (by rw[h1];exact k1) (by rw[bx,k2,nD];omega);have ag:(xs.take i++p::xs.drop i).length=xs.length+1:=Mcz;have cj:=zbM w.heap.size ((xs.drop i).flatMap zaa) ((i+1)*3) W;refine⟨_,rfl,.inr ⟨w.heap.size,0,G,cur2,by rw[ag],aN,l1,by rw[ag];exact Jv,Cf,by rw[l2,k2,nD];omega,?_⟩,?_,fun g' h=> .inr (by simp only[za5,Option.some.injEq]at h;omega)⟩
  ·refine ins_get (cur:=fun j=>cur2[0+j]?) Mcu (fun j u hj hu=>?_) (fun j u hu=>?_) (fun j u hu=>?_)
   ·show cur2[0+j]?=_;rw[Nat.zero_add,l3 _ (.inl Mcu),k3 _ (.inl Mcu)];rw[d9,List.getElem?_append_left Mcu]at hu;exact rG j u hu
   ·show cur2[0+(i*3+j)]?=_;have Dv:j<3:=by have:=(List.getElem?_eq_some_iff.1 hu).1;rwa [zam]at this
    rw[Nat.zero_add,l3 _ (.inl Mcu)];exact k4 j u hu
   ·show cur2[0+((i+1)*3+j)]?=_;rw[Nat.zero_add];exact l4 j u hu
  ·exact⟨cj.os.trans h2,cj.tape.trans h3,cj.output.trans h4,Nat.le_trans th.size cj.size,fun k hk hn=>(cj.block k (Nat.lt_of_lt_of_le hk th.size) Mcz).trans (th.block k hk hn)⟩
 subst aV;have hGi:¬(G=i):=Mcu;have Jt:¬(G=i+1):=Mcu;have oE:¬(xs.length=i):=Mcu;have hGc:(xs.length:Int)+1<=(G:Int):=Mcu;have Js:(i:Int)<=(xs.length:Int)+1:=Mcu;clear fY Dt mR oy hG nD rG d9 cw bx Gd bO k1 k2 k3 k4 Ao Ar hx hc bs;go_enter Tryz.func172,Tryz.ntmps172
 go_upto_region 10 with(at_builtin;refine Lib.wpList_append_run _ rfl _ _ _ _ rfl _ _ rfl rfl _ _ (GU _) ?_)
 have FX:∀ty dc,_:=fun ty dc=>xo ((w.alloc (.cells ROW 64)).drew) rfl ty dc
 clear xo;go_wp2_with fail
 go_region_law_o (go_loud(refine step_copy_runI rfl _ _ 48 48 rfl _ _ MdZ MdZ (D7 (((w.alloc (.cells ROW 64)).drew.setCells w.heap.size (i*3) (zaa p)).drew) rfl _ _ _) ?_))
 go_wp2_with fail
 go_ret
 exact HF.o _ rfl rfl rfl rfl
theorem zo1{P:Program}(w:World)(t e ty:TypeId)(z:Value)(ht:P.underlying t=some (.slice e))(hv:∀w,(zeroValue e).run P w=.ok z w)(h1:∀u∈z.cells,u.oneCell'=true)(hp:0<z.cells.size)(b o n c:Nat)(hn:0<n)
 (hc:∀j,j<n*z.cells.size->(w.cell? ⟨b,o+j,none⟩).isSome=true)(hf:∀j,j<n*z.cells.size->w.frozen? ⟨b,o+j,none⟩=false):
 (Builtin.clear_ #[t] ty #[.slice (some ⟨b,o,none⟩) n c]).run P w=.ok (.tuple #[]) (w.setCells b o (Builtin.zeroCells z.cells n).toList):=by
 have hl:(Builtin.zeroCells z.cells n).toList.length=n*z.cells.size:=by simp[Builtin.zeroCells]
 have ao:=run_storeCells_cells (P:=P) b o (Builtin.zeroCells z.cells n).toList 0 w (by rw[hl];simpa using hc) (by rw[hl];simpa using hf) (by
  intro v jw;refine h1 v ?_;obtain⟨i,hi,rfl⟩:=List.getElem_of_mem jw;simp[Builtin.zeroCells]at hi⊢
  first|done|exact Array.getElem_mem _|simp[Nat.mod_lt _ hp])
 simp only[Nat.add_zero]at ao;obtain⟨m,rfl⟩:∃m,n=m+1:=⟨n-1,by omega⟩
 simp[Builtin.clear_,run_underlying ht,hv,ao]
theorem zeU{P:Program}{ops:Array Oper}{o:Oper}{a:Act}{w:World}{K:Act->World->Prop}{Q:Exit->Act->World->Prop}{E:Prop}
 (hg:o.guard=none)(d x:Operand)(dT sT:TypeId)(Lb:o.op=Op.call {callee:=Callee.builtin Builtin.append,args:= #[d,x],argTypes:= #[dT,sT]})
 (v u:Value)(hd:a.eval d=v)(hx:a.eval x=u){v':Value}{w':World}(hr:(Builtin.append_ #[dT,sT] o.type #[v,u]).run P w=.ok v' w')(hK:K (a.put o.dst v') w'):
 if Region.wanted o (yielded ops a.tmps)=true then Oper.wp P o a w K Q else E:=by
 have hw:Region.wanted o (yielded ops a.tmps)=true:=by simp[Region.wanted,hg]
 rw[if_pos hw];unfold Oper.wp;simp[execOp,Lb,resolve,invoke,builtin,hd,hx,hr,Result.andThen];exact hK
theorem del_any(base:Nat)(xs:Parts)(w:World)(hl:xs.length<=100000)(v:Value)(aa:OwnS w base 64 3 zaa v xs)(i:Nat)(hi:i<xs.length):
 Calls Tryz.prog 171 #[v,.int .i64 i,.int .i64 (i+1:Nat)] w (zff w base v (xs.take i++xs.drop (i+1))):=by
 rcases aa with⟨rfl,rfl⟩|⟨g,o,c,cur,rfl,jh,hg,hc,iK,bh,hx⟩
 ·simp at hi
 have mixed:Tryz.prog.follows .mixedOrders=true:=Mcv;obtain⟨i0,z,eX,AL,fe,AM,uI⟩:=zdV.hi;have hsz:(Tryz.prog.info? 64).map (·.size)=some 3:=by rw[eX];simp[fe]
 have bx:((xs.drop (i+1)).flatMap zaa).length=(xs.length-(i+1))*3:=Mee;have bm:∀j,j<c*3->(w.cell? ⟨g,o+j,none⟩).isSome=true:=fun j hj=>by simp[World.cell?,hg];omega
 have cw:((xs.take (i+1)).flatMap zaa).length=(i+1)*3:=Mda;have d9:xs.flatMap zaa=(xs.take (i+1)).flatMap zaa++(xs.drop (i+1)).flatMap zaa:=Mdh;have nF:∀(A:Addr),(i+1<xs.length->A=⟨g,o+(i+1)*3,none⟩)->∀ty cc,(Builtin.append_ #[48,48] ty #[.slice (some ⟨g,o,none⟩) i c,.slice (some A) (xs.length-(i+1)) cc]).run Tryz.prog w.drew=.ok (.slice (some ⟨g,o,none⟩) (i+(xs.length-(i+1))) c) (w.drew.setCells g (o+i*3) ((xs.drop (i+1)).flatMap zaa)):=fun A hA ty cc=>by
  have:=run_append_room_cells (P:=Tryz.prog) w.drew 48 ty 64 i0 Tryz.underlying48 eX g o i c A (xs.length-(i+1)) cc ((xs.drop (i+1)).flatMap zaa) (by rw[bx,fe])
   (fun j u hj=>by
     have cQ:=(List.getElem?_eq_some_iff.1 hj).1;rw[hA Mcu,Addr.add_lit];have e:(xs.flatMap zaa)[(i+1)*3+j]?=some u:=by rw[d9,List.getElem?_append_right Mcu,cw,Nat.add_sub_cancel_left];exact hj
     have:=hx _ _ e;show w.cell? _=_;simp only[World.cell?,hg,Nat.add_assoc]
     exact this) (zit _) Mcu (fun j hj=>by rw[fe];rw[bx]at hj;show(w.cell? _).isSome=_;rw[Nat.add_assoc];exact bm _ Mcu) (fun j hj=>by show w.frozen? _=_;simp[World.frozen?,hg])
  rw[fe]at this;exact this
 have aJ:i+(xs.length-(i+1))=xs.length-1:=Mcu;rw[aJ]at nF;obtain⟨cur1,k1,k2,k3,k4⟩:=zbP g ((xs.drop (i+1)).flatMap zaa) (o+i*3) w.drew cur hg (by rw[bx];omega);have bO:=zbM g ((xs.drop (i+1)).flatMap zaa) (o+i*3) w.drew;obtain⟨W1,aV⟩:∃W1,W1=w.drew.setCells g (o+i*3) ((xs.drop (i+1)).flatMap zaa):=⟨_,rfl⟩
 rw[<-aV]at nF k1 bO;have CX:∀ty cc,(Builtin.clear_ #[48] ty #[.slice (some ⟨g,o+(xs.length-1)*3,none⟩) (xs.length-(xs.length-1)) cc]).run Tryz.prog W1=.ok (.tuple #[]) (W1.setCells g (o+(xs.length-1)*3) (Builtin.zeroCells (Value.agg #[.string ⟨#[]⟩,.int .i64 0,.int .i64 0]).cells (xs.length-(xs.length-1))).toList):=fun ty cc=>
  zo1 W1 48 64 ty (.agg #[.string ⟨#[]⟩,.int .i64 0,.int .i64 0]) Tryz.underlying48 Tryz.zeroValue64 (by simp[Value.cells,Value.oneCell']) (by simp[Value.cells]) g _ _ cc Mcu
   (fun j hj=>by simp[Value.cells]at hj;simp[World.cell?,k1,k2];omega) (fun j hj=>by simp[World.frozen?,k1])
 have HF:Hid (zff w base (.slice (some ⟨g,o,none⟩) xs.length c) (xs.take i++xs.drop (i+1)) (.returned (.slice (some ⟨g,o,none⟩) (xs.length-1) c)) (W1.setCells g (o+(xs.length-1)*3) (Builtin.zeroCells (Value.agg #[.string ⟨#[]⟩,.int .i64 0,.int .i64 0]).cells (xs.length-(xs.length-1))).toList)):=by
  have th:w.grownBy W1 (some g):=⟨bO.os,bO.tape,bO.output,bO.size,bO.block⟩
  have zw:(Builtin.zeroCells (Value.agg #[.string ⟨#[]⟩,.int .i64 0,.int .i64 0]).cells (xs.length-(xs.length-1))).toList.length=3:=by
   rw[Array.length_toList,zel];simp[Value.cells];omega
  obtain⟨cur2,l1,l2,l3,l4⟩:=zbP g _ (o+(xs.length-1)*3) W1 cur1 k1 (by rw[zw,k2];omega);have ag:(xs.take i++xs.drop (i+1)).length=xs.length-1:=Mcz;refine⟨_,rfl,.inr ⟨g,o,c,cur2,by rw[ag],jh,l1,by rw[ag];omega,iK,by rw[l2,k2];exact bh,fun j u hj=>?_⟩,zbq th (zbM _ _ _ _),fun g' h=> .inl h⟩;have cQ:=(List.getElem?_eq_some_iff.1 hj).1;rw[zew,ag]at cQ;rw[l3 _ (.inl Mcu)];have Lm:((xs.take i).flatMap zaa).length=i*3:=Mda;rw[List.flatMap_append]at hj;by_cases cr:j<i*3
  ·rw[List.getElem?_append_left Mcu]at hj;rw[k3 _ (.inl Mcu)];refine hx j u ?_;exact MaE
  ·rw[List.getElem?_append_right Mcu,Lm]at hj;have:=k4 _ u hj;rwa [show o+i*3+(j-i*3)=o+j by omega]at this
 have aR:(i:Int)+1<=(xs.length:Int):=Mcu;have ba:(0:Int)<=(i:Int):=Mcu;have bs:¬((i:Int)=(i:Int)+1):=Mcu;have ay:(xs.length:Int)<=(c:Int):=Mcu;have aB:(i:Int)<=(c:Int):=Mcu;have aq:¬(c=xs.length-1):=Mcu;have aS:((xs.length-1:Nat):Int)<=(xs.length:Int):=Mcu;have bU:(0:Int)<=(i:Int)+1:=Mcu;have fM:((i:Int)+1).toNat=i+1:=Mcu;clear aV k1 k2 k3 k4 bO bm hx bx cw d9 hg aJ;go_enter Tryz.func171,Tryz.ntmps171
 by_cases hlast:c=i+1
 ·clear ay aB aq aS aR hl;generalize hm:xs.length=m at*;obtain rfl:m=i+1:=by omega
  subst hlast;clear hm hc hi;have cM:(i:Int)<=(i:Int)+1:=Mcu;simp only[Nat.add_sub_cancel,Nat.add_sub_cancel_left,Nat.sub_self]at nF CX HF;go_wp2_with fail
  go_region_law_o (go_loud(refine zeU rfl _ _ 48 48 rfl _ (.slice (some ⟨g,o,none⟩) 0 0) Mdg (by simp[Act.eval,Act.put]) (nF _ (fun h=>absurd h Mcu) _ _) ?_))
  go_wp2_with fail
  go_ret
  exact HF.o
 ·go_wp2_with fail
  go_region_law_o (go_loud(refine zeU rfl _ _ 48 48 rfl _ _ Mdg Mdg (nF _ (fun _=>rfl) _ _) ?_))
  go_wp2_with fail
  go_ret
  exact HF.o
theorem ins_any(base:Nat)(xs:Parts)(p:ByteArray×Rat)(vb:Nat)(w:World)(hl:xs.length<=100000)(dH:w.heap[vb]?=some (.cells #[.string p.1,.int .i64 p.2.num,.int .i64 p.2.den] 64))(aN:base<=w.heap.size)(v:Value)
 (aa:OwnS w base 64 3 zaa v xs)(ai:za5 v≠some vb)(i:Nat)(hi:i<=xs.length):
 Calls Tryz.prog 172 #[v,.int .i64 i,.slice (some ⟨vb,0,none⟩) 1 1] w (zff w base v (xs.take i++p::xs.drop i)):=by
 by_cases he:i=xs.length
 ·subst he;rw[List.take_of_length_le (Nat.le_refl _),List.drop_eq_nil_of_le (Nat.le_refl _)];exact zo0 base xs p vb w hl dH aN v aa
 ·have ae:i<xs.length:=Mcu;rcases aa with⟨rfl,rfl⟩|⟨g,o,c,cur,rfl,jh,hg,hc,iK,bh,hx⟩
  ·simp at ae
  ·by_cases hr:xs.length+1<=c
   ·exact zm8 base xs p vb w hl dH aN g o c cur jh hg hr iK bh hx i ae (fun e=>ai (by rw[e];rfl))
   ·have e:c=xs.length:=Mcu;subst e;exact zm9 base xs p vb w hl dH aN g o cur hg hx i ae
theorem zhH{W:World}{base:Nat}{e t:TypeId}{size:Nat}{f:ByteArray×Rat->List Value}{v:Value}{xs:Parts}{T:Nat}{cs:Array Value}{fr:Nat×Nat}(h:OwnS W base e size f v xs)(hT:W.heap[T]?=some (.cells cs t fr))(ai:t≠e):za5 v≠some T:=by
 exact MX
def zks(w:World)(base T:Nat)(pl:ByteArray)(cl fr en:Int)(dv v:Value)(ys:Parts)(e:Ending)(w':World):Prop:=
 e=.returned (.tuple #[])/\∃v',zbw w' T pl cl fr en v' dv/\OwnS w' base 64 3 zaa v' ys/\Below base w w'/\∀k,k<w.heap.size->k≠T->za5 v≠some k->w'.heap[k]?=w.heap[k]?
theorem numZ(q:Rat):(q==0)=(q.num==0):=by
 rw[Bool.eq_iff_iff,beq_iff_eq,beq_iff_eq,Rat.num_eq_zero]
theorem set_at{P Q:Parts}{nm:ByteArray}{q:Rat}(hP:∀p∈P,zbb p.1 nm=true)(hQ:∀p∈Q,zbb p.1 nm=false):
 setP (P++Q) nm q=if q.num==0 then(if zdU Q nm then P++Q.drop 1 else P++Q)else if zdU Q nm then P++(nm,q)::Q.drop 1 else P++(nm,q)::Q:=by
 rw[zev hP,<-numZ];cases Q with
 |nil=>simp[setP,zdU];split<;>simp
 |cons b Q=>
  rw[setP,hQ b Mcx];simp only[zdU,Bool.false_eq_true,if_false,List.drop_succ_cons,List.drop_zero];split<;>split<;>simp_all
theorem zgn{W:World}{T:Nat}{pl:ByteArray}{cl fr en:Int}{v dv:Value}(h:zbw W T pl cl fr en v dv)(v':Value):zbw (W.setCell ⟨T,4,none⟩ v') T pl cl fr en v' dv:=by
 unfold zbw at*;have:=Joins.block_setCell (i:=4) h v';simpa using this
theorem own_set2{W:World}{base g o n c:Nat}{P Q:Parts}{b:ByteArray×Rat}{q:Rat}(h:OwnS W base 64 3 zaa (.slice (some ⟨g,o,none⟩) n c) (P++b::Q)):
 OwnS ((W.setCell ⟨g,o+P.length*3+1,none⟩ (.int .i64 q.num)).setCell ⟨g,o+P.length*3+1+1,none⟩ (.int .i64 q.den)) base 64 3 zaa (.slice (some ⟨g,o,none⟩) n c) (P++(b.1,q)::Q):=by
 rcases h with⟨h,_⟩|⟨g',o',c',cur,h,hb,hg,hc,hm,hs,hx⟩
 ·cases h
 ·simp only[Value.slice.injEq,Option.some.injEq,Addr.mk.injEq,and_true]at h;obtain⟨⟨rfl,rfl⟩,rfl,rfl⟩:=h;refine .inr ⟨g,o,c,(cur.setIfInBounds (o+P.length*3+1) (.int .i64 q.num)).setIfInBounds (o+P.length*3+1+1) (.int .i64 q.den),by simp,hb,heap_setCell_same _ g _ _ _ _ (heap_setCell_same W g _ cur _ _ hg),by simpa using hc,hm,by simpa using hs,fun j u hj=>?_⟩;have hl:(P.flatMap zaa).length=P.length*3:=zew P;have cQ:=(List.getElem?_eq_some_iff.1 hj).1;rw[zew]at cQ;simp only[List.length_append,List.length_cons]at cQ hc;rw[List.flatMap_append,List.flatMap_cons]at hj;by_cases h1:j<P.length*3
  ·rw[List.getElem?_append_left Mcu]at hj;rw[Array.getElem?_setIfInBounds_ne Mcu,Array.getElem?_setIfInBounds_ne Mcu];refine hx j u ?_;rw[List.flatMap_append,List.getElem?_append_left Mcu];exact hj
  ·rw[List.getElem?_append_right Mcu,hl]at hj;by_cases h2:j-P.length*3<3
   ·rw[List.getElem?_append_left (by rw[zam];exact h2)]at hj;obtain h3|h3|h3:j-P.length*3=0\/j-P.length*3=1\/j-P.length*3=2:=by omega
    ·rw[h3]at hj;rw[Array.getElem?_setIfInBounds_ne Mcu,Array.getElem?_setIfInBounds_ne Mcu];refine hx j u ?_;rw[List.flatMap_append,List.flatMap_cons,List.getElem?_append_right Mcu,hl,List.getElem?_append_left (by rw[zam];exact h2),h3];exact hj
    ·rw[h3]at hj;rw[Array.getElem?_setIfInBounds_ne Mcu,show o+j=o+P.length*3+1 by omega,Array.getElem?_setIfInBounds_self_of_lt Mcu];simpa[zaa]using hj
    ·rw[h3]at hj;rw[show o+j=o+P.length*3+1+1 by omega,Array.getElem?_setIfInBounds_self_of_lt Mcz];simpa[zaa]using hj
   ·rw[List.getElem?_append_right Meb,zam]at hj;rw[Array.getElem?_setIfInBounds_ne Mcu,Array.getElem?_setIfInBounds_ne Mcu];refine hx j u ?_;rw[List.flatMap_append,List.flatMap_cons,List.getElem?_append_right Mcu,hl,List.getElem?_append_right Meb,zam];exact hj
theorem ziu(base T:Nat)(xs:Parts)(v:Value)(pl:ByteArray)(cl fr en:Int)(dv:Value)(nm:ByteArray)(q:Rat)(w:World)(hT:zbw w T pl cl fr en v dv)(rX:base<=T)(aa:OwnS w base 64 3 zaa v xs)(hA:AscP xs)(hl:xs.length<=90000):
 Calls Tryz.prog 141 #[.pointer (some ⟨T,0,none⟩),.string nm,.agg #[.int .i64 q.num,.int .i64 q.den]] w (zks w base T pl cl fr en dv v (setP xs nm q)):=by
 unfold zbw at hT;have ae:T<w.heap.size:=zab hT;have Av:base<=w.heap.size:=Mcu;have Am:za5 v≠some T:=zhH aa hT Mcw;have eV:=aa.ge;obtain⟨A,c,Hc,hS,hc⟩:=aa.sl zam;have ki:w.cell? ⟨T,4,none⟩=some v:=by simp[World.cell?,hT]
 have Ks:w.frozen? ⟨T,4,none⟩=false:=by simp[World.frozen?,hT]
 have ai:T≠w.heap.size:=Mcu;obtain⟨HO,HS,HA,HV,HT⟩:=yH5 aa hS hA Hc hT;clear hS hA aa Hc hT;go_enter Tryz.func141,Tryz.ntmps141
 go_upto_region 3 with(go_at_call 53;refine(znJ xs A c T nm _ (by rw[<-HV.o];simp[go_sem,ae,ki]) Mcu HA.o (HS.o.keep (n:=w.heap.size) Bw)).mono ?_;rintro e wq ⟨P,Q,bn,hP,hQ,rfl,z,rfl⟩;subst bn)
 have iE:=set_at (q:=q) hP hQ;have gx:=zHi iE;clear iE hP hQ;generalize hh:zdU Q nm=ok at*;have HH:=zHi hh;clear hh;obtain⟨W,hW⟩:∃W,W=(w.alloc (.cells #[.int .i64 q.num,.int .i64 q.den] 31)).ext z:=⟨_,rfl⟩
 have dJ:Below w.heap.size w W:=by rw[hW];exact Bw
 have q0:W.cell? ⟨w.heap.size,0,none⟩=some (.int .i64 q.num):=by rw[hW];simp[go_sem]
 have q1:W.cell? ⟨w.heap.size,1,none⟩=some (.int .i64 q.den):=by rw[hW];simp[go_sem]
 have rK:zbw W T pl cl fr en v dv:=(dJ.block T ae).trans HT.o;have hWs:w.heap.size<W.heap.size:=by rw[hW];simp[zag];omega
 have wF:=zHi (HO.o.keep (n:=w.heap.size) dJ);have wR:T<W.heap.size:=zab rK;rw[<-hW];clear hW;have c4:W.cell? ⟨T,4,none⟩=some v:=by unfold zbw at rK;simp[World.cell?,rK]
 have f4:W.frozen? ⟨T,4,none⟩=false:=by unfold zbw at rK;simp[World.frozen?,rK]
 have r9:=zHi rK;clear rK ki Ks ai;have fH:P.length<=(P++Q).length:=Mcx;have HB:Hid (∀w1,W.grownBy w1 (za5 v)->Below base w w1/\w1.heap[T]?=W.heap[T]?):=fun w1 h2=>⟨Below.grown (dJ.mono Av) h2 (Nat.le_trans Av dJ.size) (fun j hj=>(eV j hj).1),h2.block T wR (fun e=>Am e.symm)⟩
 have vh:Hid (∀w1 v' ys,W.grownBy w1 (za5 v)->OwnS w1 base 64 3 zaa v' ys->(∀g,za5 v'=some g->za5 v=some g\/W.heap.size<=g)->setP (P++Q) nm q=ys->zks w base T pl cl fr en dv v (setP (P++Q) nm q) (.returned (.tuple #[])) (w1.setCell ⟨T,4,none⟩ v')):=fun w1 v' ys h2 h1 h3 hs=>by
  obtain⟨aR,uy⟩:=HB.o w1 h2;have jw:za5 v'≠some T:=fun e=>by
   rcases h3 T e with h|h
   ·exact Am h
   ·omega
  rw[hs];refine⟨rfl,v',zgn (uy.trans r9.o) v',h1.grown (zav _ _ _ _) (.inr jw),zaM aR rX _,fun k hk AD oN=>?_⟩;have Gn:k<W.heap.size:=Nat.lt_of_lt_of_le hk dJ.size;rw[(zav w1 T 4 v').block k (Nat.lt_of_lt_of_le Gn h2.size) (fun e=>AD MdO),h2.block k Gn (fun e=>oN e.symm),dJ.block k hk]
 cases hq:(q.num==0)
 ·have HQ:=zHi hq;have fw:¬q.num=0:=by simpa using hq
  clear hq;cases ok
  ·
   have pB:Hid (setP (P++Q) nm q=(P++Q).take P.length++(nm,q)::(P++Q).drop P.length):=by
    show _=_;rw[gx.o,HQ.o,List.take_left,List.drop_left];simp
   have dM:Hid (((P++Q).take P.length++(nm,q)::(P++Q).drop P.length).length=P.length+(Q.length+1)):=by show _=_;simp
   go_upto_region 2 with fail
   go_region_law (go_simp;go_at_call 172
                  refine(ins_any base (P++Q) (nm,q) W.heap.size _ Mcu ?q1 ?q2 v ?q3 ?q4 P.length Mcu).mono ?_
                  case q1=>(first|exact zaq _ _ _ rfl|(refine J_drew ?_;exact zaq _ _ _ rfl))
                  case q2=>simp;omega
                  case q3=>exact wF.o.keep (n:=W.heap.size) Bw
                  case q4=>(intro e;have:=(eV _ e).2;omega)
                  rintro e w1 ⟨v',rfl,h1,h2,h3⟩;obtain⟨A',c',jw,_,_⟩:=h1.sl zam;rw[dM.o]at jw;subst jw;have t1:=(h2.block T Mcz (fun e=>Am e.symm)).trans (show _=some (Obj.cells #[.string pl,.int .i64 cl,.int .i64 fr,.int .i64 en,v,dv] 88 (0,0)) from(Below.heap_alloc _ _ _ wR).trans r9.o);have k1:w1.cell? ⟨T,4,none⟩=some v:=by simp[World.cell?,t1]
                  have k2:w1.frozen? ⟨T,4,none⟩=false:=by simp[World.frozen?,t1])
   all_goals go_wp2_with fail
   all_goals go_end0
   all_goals exact vh.o w1 _ _ (zbq (World.grownBy_alloc W _ _) ⟨h2.os,h2.tape,h2.output,h2.size,h2.block⟩) h1 (fun g hg=>(h3 g hg).imp id (fun h=>by simp at h;omega)) pB.o
  ·
   cases Q with
   |nil=>have:=HH.o;simp[zdU]at this
   |cons b Q=>
    have gZ:b.1=nm:=zap.1 HH.o;rcases wF.o with⟨_,h'⟩|⟨g,o,cap,cur,hv,hb,hg,bi,iK,bh,hx⟩
    ·simp at h'
    subst hv;have hl:(P.flatMap zaa).length=P.length*3:=zew P;have gX:∀j u,(zaa b)[j]?=some u->cur[o+P.length*3+j]?=some u:=fun j u hj=>by
     have:=hx (P.length*3+j) u (by rw[List.flatMap_append,List.flatMap_cons,List.getElem?_append_right Mcu,hl,Nat.add_sub_cancel_left,List.getElem?_append_left (List.getElem?_eq_some_iff.1 hj).1];exact hj);rwa [<-Nat.add_assoc]at this
    have k1:W.cell? ⟨g,o+P.length*3+1,none⟩=some (.int .i64 b.2.num):=by simp only[World.cell?,hg];exact gX 1 _ rfl
    have k2:W.cell? ⟨g,o+P.length*3+1+1,none⟩=some (.int .i64 b.2.den):=by simp only[World.cell?,hg];exact gX 2 _ rfl
    have k3:W.frozen? ⟨g,o+P.length*3+1,none⟩=false:=by simp[World.frozen?,hg]
    have k4:W.frozen? ⟨g,o+P.length*3+1+1,none⟩=false:=by simp[World.frozen?,hg]
    have Ge:T≠g:=fun e=>Am (by rw[e];rfl)
    have iL:g≠w.heap.size:=by have:=(eV g rfl).2;omega
    have uo:(P.length:Int)<((P++b::Q).length:Int):=Mcz;have eX:(0:Int)<=(P.length:Int):=Mcu;have pB:Hid (setP (P++b::Q) nm q=P++(b.1,q)::Q):=by
     show _=_;rw[gx.o,HQ.o,gZ];simp
    clear hx gX hg;go_upto_region 7 with fail
    go_region
    all_goals go_wp2_with fail
    all_goals go_end0
    all_goals exact⟨rfl,_,(J_ne Ge (J_ne Ge r9.o):_),by rw[pB.o];exact own_set2 wF.o,by have hBb:=dJ.mono Av;exact Bw,fun k hk AD oN=>((zbq (zav W g _ _) (zav _ g _ _)).block k (Nat.lt_of_lt_of_le hk dJ.size) (fun e=>oN (by rw[e];rfl))).trans (dJ.block k hk)⟩
 ·have HQ:=zHi hq;have fw:q.num=0:=by simpa using hq
  clear hq;cases ok
  ·
   go_wp2_with fail
   go_end0
   exact⟨rfl,v,r9.o,by rw[gx.o,HQ.o];exact wF.o,dJ.mono Av,fun k hk _ _=>dJ.block k hk⟩
  ·
   have bu:P.length<(P++Q).length:=by
    cases Q with
    |nil=>have:=HH.o;simp[zdU]at this
    |cons b Q=>simp
   have pB:Hid (setP (P++Q) nm q=(P++Q).take P.length++(P++Q).drop (P.length+1)):=by
    show _=_;rw[gx.o,HQ.o,List.take_left,List.drop_append];simp
   have dM:Hid (((P++Q).take P.length++(P++Q).drop (P.length+1)).length=P.length+(Q.length-1)):=by show _=_;simp
   have xq:=del_any base (P++Q) W Mcu v wF.o P.length bu;rw[show((P.length+1:Nat):Int)=(P.length:Int)+1 by omega]at xq;have jy:IntKind.i64.wrap ((P.length:Int)+1)=(P.length:Int)+1:=Mdc;go_wp2_with (go_at_call 171;go_loud(refine xq.mono ?_;rintro e w1 ⟨v',rfl,h1,h2,h3⟩;obtain⟨A',c',jw,_,_⟩:=h1.sl zam;rw[dM.o]at jw;subst jw;have t1:w1.heap[T]?=some (Obj.cells #[.string pl,.int .i64 cl,.int .i64 fr,.int .i64 en,v,dv] 88 (0,0)):=(HB.o w1 h2).2.trans r9.o;have k1:w1.cell? ⟨T,4,none⟩=some v:=(by simp[World.cell?,t1]);have k2:w1.frozen? ⟨T,4,none⟩=false:=(by simp[World.frozen?,t1])))
   go_end0
   exact vh.o w1 _ _ h2 h1 h3 pB.o
end
theorem zjB{V:Type}(ev:V->Value)(s:ByteArray):∀(es:List MapEntry) (m:List (ByteArray×V)),es.map (fun e=>(e.key,e.val))=m.map (fun p=>(ekS p.1,ev p.2))->∀i,
 Instr.findNow .string (.string s) es i=some ((locate eqS s m i).map fun p=>(p.1,ev p.2))
 | [],[],_,_=>rfl
 | [],_::_,h,_=>by simp at h
 |_::_,[],h,_=>by simp at h
 |e::es,p::m,h,i=>by
  simp only[List.map_cons,List.cons.injEq,Prod.mk.injEq]at h;obtain⟨⟨hk,hv⟩,ht⟩:=h;unfold Instr.findNow locate;rw[hk,hv,ekS,Instr.sameNow,beq_toListBytes];cases hq:eqS s p.1
  ·rw[eqS]at hq;rw[hq];simpa using zjB ev s es m ht (i+1)
  ·rw[eqS]at hq;rw[hq];rfl
theorem zkt{V:Type}{t et:TypeId}{ev:V->Value}{z:V}(ht:Tryz.prog.underlying t=some (.map 9 et))(hz:∀w,(zeroValue et).run Tryz.prog w=.ok (ev z) w):MapTy Tryz.prog t 9 et ekS ev z eqS where
 ht:=ht
 hz:=hz
 hck:=zor
 hfind:=fun k es m h w=>by
  simp[Instr.findKey,run_underlying Tryz.underlying9,ekS,zjB ev k es m h 0]
 hsame:=fun k k' h=>by
  rw[ekS,ekS,zgM,beq_toListBytes];rw[eqS]at h;rw[eq_of_beq h];exact beq_self_eq_true _
def nilS:Value:=.slice none 0 0
theorem zll:MapTy Tryz.prog 77 9 4 ekS evB false eqS:=zkt Tryz.underlying77 (fun w=>by kernel_rfl)
theorem zjt:MapTy Tryz.prog 78 9 36 ekS (fun v:Value=>v) nilS eqS:=zkt Tryz.underlying78 (fun w=>by kernel_rfl)
theorem mapSP:MapTy Tryz.prog 79 9 48 ekS (fun v:Value=>v) nilS eqS:=zkt Tryz.underlying79 (fun w=>by kernel_rfl)
theorem mapSF:MapTy Tryz.prog 213 9 31 ekS (fun v:Value=>v) (.agg #[.int .i64 0,.int .i64 0]) eqS:=zkt Tryz.underlying213 (fun w=>by kernel_rfl)
def ekP(p:ByteArray×ByteArray):Value:=.agg #[.string p.1,.string p.2]
def eqP(a b:ByteArray×ByteArray):Bool:=eqS a.1 b.1&&eqS a.2 b.2
theorem info_str:∃i,Tryz.prog.info? 9=some i:=⟨_,(by kernel_rfl:Tryz.prog.info? 9=some (Tryz.prog.info? 9).get!)⟩
theorem cells_str:Tryz.prog.cellsOf 9=1:=by kernel_rfl
theorem zlm(d:Nat)(a c a' c':ByteArray)(w:World):(Op.equalIn (d+2) 131 (.agg #[.string a,.string c]) (.agg #[.string a',.string c'])).run Tryz.prog w=.ok (eqS a a'&&eqS c c') w:=by
 obtain⟨i,hi⟩:=info_str;rw[run_equalIn_array w (d+1) _ _ Tryz.underlying131 hi,cells_str];have hr:List.range 2=[0,1]:=rfl;rw[hr];simp only[Op.eqItems,Sem.run_bind,Nat.zero_mul,Nat.one_mul];have hp:∀(v:Array Value) (j:Nat) (x:ByteArray),v[j]?=some (.string x)->∀W,(part 9 v j).run Tryz.prog W=.ok (.string x) W:=fun v j x hv W=>by
  simp[part,isAgg,run_underlying Tryz.underlying9,hv]
 rw[hp _ 0 a rfl,Result.andThen_ok,hp _ 0 a' rfl,Result.andThen_ok,run_equalIn_string w d 9 a a' Tryz.underlying9,Result.andThen_ok];cases h1:(a.toList==a'.toList)
 ·simp[eqS,h1]
 ·simp only[Bool.not_true,Bool.false_eq_true,if_false,Sem.run_bind];rw[hp _ 1 c rfl,Result.andThen_ok,hp _ 1 c' rfl,Result.andThen_ok,run_equalIn_string w d 9 c c' Tryz.underlying9,Result.andThen_ok];cases h2:(c.toList==c'.toList)<;>simp[eqS,h1,h2]
theorem equal_p(a c a' c':ByteArray)(w:World):(Op.equal 131 (.agg #[.string a,.string c]) (.agg #[.string a',.string c'])).run Tryz.prog w=.ok (eqS a a'&&eqS c c') w:=zlm 9998 a c a' c' w
theorem findNow_p(v:Value)(e:MapEntry)(es:List MapEntry)(n:Nat)(t:TypeId)(i:Nat):Instr.findNow (.array n t) v (e::es) i=none:=by
 unfold Instr.findNow;cases v<;>simp[Instr.sameNow]
theorem zht(p:ByteArray×ByteArray)(w:World):∀(es:List MapEntry) (m:List ((ByteArray×ByteArray)×Bool)),es.map (fun e=>(e.key,e.val))=m.map (fun p=>(ekP p.1,evB p.2))->∀i,
 (Instr.findAsking 131 (ekP p) es i).run Tryz.prog w=.ok ((locate eqP p m i).map fun p=>(p.1,evB p.2)) w
 | [],[],_,_=>by simp[Instr.findAsking,locate]
 | [],_::_,h,_=>by simp at h
 |_::_,[],h,_=>by simp at h
 |e::es,q::m,h,i=>by
  simp only[List.map_cons,List.cons.injEq,Prod.mk.injEq]at h;obtain⟨⟨hk,hv⟩,ht⟩:=h;unfold Instr.findAsking locate;have h1:=equal_p p.1 p.2 q.1.1 q.1.2 w;have h2:=zht p w es m ht (i+1);rw[hk,hv];simp only[ekP]at h1 h2⊢;simp only[Sem.run_bind,h1,Result.andThen_ok];change Sem.run _ (if(eqP p q.1)=true then _ else _) w=_;cases hq:eqP p q.1
  ·simpa using h2
  ·simp
theorem zo2(e:Bool)(p:ByteArray×ByteArray)(w:World):(Instr.checkKey e 10000 131 (ekP p)).run Tryz.prog w=.ok () w:=by
 obtain⟨a,c⟩:=p;cases e<;>kernel_rfl
theorem zo3(a c a' c':ByteArray)(h1:a=a')(h2:c=c'):Instr.sameBits 10000 (.agg #[.string a,.string c]) (.agg #[.string a',.string c'])=true:=by
 subst h1 h2;have h2:∀n,Instr.sameBits (n+1) (.agg #[.string a,.string c]) (.agg #[.string a,.string c])=true:=fun n=>by simp[Instr.sameBits,zgM,beq_toListBytes]
 exact h2 9999
theorem eqS_eq{a b:ByteArray}(h:eqS a b=true):a=b:=zap.1 h
theorem mapPB:MapTy Tryz.prog 80 131 4 ekP evB false eqP where
 ht:=Tryz.underlying80
 hz:=fun w=>by kernel_rfl
 hck:=zo2
 hfind:=fun k es m h w=>by
  match es,m,h with
  | [],[],_=>simp[Instr.findKey,run_underlying Tryz.underlying131,Instr.findNow,locate]
  | [],_::_,h=>simp at h
  |e::es,m,h=>
   simp only[Instr.findKey,Sem.run_bind,run_underlying Tryz.underlying131,Result.andThen_ok,findNow_p];exact zht k w (e::es) m h 0
 hsame:=fun k k' h=>by
  obtain⟨a,c⟩:=k;obtain⟨a',c'⟩:=k';simp only[eqP,Bool.and_eq_true]at h;exact zo3 a' c' a c (eqS_eq h.1).symm (eqS_eq h.2).symm
section
def sC(s:ByteArray):List Value:=[.string s]
theorem za9(s:ByteArray):(sC s).length=1:=rfl
theorem zb8(s:ByteArray):∀u∈sC s,u.oneCell'=true:=by simp[sC,Value.oneCell']
theorem zbm(p:ByteArray×ByteArray):(zaV p).length=2:=rfl
theorem zdG(p:ByteArray×ByteArray):∀u∈zaV p,u.oneCell'=true:=by simp[zaV,Value.oneCell']
def ptrC(T:Nat):List Value:=[.pointer (some ⟨T,0,none⟩)]
theorem zcL(T:Nat):(ptrC T).length=1:=rfl
theorem znK(T:Nat):∀u∈ptrC T,u.oneCell'=true:=by simp[ptrC,Value.oneCell']
theorem zb9:ElTy Tryz.prog 36 9 1 16:=zdA (z:=.string ⟨#[]⟩) Mcv Mcv rfl Mcw
theorem zgo:ElTy Tryz.prog 41 131 2 32:=zdA (z:=.agg #[.string ⟨#[]⟩,.string ⟨#[]⟩]) Mcv Mcv rfl Mcw
theorem elTomb:ElTy Tryz.prog 83 73 1 8:=zdA (z:=.pointer none) Mcv Mcv rfl Mcw
def Ro{α:Type}(W:World)(e:TypeId)(f:α->List Value)(A:Option Addr)(xs:List α):Prop:=
 0<xs.length->∃b off cur fr,A=some ⟨b,off,none⟩/\W.heap[b]?=some (.cells cur e fr)/\∀j u,(xs.flatMap f)[j]?=some u->cur[off+j]?=some u
section
variable {α:Type} {W W':World} {e:TypeId} {size base:Nat} {f:α->List Value} {A:Option Addr} {xs:List α} {v:Value}
theorem Ro.sl(ag:∀x,(f x).length=size)(h:Ro W e f A xs):Sl W size f A xs:=fun hl=>by
 obtain⟨b,off,cur,fr,hA,hb,hx⟩:=h hl;refine⟨b,off,hA,(Array.getElem?_eq_some_iff.1 hb).1,fun k x hk j u hu=>?_⟩;have:=hx (k*size+j) u (zeX f size ag xs k x hk j u hu);simp only[World.cell?,hb,Nat.add_assoc];exact this
theorem Ro.same(h:Ro W e f A xs)(hk:∀b cur fr,W.heap[b]?=some (.cells cur e fr)->(∀off,A=some ⟨b,off,none⟩->True)->W'.heap[b]?=W.heap[b]?):Ro W' e f A xs:=fun hl=>by
 obtain⟨b,off,cur,fr,hA,hb,hx⟩:=h hl;exact⟨b,off,cur,fr,hA,(hk b cur fr hb fun _ _=>trivial).trans hb,hx⟩
theorem Ro.keep{n:Nat}(h:Ro W e f A xs)(hB:Below n W W')(hn:W.heap.size<=n:=by first|exact Nat.le_refl _|omega):Ro W' e f A xs:=
 h.same fun b cur fr hb _=>hB.block b (Nat.lt_of_lt_of_le (Array.getElem?_eq_some_iff.1 hb).1 hn)
theorem Ro.nil:Ro W e f A ([]:List α):=fun h=>absurd h Mcx
theorem OwnS.ro(h:OwnS W base e size f v xs):∃A c,v=.slice A xs.length c/\xs.length<=c/\Ro W e f A xs:=by
 rcases h with⟨rfl,rfl⟩|⟨g,o,c,cur,rfl,_,hg,hc,_,_,hx⟩
 ·exact⟨none,0,rfl,Nat.le_refl _,Ro.nil⟩
 ·exact⟨_,c,rfl,hc,fun _=>⟨g,o,cur,_,rfl,hg,hx⟩⟩
theorem OwnS.kept{g:Nat}{cs:Array Value}{t:TypeId}{fr:Nat×Nat}(h:OwnS W base e size f v xs)(hg:W.grownBy W' (some g))(hx:W.heap[g]?=some (.cells cs t fr))(ai:t≠e):OwnS W' base e size f v xs:=
 h.grown hg (by
  rcases h with⟨rfl,_⟩|⟨g',o,c,cur,rfl,_,fD,_⟩
  ·exact .inl rfl
  ·refine .inr fun e'=>?_
   simp only[za5,Option.some.injEq]at e';subst e';rw[fD]at hx;simp only[Option.some.injEq,Obj.cells.injEq]at hx
   exact ai hx.2.1.symm)
theorem OwnS.keptM{g:Nat}{es:Array MapEntry}{c:Nat}(h:OwnS W base e size f v xs)(hg:W.grownBy W' (some g))(hx:W.heap[g]?=some (.map es c)):OwnS W' base e size f v xs:=
 h.grown hg (by
  rcases h with⟨rfl,_⟩|⟨g',o,c,cur,rfl,_,fD,_⟩
  ·exact .inl rfl
  ·refine .inr fun e'=>?_
   simp only[za5,Option.some.injEq]at e';subst e';rw[fD]at hx
   simp at hx)
theorem Ro.kept{g:Nat}{cs:Array Value}{t:TypeId}{fr:Nat×Nat}(h:Ro W e f A xs)(hg:W.grownBy W' (some g))(hx:W.heap[g]?=some (.cells cs t fr))(ai:t≠e):Ro W' e f A xs:=
 h.same fun b cur fr' hb _=>hg.block b (Array.getElem?_eq_some_iff.1 hb).1 (fun e'=>by
  simp only[Option.some.injEq]at e';subst e';rw[hb]at hx;simp only[Option.some.injEq,Obj.cells.injEq]at hx
  exact ai hx.2.1.symm)
theorem Ro.keptM{g:Nat}{es:Array MapEntry}{c:Nat}(h:Ro W e f A xs)(hg:W.grownBy W' (some g))(hx:W.heap[g]?=some (.map es c)):Ro W' e f A xs:=
 h.same fun b cur fr' hb _=>hg.block b (Array.getElem?_eq_some_iff.1 hb).1 (fun e'=>by
  simp only[Option.some.injEq]at e';subst e';rw[hb]at hx
  simp at hx)
end
theorem MapS.keptC{W W':World}{b g:Nat}{K V:Type}{ek:K->Value}{ev:V->Value}{m:List (K×V)}{cs:Array Value}{t:TypeId}{fr:Nat×Nat}(h:MapS W b ek ev m)(hg:W.grownBy W' (some g))(hx:W.heap[g]?=some (.cells cs t fr)):MapS W' b ek ev m:=
 h.grown hg (fun e=>by
  simp only[Option.some.injEq]at e;subst e;obtain⟨es,c,h1,_⟩:=h;rw[h1]at hx
  simp at hx)
def RowIs(W:World)(base:Nat)(m:List (ByteArray×Value))(n:ByteArray)(xs:List ByteArray):Prop:=
 (mget eqS n m=none/\xs=[])\/∃v,mget eqS n m=some v/\OwnS W base 9 1 sC v xs
def WillIs(W:World)(m:List (ByteArray×Value))(n:ByteArray)(xs:Parts):Prop:=
 (mget eqS n m=none/\xs=[])\/∃A c,mget eqS n m=some (.slice A xs.length c)/\Ro W 64 zaa A xs
def zaW(m:List (ByteArray×Value)):List Nat:=m.filterMap fun e=>za5 e.2
structure PplAt (base:Nat) (W:World) (B:List Nat) (d c p wl r:Nat) (mv:Value) (s:St):Prop where
 nd:[d,c,p,wl,r].Nodup
 ge:base<=d/\base<=c/\base<=p/\base<=wl/\base<=r
 dead:MapS W d ekS evB (s.dead.map fun n=>(n,true))
 rows:∃mc mp,MapS W c ekS (fun v:Value=>v) mc/\MapS W p ekS (fun v:Value=>v) mp/\(∀n,RowIs W base mc n (zai s n))/\(∀n,RowIs W base mp n (zbT s n))/\B=zaW (mc++mp)/\(B.Nodup/\(mc.map (·.1)).Nodup/\(mp.map (·.1)).Nodup)
 marr:OwnS W base 131 2 zaV mv s.marriages
 wills:∃m,MapS W wl ekS (fun v:Value=>v) m/\∀n,WillIs W m n (zbx s n)
 ren:MapS W r ekP evB (s.renounce.map fun x=>(x,true))
def TombAt(W:World)(base:Nat)(B:List Nat)(T:Nat)(g:Grave):Prop:=
 ∃H hc D dc fr,zbw W T g.place g.cls fr g.fin (.slice H g.holders.length hc) (.slice D g.died.length dc)/\base<=T/\g.holders.length<=hc/\g.died.length<=dc/\Ro W 64 zaa H g.holders/\Ro W 9 sC D g.died/\(0<g.died.length->∀a,D=some a->a.block∉B)
structure TombsAt (base:Nat) (W:World) (B:List Nat) (tv:Value) (ps:List Nat) (gs:List Grave):Prop where
 own:OwnS W base 73 1 ptrC tv ps
 len:ps.length=gs.length
 nd:ps.Nodup
 all:∀(i T:Nat) (g:Grave),ps[i]?=some T->gs[i]?=some g->TombAt W base B T g
def WldC(W:World)(b d c p wl r:Nat)(mv tv:Value)(last count:Int):Prop:=W.heap[b]?=some (.cells #[.map (some d),.map (some c),.map (some p),mv,.map (some wl),.map (some r),tv,.int .i64 last,.int .i64 count] 85)
def WldAt(base:Nat)(W:World)(b:Nat)(s:St)(last count:Int):Prop:=
 ∃B d c p wl r mv tv ps,base<=b/\WldC W b d c p wl r mv tv last count/\PplAt base W B d c p wl r mv s/\TombsAt base W B tv ps s.graves
def PeoAt(base:Nat)(W:World)(b:Nat)(s:St):Prop:= ∃B d c p wl r mv tv la co,WldC W b d c p wl r mv tv la co/\PplAt base W B d c p wl r mv s
section
variable {base n:Nat} {W W':World} {B:List Nat} {d c p wl r:Nat} {mv tv:Value} {s:St} {m:List (ByteArray×Value)} {nm:ByteArray}
theorem RowIs.keep{xs:List ByteArray}(h:RowIs W base m nm xs)(hB:Below n W W')(hn:W.heap.size<=n:=by first|exact Nat.le_refl _|omega):RowIs W' base m nm xs:=by
 rcases h with h|⟨v,h1,h2⟩
 ·exact .inl h
 ·exact .inr ⟨v,h1,h2.keep hB hn⟩
theorem WillIs.keep{xs:Parts}(h:WillIs W m nm xs)(hB:Below n W W')(hn:W.heap.size<=n:=by first|exact Nat.le_refl _|omega):WillIs W' m nm xs:=by
 rcases h with h|⟨A,c,h1,h2⟩
 ·exact .inl h
 ·exact .inr ⟨A,c,h1,h2.keep hB hn⟩
theorem PplAt.keep(h:PplAt base W B d c p wl r mv s)(hB:Below n W W')(hn:W.heap.size<=n:=by first|exact Nat.le_refl _|omega):PplAt base W' B d c p wl r mv s:=by
 obtain⟨mc,mp,k1,k2,k3,k4,k5,k6⟩:=h.rows;obtain⟨m,k7,k8⟩:=h.wills;exact⟨h.nd,h.ge,h.dead.below hB hn,⟨mc,mp,k1.below hB hn,k2.below hB hn,fun x=>(k3 x).keep hB hn,fun x=>(k4 x).keep hB hn,k5,k6⟩,h.marr.keep hB hn,⟨m,k7.below hB hn,fun x=>(k8 x).keep hB hn⟩,h.ren.below hB hn⟩
theorem TombAt.keep{T:Nat}{g:Grave}(h:TombAt W base B T g)(hB:Below n W W')(hn:W.heap.size<=n:=by first|exact Nat.le_refl _|omega):TombAt W' base B T g:=by
 obtain⟨H,hc,D,dc,fr,h1,h2,h3,h4,h5,h6,h7⟩:=h;exact⟨H,hc,D,dc,fr,(hB.block T (Nat.lt_of_lt_of_le (zab h1) hn)).trans h1,h2,h3,h4,h5.keep hB hn,h6.keep hB hn,h7⟩
theorem TombsAt.keep{ps:List Nat}{gs:List Grave}(h:TombsAt base W B tv ps gs)(hB:Below n W W')(hn:W.heap.size<=n:=by first|exact Nat.le_refl _|omega):TombsAt base W' B tv ps gs:=
 ⟨h.own.keep hB hn,h.len,h.nd,fun i T g h1 h2=>(h.all i T g h1 h2).keep hB hn⟩
theorem WldC.keep{b:Nat}{la co:Int}(h:WldC W b d c p wl r mv tv la co)(hB:Below n W W')(hn:W.heap.size<=n:=by first|exact Nat.le_refl _|omega):WldC W' b d c p wl r mv tv la co:=
 (hB.block b (Nat.lt_of_lt_of_le (zab h) hn)).trans h
theorem WldAt.keep{b:Nat}{la co:Int}(h:WldAt base W b s la co)(hB:Below n W W')(hn:W.heap.size<=n:=by first|exact Nat.le_refl _|omega):WldAt base W' b s la co:=by
 obtain⟨B,d,c,p,wl,r,mv,tv,ps,h1,h2,h3,h4⟩:=h;exact⟨B,d,c,p,wl,r,mv,tv,ps,h1,h2.keep hB hn,h3.keep hB hn,h4.keep hB hn⟩
theorem PeoAt.keep{b:Nat}(h:PeoAt base W b s)(hB:Below n W W')(hn:W.heap.size<=n:=by first|exact Nat.le_refl _|omega):PeoAt base W' b s:=by
 obtain⟨B,d,c,p,wl,r,mv,tv,la,co,h1,h2⟩:=h;exact⟨B,d,c,p,wl,r,mv,tv,la,co,h1.keep hB hn,h2.keep hB hn⟩
theorem WldAt.peo{b:Nat}{la co:Int}(h:WldAt base W b s la co):PeoAt base W b s:=by
 obtain⟨B,d,c,p,wl,r,mv,tv,ps,h1,h2,h3,h4⟩:=h;exact⟨B,d,c,p,wl,r,mv,tv,la,co,h2,h3⟩
theorem WldAt.lt{b:Nat}{la co:Int}(h:WldAt base W b s la co):b<W.heap.size/\base<=b:=by
 obtain⟨B,d,c,p,wl,r,mv,tv,ps,h1,h2,h3,h4⟩:=h;exact⟨zab h2,h1⟩
end
theorem PplAt.kept{base:Nat}{W W':World}{B:List Nat}{d c p wl r g:Nat}{mv:Value}{s:St}{cs:Array Value}{t:TypeId}{fr:Nat×Nat}(h:PplAt base W B d c p wl r mv s)(hg:W.grownBy W' (some g))(hx:W.heap[g]?=some (.cells cs t fr))
 (h1:t≠9)(h2:t≠131)(h3:t≠64):PplAt base W' B d c p wl r mv s:=by
 obtain⟨mc,mp,k1,k2,k3,k4,k5,k6⟩:=h.rows;obtain⟨m,k7,k8⟩:=h.wills;have bj:∀ {m:List (ByteArray×Value)} {nm:ByteArray} {xs:List ByteArray},RowIs W base m nm xs->RowIs W' base m nm xs:=fun h=>by
  rcases h with h|⟨v,pD,Jk⟩
  ·exact .inl h
  ·exact .inr ⟨v,pD,Jk.kept hg hx h1⟩
 refine⟨h.nd,h.ge,h.dead.keptC hg hx,⟨mc,mp,k1.keptC hg hx,k2.keptC hg hx,fun x=>bj (k3 x),fun x=>bj (k4 x),k5,k6⟩,h.marr.kept hg hx h2,⟨m,k7.keptC hg hx,fun x=>?_⟩,h.ren.keptC hg hx⟩;rcases k8 x with h'|⟨A,c,e1,e2⟩
 ·exact .inl h'
 ·exact .inr ⟨A,c,e1,e2.kept hg hx h3⟩
end
open Go.Shelf
attribute [local go_sem] zas zad
theorem zhI(n:ByteArray):∀l:List ByteArray,(mget eqS n (l.map fun x=>(x,true))).getD false=l.any (zae n)
 | []=>rfl
 |x::l=>by
  rw[List.map_cons,mget,List.any_cons];show(if eqS n x=true then some true else _).getD false=_;have e:eqS n x=zae n x:=rfl;rw[e];cases h:zae n x
  ·simpa using zhI n l
  ·rfl
theorem zmA(k:ByteArray×ByteArray):∀l:List (ByteArray×ByteArray),(mget eqP k (l.map fun x=>(x,true))).getD false=l.any fun r=>zae r.1 k.1&&zae r.2 k.2
 | []=>rfl
 |x::l=>by
  rw[List.map_cons,mget,List.any_cons];have e1:∀a b:ByteArray,zae a b=zae b a:=fun a b=>by
   rw[Bool.eq_iff_iff,zap,zap];exact⟨Eq.symm,Eq.symm⟩
  have e:eqP k x=(zae x.1 k.1&&zae x.2 k.2):=by rw[e1 x.1,e1 x.2];rfl
  show(if eqP k x=true then some true else _).getD false=_;rw[e];cases h:(zae x.1 k.1&&zae x.2 k.2)
  ·simpa using zmA k l
  ·rfl
theorem zd0{base:Nat}{W:World}{B:List Nat}{d c p wl r:Nat}{mv:Value}{s:St}(h:PplAt base W B d c p wl r mv s)(n:ByteArray):
 (Instr.lookup 77 (.map (some d)) (.string n) false).run Tryz.prog W=.ok (.bool (zaN s n)) W:=by
 have:=zbn zll h.dead.at n;rw[zhI]at this;exact this
theorem znL{base:Nat}{W:World}{B:List Nat}{d c p wl r:Nat}{mv:Value}{s:St}(h:PplAt base W B d c p wl r mv s)(a b:ByteArray):
 (Instr.lookup 80 (.map (some r)) (.agg #[.string a,.string b]) false).run Tryz.prog W=.ok (.bool (s.renounce.any fun x=>zae x.1 a&&zae x.2 b)) W:=by
 have:=zbn mapPB h.ren.at (a,b);rw[zmA]at this;exact this
theorem PplAt.drewN{base:Nat}{W:World}{B:List Nat}{d c p wl r:Nat}{mv:Value}{s:St}(h:PplAt base W B d c p wl r mv s)(q:Nat):PplAt base (W.drewN q) B d c p wl r mv s:=h.keep (n:=W.heap.size) ⟨rfl,rfl,rfl,Nat.le_refl _,fun _ _=>rfl⟩
theorem zln(base b X:Nat)(s:St)(q:RPart)(w:World)(hW:PeoAt base w b s)(hX:X<w.heap.size)(hc:w.cell? ⟨X,0,none⟩=some (.pointer (some ⟨b,0,none⟩))):
 Calls Tryz.prog 169 #[.agg #[.string q.name,.int .i64 q.num,.int .i64 q.den],.pointer (some ⟨X,0,none⟩)] w (Ret w (.bool (zaN s q.name))):=by
 obtain⟨B,d,c,p,wl,r,mv,tv,la,co,h1,h2⟩:=hW;have hb:=zab h1;unfold WldC at h1;have c0:w.cell? ⟨b,0,none⟩=some (.map (some d)):=Mer;have cX:∀o q',(Instr.lookup 77 (.map (some d)) (.string q.name) false).run Tryz.prog ((w.alloc o).drewN q')=.ok (.bool (zaN s q.name)) ((w.alloc o).drewN q'):=fun o q'=>zd0 ((h2.keep (n:=w.heap.size) (zac (Below.refl _ _) o)).drewN q') _
 have hXn:X≠w.heap.size:=Mcu;have gZ:b≠w.heap.size:=Mcu;clear h1 h2;go_enter Tryz.func169,Tryz.ntmps169
 go_wp2_with fail
 go_quiet (fail)
 exact Mao
theorem zku(base b X:Nat)(s:St)(xs:List RPart)(w:World)(hW:PeoAt base w b s)(hX:X<w.heap.size)(hc:w.cell? ⟨X,0,none⟩=some (.pointer (some ⟨b,0,none⟩))):
 zfb 169 #[.pointer (some ⟨X,0,none⟩)] (fun x=> .agg (RPart.cells x).toArray) (fun q=>zaN s q.name) xs w:=fun x _ W hB=>by
 refine(zln base b X s x W (hW.keep hB) (Nat.lt_of_lt_of_le hX hB.size) ((hB.cell (p:=⟨X,0,none⟩) hX).trans hc)).mono ?_;rintro e wq ⟨rfl,z,rfl⟩;exact⟨rfl,hB.trans ((zao W z).mono hB.size)⟩
theorem ziv(base b:Nat)(s:St)(xs:List RPart)(A:Option Addr)(n c:Nat)(w:World)(hn:n=xs.length)(hl:xs.length<=100000)(hW:PeoAt base w b s)(hS:Sl w 3 RPart.cells A xs):
 Calls Tryz.prog 139 #[.pointer (some ⟨b,0,none⟩),.slice A n c] w (Ret w (.bool (ze5 s xs))):=by
 have eg:∀args w,(callFunc 169 args).run Tryz.prog w=.ok (.enter 169 args) w:=enters_of Tryz.func169 Mcv rfl;obtain⟨HS,HW,HN⟩:=yH3 hS hW hn;clear hS hW hn;go_enter Tryz.func139,Tryz.ntmps139
 go_wp2_with (go_at_call 62
              refine(zcV _ _ eg (fun q=>zaN s q.name) _ n _ xs _ HN.o hl (HS.o.keep (n:=w.heap.size) Bw) (zku base b _ s xs _ (HW.o.keep (n:=w.heap.size) Bw) Mcx Mc0)).mono ?_
              rintro e wq ⟨rfl,z,rfl⟩)
 go_ret
 exact Ret.of rfl Bw
theorem zlo(xs:List ByteArray)(x:ByteArray)(A:Option Addr)(n c:Nat)(w:World)(hn:n=xs.length)(hl:xs.length<=100000)(hS:Sl w 1 sC A xs):
 Calls Tryz.prog 41 #[.slice A n c,.string x] w (Ret0 w (.bool (xs.any (zae x)))):=by
 subst hn;by_cases h0:xs.length=0
 ·have hx:xs=[]:=List.eq_nil_of_length_eq_zero h0;subst hx;have b9:=AnyE.slices_Contains_empty coStr A c (.string x) w;change Calls Tryz.prog 41 _ _ _ at b9;exact Mbi
 ·obtain⟨b,off,rfl,hb,hc⟩:=hS Mcu;haveI:Inhabited ByteArray:=⟨⟨#[]⟩⟩
  have b9:=AnyE.slices_Contains coStr Value.string (fun a b:ByteArray=>a.toList==b.toList) (EqlAt.string _ _) b off xs.length c xs x w (Nat.le_refl _) Mcu (fun j hj=>by
   rw[getElem!_pos xs j hj];have:=hc j _ (List.getElem?_eq_getElem hj) 0 _ rfl
   simpa using this)
  rw[List.take_of_length_le (Nat.le_refl _)]at b9;change Calls Tryz.prog 41 _ _ _ at b9;exact Mbi
theorem eqlPair:EqlAt Tryz.prog 131 (fun x:ByteArray×ByteArray=> .agg (zaV x).toArray) eqP:=by
 refine⟨fun x y w=>?_,GuardAt.agg _ Mcv⟩;show(binOp .eql 131 (.agg #[.string x.1,.string x.2]) (.agg #[.string y.1,.string y.2])).run Tryz.prog w=_;rw[run_eql_struct,zlm 9998 x.1 x.2 y.1 y.2 w];rfl
theorem ixPairNil(A:Option Addr)(c:Nat)(a b:ByteArray)(w:World):Calls Tryz.prog 99 #[.slice A 0 c,.agg #[.string a,.string b]] w (Ret w (.int .i64 (-1))):=by
 go_enter Tryz.func99,Tryz.ntmps99
 go_wp2_with fail
 go_loopw [5,8] (fun _ i wr=>i=.int .i64 0/\∃z,wr=w.ext z) (fun _ _ _=>0)
 case atStart=>exact⟨rfl,zaZ Bw⟩
 case round=>
  obtain⟨rfl,z,rfl⟩:=hrel;exact Mao
theorem coPairNil(A:Option Addr)(c:Nat)(a b:ByteArray)(w:World):Calls Tryz.prog 64 #[.slice A 0 c,.agg #[.string a,.string b]] w (Ret w (.bool false)):=by
 go_enter Tryz.func64,Tryz.ntmps64
 go_wp2_with (go_at_call 99;refine(ixPairNil _ _ _ _ _).mono ?_;rintro e wq ⟨rfl,z,rfl⟩)
 go_ret
 exact Ret.of rfl Bw
theorem zo4(xs:List (ByteArray×ByteArray))(a b:ByteArray)(A:Option Addr)(n c:Nat)(w:World)(hn:n=xs.length)(hl:xs.length<=100000)(hS:Sl w 2 zaV A xs):
 Calls Tryz.prog 64 #[.slice A n c,.agg #[.string a,.string b]] w (Ret w (.bool (xs.any fun y=>eqP (a,b) y))):=by
 subst hn;by_cases h0:xs.length=0
 ·have hx:xs=[]:=List.eq_nil_of_length_eq_zero h0;subst hx;refine(coPairNil _ _ _ _ _).mono ?_;rintro e wq ⟨rfl,z,rfl⟩;exact Ret.of rfl Bw
 ·obtain⟨b',off,rfl,hb,hc⟩:=hS Mcu;haveI:Inhabited (ByteArray×ByteArray):=⟨(⟨#[]⟩,⟨#[]⟩)⟩
  have b9:=AnyQ.slices_Contains coPair 2 Tryz.isAgg131 Tryz.sizeOf131 zaV (fun _=>rfl) eqP eqlPair b' off xs.length c xs (a,b) w (Nat.le_refl _) Mcu (fun j hj i v hi=>by
   rw[getElem!_pos xs j hj]at hi
   exact hc j _ (List.getElem?_eq_getElem hj) i v hi)
  rw[List.take_of_length_le (Nat.le_refl _)]at b9;change Calls Tryz.prog 64 _ _ _ at b9;exact Mbh
def zhJ(s:St)(a b:ByteArray):Bool:=s.marriages.any (fun y=>eqP (a,b) y)||s.marriages.any fun y=>eqP (b,a) y
theorem ziw(base b:Nat)(s:St)(x y:ByteArray)(w:World)(hW:PeoAt base w b s)(hl:s.marriages.length<=100000):
 Calls Tryz.prog 39 #[.pointer (some ⟨b,0,none⟩),.string x,.string y] w (Ret w (.bool (zhJ s x y))):=by
 obtain⟨B,d,c,p,wl,r,mv,tv,la,co,h1,h2⟩:=hW;obtain⟨A,cc,rfl,hS,hc⟩:=h2.marr.sl zbm;have hb:=zab h1;unfold WldC at h1;have c3:w.cell? ⟨b,3,none⟩=some (.slice A s.marriages.length cc):=Mer;have HS:=zHi hS;clear h1 h2 hS;go_enter Tryz.func39,Tryz.ntmps39
 go_wp2_with (go_at_call 64;refine(zo4 s.marriages _ _ A _ cc _ rfl hl (HS.o.keep (n:=w.heap.size) Bw)).mono ?_;intro e wq hq;rcases Ret.bools hq with⟨zq,rfl,⟨hb,rfl⟩|⟨hb,rfl⟩⟩<;>clear hq)
 all_goals go_ret
 all_goals exact Ret.of (zaP (by simp[zhJ, *])) Bw
