import Derived.Test.YtbobmplpdmplkaaGreatDoorE2
import Derived.Test.YtbobmplpdmplkaaGreatDoorRM
set_option linter.all false
set_option maxRecDepth 100000
set_option maxHeartbeats 4000000
namespace Go.Proofs.YtbobmplpdmplkaaGreatDoor
attribute [local go_sem] World.cell?_alloc_mark zaf za4 zam za7 zaw zax zay zaz za0 za1 za2
attribute [local go_sem] zan zac
section
open Go.RowKit Go.Shelf
theorem zcI{m:List (ByteArray×Value)}{g:Nat}:g∈zaU m↔ ∃e∈m,za5 e.2=some g:=by
 unfold zaU;rw[List.mem_filterMap]
theorem zcz(e:ByteArray×Value)(m:List (ByteArray×Value)):zaU (e::m)=(za5 e.2).toList++zaU m:=by
 unfold zaU;rw[List.filterMap_cons];cases h:za5 e.2<;>simp
theorem zc0(m l:List (ByteArray×Value)):zaU (m++l)=zaU m++zaU l:=by
 unfold zaU;exact List.filterMap_append
theorem zhJ{k:ByteArray}{v:Value}:∀ {m:List (ByteArray×Value)},(zaU m).Nodup->(∀g,za5 v=some g->(∃v0,mget eqS k m=some v0/\za5 v0=some g)\/g∉zaU m)->
 (zaU (mput eqS k v m)).Nodup/\∀g∈zaU (mput eqS k v m),g∈zaU m\/za5 v=some g
 | [],_,_=>by
   rw[mput,zcz];have e:zaU []=[]:=rfl;rw[e];cases h:za5 v<;>simp
 |x::m,hn,hv=>by
  rw[zcz,List.nodup_append]at hn;obtain⟨n1,n2,n3⟩:=hn;rw[mput];cases hk:eqS k x.1
  ·rw[if_neg McB];have jy:∀g,za5 v=some g->(∃v0,mget eqS k m=some v0/\za5 v0=some g)\/g∉zaU m:=fun g hg=>by
    rcases hv g hg with⟨v0,h1,h2⟩|h
    ·rw[mget,hk]at h1;exact .inl ⟨v0,by simpa using h1,h2⟩
    ·exact .inr fun h'=>h (by rw[zcz];exact List.mem_append_right _ h')
   obtain⟨i1,i2⟩:=zhJ n2 jy;rw[zcz,List.nodup_append];refine⟨⟨n1,i1,fun a ha b hb e=>?_⟩,fun g hg=>?_⟩
   ·subst e;rcases i2 _ hb with h|h
    ·exact n3 a ha a h rfl
    ·rcases hv a h with⟨v0,h1,h2⟩|h'
     ·rw[mget,hk]at h1;have pw:mget eqS k m=some v0:=Mc4;exact n3 a ha a (zcI.2 ⟨_,zcH pw,h2⟩) rfl
     ·exact h' (by rw[zcz];exact List.mem_append_left _ ha)
   ·rw[List.mem_append]at hg;rcases hg with hg|hg
    ·exact .inl (by rw[zcz];exact List.mem_append_left _ hg)
    ·rcases i2 g hg with h|h
     ·exact .inl (by rw[zcz];exact List.mem_append_right _ h)
     ·exact .inr h
  ·rw[if_pos rfl,zcz,List.nodup_append];have hx:mget eqS k (x::m)=some x.2:=by rw[mget,hk];rfl
   refine⟨⟨by cases h:za5 v<;>simp,n2,fun a ha b hb e=>?_⟩,fun g hg=>?_⟩
   ·subst e;have jc:za5 v=some a:=by
     cases h:za5 v with
     |none=>simp[h]at ha
     |some y=>simp[h]at ha;rw[ha]
    rcases hv a jc with⟨v0,h1,h2⟩|h'
    ·rw[hx]at h1;simp only[Option.some.injEq]at h1;subst h1;exact n3 a (by rw[h2];simp) a hb rfl
    ·exact h' (by rw[zcz];exact List.mem_append_right _ hb)
   ·rw[List.mem_append]at hg;rcases hg with hg|hg
    ·cases h:za5 v with
     |none=>simp[h]at hg
     |some y=>simp[h]at hg;exact .inr (by rw[hg])
    ·exact .inl (by rw[zcz];exact List.mem_append_right _ hg)
theorem zf4{k n:ByteArray}{v v0:Value}{g:Nat}(ai:zae n k=false):∀ {m:List (ByteArray×Value)},(zaU m).Nodup->mget eqS n m=some v->mget eqS k m=some v0->za5 v=some g->za5 v0≠some g
 | [],_,h,_,_=>by cases h
 |x::m,hn,h1,h2,h3=>fun h4=>by
  rw[zcz,List.nodup_append]at hn;obtain⟨n1,n2,n3⟩:=hn;rw[mget]at h1 h2;cases ha:eqS n x.1
  ·rw[ha]at h1;simp only[Bool.false_eq_true,if_false]at h1;cases hb:eqS k x.1
   ·rw[hb]at h2;simp only[Bool.false_eq_true,if_false]at h2;exact zf4 ai n2 h1 h2 h3 h4
   ·rw[hb]at h2;simp only[if_true,Option.some.injEq]at h2;subst h2;exact n3 g (by rw[h4];simp) g (zcI.2 ⟨_,zcH h1,h3⟩) rfl
  ·rw[ha]at h1;simp only[if_true,Option.some.injEq]at h1;subst h1;cases hb:eqS k x.1
   ·rw[hb]at h2;simp only[Bool.false_eq_true,if_false]at h2;exact n3 g (by rw[h3];simp) g (zcI.2 ⟨_,zcH h2,h4⟩) rfl
   ·have e1:n=x.1:=zau.1 ha;have e2:k=x.1:=zau.1 hb;rw[e1,e2,zb8]at ai;cases ai
theorem kids_push(s:St)(f t n:ByteArray):zai {s with children:=s.children++[(f,t)]} n=zai s n++if zae f n then[t]else[]:=by
 unfold zai;simp only[List.filter_append,List.map_append,List.filter_cons,List.filter_nil];cases zae f n<;>simp
theorem pars_push(s:St)(f t n:ByteArray):zbP {s with children:=s.children++[(f,t)]} n=zbP s n++if zae t n then[f]else[]:=by
 unfold zbP;simp only[List.filter_append,List.map_append,List.filter_cons,List.filter_nil];cases zae t n<;>simp
theorem zk1{W:World}{base:Nat}{m:List (ByteArray×Value)}{n:ByteArray}{xs:List ByteArray}(h:RowIs W base m n xs):∃A c,(mget eqS n m).getD (.slice none 0 0)=.slice A xs.length c/\OwnS W base 9 1 sC (.slice A xs.length c) xs/\(∀g,za5 (.slice A xs.length c)=some g->mget eqS n m=some (.slice A xs.length c)):=by
 rcases h with⟨h1,rfl⟩|⟨v,h1,h2⟩
 ·exact⟨none,0,by rw[h1];rfl,OwnS.nil,fun g hg=>by cases hg⟩
 ·obtain⟨A,c,rfl,_,_⟩:=h2.sl za9;exact⟨A,c,by rw[h1];rfl,h2,fun _ _=>h1⟩
theorem zhK(a b:ByteArray):zae a b=zae b a:=by rw[Bool.eq_iff_iff,zau,zau];exact⟨Eq.symm,Eq.symm⟩
theorem OwnS.same{α:Type}{W W':World}{base:Nat}{e:TypeId}{size:Nat}{f:α->List Value}{v:Value}{xs:List α}(h:OwnS W base e size f v xs)(hk:∀g cur,za5 v=some g->W.heap[g]?=some (.cells cur e (0,0))->W'.heap[g]?=W.heap[g]?):OwnS W' base e size f v xs:=by
 rcases h with h|⟨g,o,cap,cur,rfl,hb,hh,rest⟩
 ·exact .inl h
 ·exact .inr ⟨g,o,cap,cur,rfl,hb,(hk g cur rfl hh).trans hh,rest⟩
theorem zdO{W:World}{base:Nat}{v:Value}{xs:List ByteArray}(h:OwnS W base 9 1 sC v xs){g:Nat}(hg:za5 v=some g):∃cur,W.heap[g]?=some (.cells cur 9 (0,0)):=by
 rcases h with⟨rfl,_⟩|⟨k,o,c,cur,rfl,_,hk,_⟩
 ·cases hg
 ·simp only[za5,Option.some.injEq]at hg;subst hg;exact⟨cur,hk⟩
theorem wld_child{base b:Nat}{W w9:World}{B ps:List Nat}{d c p wl r:Nat}{mv tv va vb v1 v2:Value}{s:St}{la co:Int}{mc mp:List (ByteArray×Value)}{fr tn:ByteArray}(hb:base<=b)(hC:WldC W b d c p wl r mv tv la co)(hP:PplAt base W B d c p wl r mv s)(hT:TombsAt base W B tv ps s.graves)
 (k1:MapS W c ekS (fun v:Value=>v) mc)(k2:MapS W p ekS (fun v:Value=>v) mp)(k3:∀n,RowIs W base mc n (zai s n))(k4:∀n,RowIs W base mp n (zbP s n))(k5:B=zaU (mc++mp))(k6:B.Nodup/\(mc.map (·.1)).Nodup/\(mp.map (·.1)).Nodup)
 (ha:OwnS W base 9 1 sC va (zai s fr))(jc:∀g,za5 va=some g->mget eqS fr mc=some va)(hv:OwnS W base 9 1 sC vb (zbP s tn))(jy:∀g,za5 vb=some g->mget eqS tn mp=some vb)
 (o1:OwnS w9 base 9 1 sC v1 (zai s fr++[tn]))(o2:OwnS w9 base 9 1 sC v2 (zbP s tn++[fr]))(b1:∀g,za5 v1=some g->za5 va=some g\/W.heap.size<=g)(b2:∀g,za5 v2=some g->za5 vb=some g\/W.heap.size<=g)(b12:∀g,za5 v1=some g->za5 v2≠some g)
 (m1:MapS w9 c ekS (fun v:Value=>v) (mput eqS fr v1 mc))(m2:MapS w9 p ekS (fun v:Value=>v) (mput eqS tn v2 mp))(hF:∀k,k<W.heap.size->k≠c->k≠p->za5 va≠some k->za5 vb≠some k->w9.heap[k]?=W.heap[k]?):WldAt base w9 b {s with children:=s.children++[(fr,tn)]} la co:=by
 have cW:=hP.nd;simp only[List.nodup_cons,List.mem_cons,List.not_mem_nil,or_false,not_or]at cW;obtain⟨⟨n1,n2,n3,n4⟩,⟨n5,n6,n7⟩,⟨n8,n9⟩,n10,_⟩:=cW;obtain⟨ec,cc,hc⟩:=zbl k1;obtain⟨ep,cp,hp⟩:=zbl k2;have bl:∀ {k:Nat} {cur:Array Value} {t:TypeId} {f:Nat×Nat},W.heap[k]?=some (.cells cur t f)->t≠9->w9.heap[k]?=W.heap[k]?:=fun {k cur t f} hk ht=>by
  refine hF k (Array.getElem?_eq_some_iff.1 hk).1 (fun e=>?_) (fun e=>?_) (fun e=>?_) (fun e=>?_)
  ·subst e;rw[hc]at hk;simp at hk
  ·subst e;rw[hp]at hk;simp at hk
  ·obtain⟨cur',h'⟩:=zdO ha e;exact MbL
  ·obtain⟨cur',h'⟩:=zdO hv e;exact MbL
 have sz:∀ {k:Nat} {es:Array MapEntry} {x:Nat},W.heap[k]?=some (.map es x)->k≠c->k≠p->w9.heap[k]?=W.heap[k]?:=fun {k es x} hk h1 h2=>by
  refine hF k (Array.getElem?_eq_some_iff.1 hk).1 h1 h2 (fun e=>?_) (fun e=>?_)
  ·obtain⟨cur',h'⟩:=zdO ha e;rw[h']at hk;simp at hk
  ·obtain⟨cur',h'⟩:=zdO hv e;rw[h']at hk;simp at hk
 have nP:∀g,za5 va=some g->g∈zaU mc:=fun g hg=>zcI.2 ⟨_,zcH (jc g hg),hg⟩
 have dB:∀g,za5 vb=some g->g∈zaU mp:=fun g hg=>zcI.2 ⟨_,zcH (jy g hg),hg⟩
 obtain⟨k6,kn1,kn2⟩:=k6;rw[k5,zc0,List.nodup_append]at k6;obtain⟨q1,q2,q3⟩:=k6;have kr:∀ {m:List (ByteArray×Value)} {n:ByteArray} {v:Value} {xs:List ByteArray},mget eqS n m=some v->OwnS W base 9 1 sC v xs->(∀g,za5 v=some g->za5 va≠some g/\za5 vb≠some g)->OwnS w9 base 9 1 sC v xs:=fun {m n v xs} hm ho ai=>
  ho.same fun g cur hg hh=>hF g (Array.getElem?_eq_some_iff.1 hh).1 (fun e=>by subst e;rw[hc]at hh;simp at hh) (fun e=>by subst e;rw[hp]at hh;simp at hh) (ai g hg).1 (ai g hg).2
 have oF:∀g,W.heap.size<=g->g∉zaU mc/\g∉zaU mp:=fun g hg=>by
  have key:∀ {m:List (ByteArray×Value)} {f:ByteArray->List ByteArray},(m.map (·.1)).Nodup->(∀n,RowIs W base m n (f n))->g∉zaU m:=fun {m f} hk hr h=>by
   obtain⟨e,he,eT⟩:=zcI.1 h;have h1:=zgp hk (show(e.1,e.2)∈m from he);rcases hr e.1 with⟨h2,_⟩|⟨v,h2,h3⟩
   ·rw[h2]at h1;cases h1
   ·exact Mbt
  exact⟨key kn1 k3,key kn2 k4⟩
 have R1:=zhJ (k:=fr) (v:=v1) q1 (fun g hg=>by
  rcases b1 g hg with h|h
  ·exact .inl ⟨va,jc g h,h⟩
  ·exact .inr (oF g h).1)
 have R2:=zhJ (k:=tn) (v:=v2) q2 (fun g hg=>by
  rcases b2 g hg with h|h
  ·exact .inl ⟨vb,jy g h,h⟩
  ·exact .inr (oF g h).2)
 have dD:∀g∈zaU (mput eqS fr v1 mc++mput eqS tn v2 mp),g∈B\/W.heap.size<=g:=fun g hg=>by
  rw[zc0,List.mem_append]at hg;rw[k5,zc0];rcases hg with hg|hg
  ·rcases R1.2 g hg with h|h
   ·exact .inl (List.mem_append_left _ h)
   ·rcases b1 g h with h|h
    ·exact .inl (List.mem_append_left _ (nP g h))
    ·exact .inr h
  ·rcases R2.2 g hg with h|h
   ·exact .inl (List.mem_append_right _ h)
   ·rcases b2 g h with h|h
    ·exact .inl (List.mem_append_right _ (dB g h))
    ·exact .inr h
 obtain⟨m,k7,k8⟩:=hP.wills;refine⟨_,d,c,p,wl,r,mv,tv,ps,hb,?_,⟨hP.nd,hP.ge,?_,⟨_,_,m1,m2,fun n=>?_,fun n=>?_,rfl,?_⟩,?_,⟨m,?_,fun n=>?_⟩,?_⟩,⟨?_,hT.len,hT.nd,fun i T g e1 e2=>?_⟩⟩
 ·exact(bl hC McA).trans hC
 ·obtain⟨es,x,hx⟩:=zbl hP.dead;exact hP.dead.keep (sz hx n1 n2)
 ·rw[kids_push];unfold RowIs;rw[zep];cases hn:zae n fr
  ·rw[zhK fr n,hn];simp only[Bool.false_eq_true,if_false,List.append_nil];rcases k3 n with h|⟨v,h1,h2⟩
   ·exact .inl h
   ·refine .inr ⟨v,h1,kr h1 h2 fun g hg=>⟨fun e=>?_,fun e=>?_⟩⟩
    ·exact zf4 hn q1 h1 (jc g e) hg e
    ·exact q3 g (zcI.2 ⟨_,zcH h1,hg⟩) g (dB g e) rfl
  ·rw[zhK fr n,hn];have e:n=fr:=zau.1 hn;subst e;exact .inr ⟨v1,rfl,o1⟩
 ·rw[pars_push];unfold RowIs;rw[zep];cases hn:zae n tn
  ·rw[zhK tn n,hn];simp only[Bool.false_eq_true,if_false,List.append_nil];rcases k4 n with h|⟨v,h1,h2⟩
   ·exact .inl h
   ·refine .inr ⟨v,h1,kr h1 h2 fun g hg=>⟨fun e=>?_,fun e=>?_⟩⟩
    ·exact q3 g (nP g e) g (zcI.2 ⟨_,zcH h1,hg⟩) rfl
    ·exact zf4 hn q2 h1 (jy g e) hg e
  ·rw[zhK tn n,hn];have e:n=tn:=zau.1 hn;subst e;exact .inr ⟨v2,rfl,o2⟩
 ·refine⟨?_,(zfc _ _ _ kn1).1,(zfc _ _ _ kn2).1⟩;rw[zc0,List.nodup_append];refine⟨R1.1,R2.1,fun g hg g' fB e=>?_⟩;subst e;rcases R1.2 g hg with h|h
  ·rcases R2.2 g fB with h'|h'
   ·exact q3 g h g h' rfl
   ·rcases b2 g h' with h'|h'
    ·exact q3 g h g (dB g h') rfl
    ·exact(oF g h').1 h
  ·rcases R2.2 g fB with h'|h'
   ·rcases b1 g h with h|h
    ·exact q3 g (nP g h) g h' rfl
    ·exact(oF g h).2 h'
   ·exact b12 g h h'
 ·exact hP.marr.same fun g cur _ hh=>bl hh McA
 ·obtain⟨es,x,hx⟩:=zbl k7;exact k7.keep (sz hx (fun e=>n6 e.symm) (fun e=>n8 e.symm))
 ·rcases k8 n with h|⟨A,x,h1,h2⟩
  ·exact .inl h
  ·exact .inr ⟨A,x,h1,h2.same fun g cur f hh _=>bl hh McA⟩
 ·obtain⟨es,x,hx⟩:=zbl hP.ren;exact hP.ren.keep (sz hx (fun e=>n7 e.symm) (fun e=>n9 e.symm))
 ·exact hT.own.same fun g cur _ hh=>bl hh McA
 ·obtain⟨H,hh,D,dc,f',t1,t2,t3,t4,t5,t6,t7⟩:=hT.all i T g e1 e2;refine⟨H,hh,D,dc,f',(bl t1 McA).trans t1,t2,t3,t4,t5.same fun g' cur f hx _=>bl hx McA,?_,fun hl a tN aH=>?_⟩
  ·intro hl;obtain⟨g',off,cur,f,hA,hx,hy⟩:=t6 hl;have Gg:=t7 hl ⟨g',off,none⟩ hA;refine⟨g',off,cur,f,hA,?_,hy⟩;rw[<-hx];refine hF g' (Array.getElem?_eq_some_iff.1 hx).1 (fun e=>by subst e;rw[hc]at hx;simp at hx) (fun e=>by subst e;rw[hp]at hx;simp at hx) (fun e=>Gg ?_) (fun e=>Gg ?_)
   ·rw[k5,zc0];exact List.mem_append_left _ (nP g' e)
   ·rw[k5,zc0];exact List.mem_append_right _ (dB g' e)
  ·obtain⟨g',off,cur,f,hA,hx,hy⟩:=t6 hl;rw[hA]at tN;simp only[Option.some.injEq]at tN;rcases dD _ aH with h|h
   ·exact t7 hl a (by rw[hA,tN]) h
   ·have:=(Array.getElem?_eq_some_iff.1 hx).1;rw[<-tN]at h;simp at h;omega
end
section
section
variable {P:Program} {ops:Array Oper} {Q:Exit->Act->World->Prop} {md:Region.Mode} {m:Nat} {S:Bool->World->Prop}
def zha(md:Region.Mode)(ops:Array Oper)(listed:Array Bool):Prop:= ∀(k:Nat) (o:Oper),ops[k]?=some o->listed.getD k false=true->∀e∈o.after,Region.binds md e=true->listed.getD e.on false=true
def zk2(md:Region.Mode)(ops:Array Oper)(listed:Array Bool):Bool:=(List.range ops.size).all fun k=>match ops[k]? with
 |some o=>!listed.getD k false||o.after.all fun e=>!Region.binds md e||listed.getD e.on false
 |none=>true
theorem closed_of{listed:Array Bool}(h:zk2 md ops listed=true):zha md ops listed:=fun k o ho hl e he hb=>by
 unfold zk2 at h;have h1:=List.all_eq_true.1 h k (List.mem_range.2 (Array.getElem?_eq_some_iff.1 ho).1);simp only[ho,hl,Bool.not_true,Bool.false_or]at h1;rw[Array.all_eq_true]at h1;obtain⟨j,hj,rfl⟩:=Array.mem_iff_getElem.1 he;have h2:=h1 j hj;rw[hb]at h2;simpa using h2
def needs(md:Region.Mode)(ops:Array Oper)(i:Nat):Nat->Nat->Bool
 |0,k=>k==i
 |f+1,k=>k==i||match ops[k]? with
  |some o=>o.after.any fun e=>Region.binds md e&&needs md ops i f e.on
  |none=>false
theorem znZ{i:Nat}{listed:Array Bool}(hc:zha md ops listed):∀(f k:Nat),needs md ops i f k=true->listed.getD k false=true->listed.getD i false=true
 |0,k,h,hl=>by
  have:k=i:=by simpa[needs]using h
  rw[<-this];exact hl
 |f+1,k,h,hl=>by
  unfold needs at h;rw[Bool.or_eq_true]at h;rcases h with h|h
  ·have:k=i:=by simpa using h
   rw[<-this];exact hl
  ·cases ho:ops[k]? with
   |none=>rw[ho]at h;cases h
   |some o=>
    rw[ho]at h;simp only at h;rw[Array.any_eq_true]at h;obtain⟨j,hj,h2⟩:=h;rw[Bool.and_eq_true]at h2;exact znZ hc f _ h2.2 (hc k o ho hl o.after[j] (Array.getElem_mem hj) h2.1)
theorem zoH{listed:Array Bool}{j:Nat}(hc:zha md ops listed)(hj:j∈Region.ready md ops listed):zha md ops (listed.setIfInBounds j true):=fun k o ho hl e he hb=>by
 obtain⟨h0,oj,iK,b9⟩:=mem_ready.1 hj;by_cases hjk:j=k
 ·subst hjk;rw[iK]at ho;simp only[Option.some.injEq]at ho;subst ho;exact getD_set_true (b9 e he hb)
 ·rw[getD_set_ne false hjk]at hl;exact getD_set_true (hc k o ho hl e he hb)
def zcq(P:Program)(md:Region.Mode)(ops:Array Oper)(Q:Exit->Act->World->Prop)(m:Nat)(S:Bool->World->Prop):Nat->Array Bool->Act->World->Prop
 |0,listed,a,w=>Region.ready md ops listed=[]/\Q .normal a w
 |fuel+1,listed,a,w=>
  (Region.ready md ops listed=[]->Q .normal a w)/\
  ∀i∈Region.ready md ops listed,wpOp P ops Q i (fun a' w'=>S ((listed.setIfInBounds i true).getD m false) w'/\zcq P md ops Q m S fuel (listed.setIfInBounds i true) a' w') a w
theorem zjI:∀(fuel:Nat) (listed:Array Bool) (a:Act) (w:World),zcq P md ops Q m S fuel listed a w->wpAny P md ops Q fuel listed a w
 |0,_,_,_,h=>h
 |fuel+1,_,_,_,h=>⟨h.1,fun i hi=>wpOp_mono (fun a' w' h'=>zjI fuel _ a' w' h'.2) (h.2 i hi)⟩
theorem zlF{i:Nat}{oi:Oper}{v:Value}(kn:i≠m)(hi:ops[i]?=some oi)(du:∀(j:Nat) (o:Oper) cs b,ops[j]?=some o->o.op≠ .select cs b)
 (hQ:∀c a w,Q (.panic c) (a.put oi.dst v) w->Q (.panic c) a w)(f0:Nat)(ai:needs md ops i f0 m=true):
 ∀(fuel:Nat) (listed:Array Bool) (a:Act) (w:World),zha md ops listed->
  (∀j oj,ops[j]?=some oj->j≠i->listed.getD j true=false->(∀e∈oj.after,Region.binds md e=true->e.on≠i)->oi.apart ops oj=true)->
  i∈Region.ready md ops listed->YieldsIf P ops (S false) oi v a->S false w->
  zcq P md ops Q m S fuel (listed.setIfInBounds i true) (a.put oi.dst v) w->zcq P md ops Q m S (fuel+1) listed a w:=by
 have dt:∀ {listed:Array Bool},zha md ops listed->i∈Region.ready md ops listed->listed.getD m false=false:=fun {listed} hc hr=>by
  cases hx:listed.getD m false with
  |false=>rfl
  |true=>
   have h1:=znZ hc f0 m ai hx;have h2:=getD_both (mem_ready.1 hr).1;rw[h2]at h1;cases h1
 intro fuel;induction fuel with
 |zero=>
  intro listed a w hc _ hr hy hS H;refine⟨fun h=>Mey,fun j hj=>?_⟩;by_cases cB:j=i
  ·exact MbO
  ·have:=ready_mono hj cB;rw[H.1]at this;cases this
 |succ fuel ih=>
  intro listed a w hc cP hr hy hS H;refine⟨fun h=>Mey,fun j hj=>?_⟩;by_cases cB:j=i
  ·exact MbO
  ·have h1:=H.2 j (ready_mono hj cB);obtain⟨jr,oj,iK,b9⟩:=mem_ready.1 hj;have mP:∀e∈oj.after,Region.binds md e=true->e.on≠i:=fun e he hb zO=>by
    exact Mbo
   have h2:=wpOp_putIf iK (cP j oj iK cB jr mP) (fun cs b=>du i oi cs b hi) (fun cs b=>du j oj cs b iK) hQ hy h1;have jp:∀k ok,ops[k]?=some ok->k≠i->(listed.setIfInBounds j true).getD k true=false->
    (∀e∈ok.after,Region.binds md e=true->e.on≠i)->oi.apart ops ok=true:=fun k ok hk ar dE cX=>by
    exact Mbd
   have aN:=zoH hc hj;have cq:=ready_mono hr (Ne.symm cB);have eD:((listed.setIfInBounds i true).setIfInBounds j true).getD m false=(listed.setIfInBounds j true).getD m false:=by
    rw[Array.setIfInBounds_comm _ _ (Ne.symm cB),getD_set_ne false kn]
   refine wpOp_mono (fun a' w' h3=>?_) h2;have h4:=h3.2.1;rw[eD]at h4;refine⟨h4,ih (listed.setIfInBounds j true) a' w' aN jp cq h3.1 ?_ ?_⟩
   ·rw[dt aN cq]at h4;exact h4
   ·rw[Array.setIfInBounds_comm _ _ cB];exact h3.2.2
theorem zmM{i:Nat}{oi:Oper}{v:Value}{fuel:Nat}{listed:Array Bool}{a:Act}{w:World}(f0:Nat)(hi:ops[i]?=some oi)(kn:i≠m)(ai:needs md ops i f0 m=true)(aW:zk2 md ops listed=true)
 (hs:Region.noSelect ops=true)(hf:Region.free md ops listed i=true)(hr:(Region.ready md ops listed).contains i=true)
 (hQ:∀c a w,Q (.panic c) (a.put oi.dst v) w->Q (.panic c) a w)(hy:YieldsIf P ops (S false) oi v a)(hS:S false w)
 (h:zcq P md ops Q m S fuel (listed.setIfInBounds i true) (a.put oi.dst v) w):zcq P md ops Q m S (fuel+1) listed a w:=
 zlF kn hi (Region.noSelect_spec hs) hQ f0 ai fuel listed a w (closed_of aW) (Region.free_spec hi hf) (by simpa using hr) hy hS h
theorem zk3{i:Nat}{oi:Oper}{v:Value}(kn:i≠m)(hi:ops[i]?=some oi)(du:∀(j:Nat) (o:Oper) cs b,ops[j]?=some o->o.op≠ .select cs b)
 (hQ:∀c a w,Q (.panic c) (a.put oi.dst v) w->Q (.panic c) a w):
 ∀(fuel:Nat) (listed:Array Bool) (a:Act) (w:World),
  (∀j oj,ops[j]?=some oj->j≠i->listed.getD j true=false->(∀e∈oj.after,Region.binds md e=true->e.on≠i)->oi.apart ops oj=true)->
  i∈Region.ready md ops listed->YieldsIf P ops (fun _=>True) oi v a->S (listed.getD m false) w->
  zcq P md ops Q m S fuel (listed.setIfInBounds i true) (a.put oi.dst v) w->zcq P md ops Q m S (fuel+1) listed a w:=by
 intro fuel;induction fuel with
 |zero=>
  intro listed a w _ hr hy hS H;refine⟨fun h=>Mey,fun j hj=>?_⟩;by_cases cB:j=i
  ·exact MbX
  ·have:=ready_mono hj cB;rw[H.1]at this;cases this
 |succ fuel ih=>
  intro listed a w cP hr hy hS H;refine⟨fun h=>Mey,fun j hj=>?_⟩;by_cases cB:j=i
  ·exact MbX
  ·have h1:=H.2 j (ready_mono hj cB);obtain⟨jr,oj,iK,b9⟩:=mem_ready.1 hj;have mP:∀e∈oj.after,Region.binds md e=true->e.on≠i:=fun e he hb zO=>by
    exact Mbo
   have h2:=wpOp_putIf iK (cP j oj iK cB jr mP) (fun cs b=>du i oi cs b hi) (fun cs b=>du j oj cs b iK) hQ hy h1;have jp:∀k ok,ops[k]?=some ok->k≠i->(listed.setIfInBounds j true).getD k true=false->
    (∀e∈ok.after,Region.binds md e=true->e.on≠i)->oi.apart ops ok=true:=fun k ok hk ar dE cX=>by
    exact Mbd
   have eD:((listed.setIfInBounds i true).setIfInBounds j true).getD m false=(listed.setIfInBounds j true).getD m false:=by
    rw[Array.setIfInBounds_comm _ _ (Ne.symm cB),getD_set_ne false kn]
   refine wpOp_mono (fun a' w' h3=>?_) h2;have h4:=h3.2.1;rw[eD]at h4;refine⟨h4,ih (listed.setIfInBounds j true) a' w' jp (ready_mono hr (Ne.symm cB)) h3.1 h4 ?_⟩;rw[Array.setIfInBounds_comm _ _ cB];exact h3.2.2
theorem zmN{i:Nat}{oi:Oper}{v:Value}{fuel:Nat}{listed:Array Bool}{a:Act}{w:World}(b:Bool)(hb:listed.getD m false=b)(hi:ops[i]?=some oi)(kn:i≠m)
 (hs:Region.noSelect ops=true)(hf:Region.free md ops listed i=true)(hr:(Region.ready md ops listed).contains i=true)
 (hQ:∀c a w,Q (.panic c) (a.put oi.dst v) w->Q (.panic c) a w)(hy:YieldsIf P ops (fun _=>True) oi v a)(hS:S b w)
 (h:zcq P md ops Q m S fuel (listed.setIfInBounds i true) (a.put oi.dst v) w):zcq P md ops Q m S (fuel+1) listed a w:=
 zk3 kn hi (Region.noSelect_spec hs) hQ fuel listed a w (Region.free_spec hi hf) (by simpa using hr) hy (by rw[hb];exact hS) h
def AllReadyM(P:Program)(md:Region.Mode)(ops:Array Oper)(Q:Exit->Act->World->Prop)(m:Nat)(S:Bool->World->Prop)(fuel:Nat)(listed:Array Bool)(a:Act)(w:World)(rs:List Nat):Prop:=
 ∀i∈rs,wpOp P ops Q i (fun a' w'=>S ((listed.setIfInBounds i true).getD m false) w'/\zcq P md ops Q m S fuel (listed.setIfInBounds i true) a' w') a w
theorem AllReadyM.nil{fuel:Nat}{listed:Array Bool}{a:Act}{w:World}:AllReadyM P md ops Q m S fuel listed a w []:=fun _ h=>by cases h
theorem AllReadyM.cons{fuel:Nat}{listed:Array Bool}{a:Act}{w:World}{i:Nat}{o:Oper}{rs:List Nat}(ho:ops[i]?=some o)(b:Bool)(hb:(listed.setIfInBounds i true).getD m false=b)
 (h:∀K':Act->World->Prop,Shut (∀a w,S b w->(S b w->zcq P md ops Q m S fuel (listed.setIfInBounds i true) a w)->K' a w)->if Region.wanted o (yielded ops a.tmps)=true then Oper.wp P o a w K' Q else K' (a.put o.dst undef) w)
 (hs:AllReadyM P md ops Q m S fuel listed a w rs):AllReadyM P md ops Q m S fuel listed a w (i::rs):=fun j hj=>by
 rcases List.mem_cons.1 hj with rfl|hj
 ·rw[hb];exact wpOp_step ho (fun K' hK=>h K' (fun a w hS hW=>hK a w ⟨hS,hW hS⟩))
 ·exact hs j hj
theorem zhv{rs:List Nat}{fuel:Nat}{listed:Array Bool}{a:Act}{w:World}(hr:Region.ready md ops listed=rs)(ai:rs≠[])
 (h:AllReadyM P md ops Q m S fuel listed a w rs):zcq P md ops Q m S (fuel+1) listed a w:=⟨fun h0=>absurd (hr▸h0) ai,hr▸h⟩
theorem zaM{listed:Array Bool}{a:Act}{w:World}(hr:Region.ready md ops listed=[])(h:Q .normal a w):∀fuel,zcq P md ops Q m S fuel listed a w
 |0=>⟨hr,h⟩
 |_+1=>⟨fun _=>h,by rw[hr];simp⟩
theorem zaB{id:Nat}{a:Act}{w:World}(m:Nat)(S:Bool->World->Prop)(hm:P.follows .mixedOrders=true)(hS:S false w.drew)
 (h:S false w.drew->zcq P .any ops Q m S ops.size (Array.replicate ops.size false) a w.drew):(Code.region id ops true).wp P Q a w:=
 wp_region_any hm (zjI _ _ _ _ (h hS))
end
theorem TkM{P:Program}{ops:Array Oper}{Q:Exit->Act->World->Prop}{md:Region.Mode}{m:Nat}{S:Bool->World->Prop}(i:Nat){oi:Oper}{v:Value}{fuel:Nat}{listed:Array Bool}{a a':Act}{w:World}(h:zcq P md ops Q m S fuel (listed.setIfInBounds i true) a' w)(hi:ops[i]?=some oi:=by exact List.getElem?_toArray.trans rfl)(kn:i≠m:=by decide)(ai:needs md ops i 9 m=true:=by kernel_rfl)(aW:zk2 md ops listed=true:=by kernel_rfl)
 (hs:Region.noSelect ops=true:=by kernel_rfl)(hf:Region.free md ops listed i=true:=by kernel_rfl)(hr:(Region.ready md ops listed).contains i=true:=by kernel_rfl)
 (hQ:∀c a w,Q (.panic c) (a.put oi.dst v) w->Q (.panic c) a w:=by exact fun _ _ _ h=>h)(hy:YieldsIf P ops (S false) oi v a:=by(refine Or.inl ⟨by rfl,?_⟩;intro w tK;(try dsimp only at tK);replace tK:=tK.resolve_left Bool.false_ne_true;go_simp;first|done|with_reducible rfl))(hS:S false w:=by assumption)
 (ha:a.put oi.dst v=a':=by((try simp only[Act.put,List.setIfInBounds_toArray,List.set_cons_zero,List.set_cons_succ]);rfl)):zcq P md ops Q m S (fuel+1) listed a w:=
 zmM 9 hi kn ai aW hs hf hr hQ hy hS (ha▸h)
theorem OnM{P:Program}{ops:Array Oper}{Q:Exit->Act->World->Prop}{md:Region.Mode}{m:Nat}{S:Bool->World->Prop}(i:Nat)(b:Bool){o:Oper}{fuel:Nat}{listed:Array Bool}{a:Act}{w:World}(h:∀K':Act->World->Prop,Shut (∀a w,S b w->(S b w->zcq P md ops Q m S fuel (listed.setIfInBounds i true) a w)->K' a w)->if Region.wanted o (yielded ops a.tmps)=true then Oper.wp P o a w K' Q else K' (a.put o.dst undef) w)
 (hr:Region.ready md ops listed=[i]:=by kernel_rfl)(ho:ops[i]?=some o:=by exact List.getElem?_toArray.trans rfl)(hb:(listed.setIfInBounds i true).getD m false=b:=by kernel_rfl):zcq P md ops Q m S (fuel+1) listed a w:=zhv (rs:=[i]) hr McB (AllReadyM.cons ho b hb h AllReadyM.nil)
theorem FrM{P:Program}{ops:Array Oper}{Q:Exit->Act->World->Prop}{md:Region.Mode}{m:Nat}{S:Bool->World->Prop}(i:Nat)(b:Bool){oi:Oper}{v:Value}{fuel:Nat}{listed:Array Bool}{a a':Act}{w:World}(h:zcq P md ops Q m S fuel (listed.setIfInBounds i true) a' w)(hb:listed.getD m false=b:=by kernel_rfl)(hi:ops[i]?=some oi:=by exact List.getElem?_toArray.trans rfl)(kn:i≠m:=by decide)
 (hs:Region.noSelect ops=true:=by kernel_rfl)(hf:Region.free md ops listed i=true:=by kernel_rfl)(hr:(Region.ready md ops listed).contains i=true:=by kernel_rfl)
 (hQ:∀c a w,Q (.panic c) (a.put oi.dst v) w->Q (.panic c) a w:=by exact fun _ _ _ h=>h)(hy:YieldsIf P ops (fun _=>True) oi v a:=by(refine Or.inl ⟨by rfl,?_⟩;intro w tK;go_simp;first|done|with_reducible rfl))(hS:S b w:=by first|assumption|trivial)
 (ha:a.put oi.dst v=a':=by((try simp only[Act.put,List.setIfInBounds_toArray,List.set_cons_zero,List.set_cons_succ]);rfl)):zcq P md ops Q m S (fuel+1) listed a w:=
 zmN b hb hi kn hs hf hr hQ hy hS (ha▸h)
theorem TwM{P:Program}{ops:Array Oper}{Q:Exit->Act->World->Prop}{md:Region.Mode}{m:Nat}{S:Bool->World->Prop}(i j:Nat){o p:Oper}{fuel:Nat}{listed:Array Bool}{a:Act}{w:World}(h:∀K':Act->World->Prop,Shut (∀a w,S false w->(S false w->zcq P md ops Q m S fuel (listed.setIfInBounds i true) a w)->K' a w)->if Region.wanted o (yielded ops a.tmps)=true then Oper.wp P o a w K' Q else K' (a.put o.dst undef) w)(k:∀K':Act->World->Prop,Shut (∀a w,S false w->(S false w->zcq P md ops Q m S fuel (listed.setIfInBounds j true) a w)->K' a w)->if Region.wanted p (yielded ops a.tmps)=true then Oper.wp P p a w K' Q else K' (a.put p.dst undef) w)
 (hr:Region.ready md ops listed=[i,j]:=by kernel_rfl)(ho:ops[i]?=some o:=by exact List.getElem?_toArray.trans rfl)(hp:ops[j]?=some p:=by exact List.getElem?_toArray.trans rfl)(hb:(listed.setIfInBounds i true).getD m false=false:=by kernel_rfl)(hc:(listed.setIfInBounds j true).getD m false=false:=by kernel_rfl):zcq P md ops Q m S (fuel+1) listed a w:=zhv (rs:=[i,j]) hr McB (AllReadyM.cons ho false hb h (AllReadyM.cons hp false hc k AllReadyM.nil))
end
open Go.RowKit Go.Shelf
theorem given_nil{n:ByteArray}{q:Rat}(h:q≠0):za3 [] n q=[(n,q)]:=by
 unfold za3;rw[if_neg Mdl]
theorem zoI{p:ByteArray×Rat}{r:Parts}{n:ByteArray}{q:Rat}(h:q≠0):za3 (p::r) n q=if zbh p.1 n then p::za3 r n q else if zae p.1 n then(n,p.2+q)::r else(n,q)::p::r:=by
 rw[za3,if_neg Mdl]
theorem given_zer(l:Parts)(n:ByteArray):za3 l n 0=l:=by
 cases l with
 |nil=>rfl
 |cons p r=>rw[za3,if_pos McB]
def zlG(done:Bool)(l:Parts)(n:ByteArray)(q:Rat):Parts:=if done then l else za3 l n q
theorem zcT(l:Parts)(n:ByteArray)(q:Rat)(A:Option Addr)(c:Nat)(w:World)(hl:l.length<=100000)(hs:∀p∈l,zaI p.2)(hq:zaI q)(hS:Sl w 3 zaa A l):Calls Tryz.prog 166 #[.slice A l.length c,.string n,zaA q] w (zg2 w (za3 l n q)):=by
 obtain⟨fY,nk,HQ⟩:=yH3 hS hs hq;obtain⟨R,hR⟩:∃R,R=za3 l n q:=⟨_,rfl⟩
 rw[<-hR];have HR:=zHi hR;unfold zg2 zaA;clear hS hs hq hR;go_enter Tryz.func166,Tryz.ntmps166
 go_upto_region 2 with fail
 obtain⟨W0,am⟩:∃W0,W0=w.alloc (.cells #[.int .i64 q.num,.int .i64 q.den] 31):=⟨_,rfl⟩
 have b0:W0.heap[w.heap.size]?=some (.cells #[.int .i64 q.num,.int .i64 q.den] 31):=Mdp;have aK:Below w.heap.size w W0:=Mdb;rw[<-am];obtain⟨aj,HS⟩:=yH2 aK (fY.o.keep aK);obtain⟨c0,c1⟩:=cF2 b0;have l0:=zab b0;clear am b0 aK fY;go_upto_region 4 with fail
 go_loopw [7,8,9] (fun v d i wr=>∃(k:Nat) (done:Bool) (out:Parts),k<=l.length/\d=.bool done/\i=.int .i64 k/\Hid (R=out++zlG done (l.drop k) n q)/\Hid (done=false->q≠0)/\Hid (out.length<=k+(if done then 1 else 0))/\OwnS wr W0.heap.size 71 3 zaa v out/\Below W0.heap.size W0 wr) (fun _ _ i _=>l.length-(intOf i).toNat)
 case atStart=>
  refine⟨0,q.num==0,[],Nat.zero_le _,rfl,rfl,zHi ?_,zHi ?_,zHi McB,OwnS.nil,Below.refl _ _⟩
  ·rw[List.drop_zero,List.nil_append,HR.o];unfold zlG;cases hz:q.num==0
   ·rfl
   ·have:q=0:=Rat.num_eq_zero.1 MdD;rw[this,given_zer];rfl
  ·intro h e;rw[e]at h;exact absurd h McA
 case round=>
  obtain⟨k,done,out,hk,rfl,rfl,HX,HD,qS,aa,hB⟩:=hrel;have aG:=hB.size;obtain⟨HO,HB⟩:=yH2 aa hB;have BA:Hid (out.length<=k+1):=by show _<=_;have:=qS.o;split at this<;>omega
  have fN:Hid (out.length<=200000):=by show _<=_;have:=BA.o;omega
  obtain⟨VA,vc,rfl,_,kB⟩:=aa.sl zap;have d0:wr.cell? ⟨w.heap.size,0,none⟩=some (.int .i64 q.num):=(zah hB l0).trans c0;have d1:wr.cell? ⟨w.heap.size,1,none⟩=some (.int .i64 q.den):=(zah hB l0).trans c1;have cG:w.heap.size<wr.heap.size:=Mcy;by_cases ae:k<l.length
  ·obtain⟨b,off,rfl,hb,ah⟩:=HS.o.at ae;have hx:=HX.o;rw[List.drop_eq_getElem_cons ae]at hx;have bU:=nk.o _ (List.getElem_mem ae);have ak:=zHi ae;generalize l[k]=x at*;obtain⟨nm,r⟩:=x;have e0:W0.cell? ⟨b,off+k*3,none⟩=some (.string nm):=ah 0 _ rfl;have e1:W0.cell? ⟨b,off+k*3+1,none⟩=some (.int .i64 r.num):=ah 1 _ rfl;have e2:W0.cell? ⟨b,off+k*3+2,none⟩=some (.int .i64 r.den):=ah 2 _ rfl;have i0:wr.cell? ⟨b,off+k*3,none⟩=some (.string nm):=(zah hB hb).trans e0;have i1:wr.cell? ⟨b,off+k*3+1,none⟩=some (.int .i64 r.num):=(zah hB hb).trans e1;have i2:wr.cell? ⟨b,off+k*3+2,none⟩=some (.int .i64 r.den):=(zah hB hb).trans e2;have ar:(k:Int)<(l.length:Int):=Mcy;have aQ:(0:Int)<=(k:Int):=Mcy;obtain⟨au,ib⟩:=yH2 hx bU;clear ah ae aa hB hx bU;cases done
   ·have gC:=HD.o rfl;have hx:=au.o;rw[show zlG false ((nm,r)::l.drop (k+1)) n q=za3 ((nm,r)::l.drop (k+1)) n q from rfl,zoI gC]at hx;have Iy:=zHi gC;cases iH:zbh nm n
    ·have D7:Op.bytesLess nm.toList n.toList=false:=iH;rw[iH,if_neg McB]at hx;cases cR:zae nm n
     ·have bn:(nm.toList==n.toList)=false:=cR;rw[cR,if_neg McB]at hx;have eL:=zHi hx;clear hx iH cR gC
      go_upto_region 11 with(at_builtin
                             go_loud(refine zat (v:=.slice VA out.length vc) (n:=out.length) (m:=1) rfl _ _ rfl zdN zap zcb rfl (xs:=out) (ys:=[(n,q)]) (HO.o.keep (n:=wr.heap.size) Bw) rfl rfl rfl (zde (zar _ _ _ rfl)) Mc7 Mdh McD ?_)
                             intro v3 w3 h1 h2 h3;have ax:=Below.grown (B:=W0.heap.size) (a:=W0) (HB.o.trans (Below.mono (B:=wr.heap.size) (zad (Below.refl _ _) _) aG)) h2 McD (fun j hj=>(HO.o.ge j hj).1);obtain⟨H1,aD⟩:=yH2 h1 ax
                             clear h1 h2 h3 ax)
      obtain⟨VB,vb,GD,_,La⟩:=H1.o.sl zap;rw[List.length_append]at GD;subst GD;have je:=aD.o.size;have j0:w3.cell? ⟨b,off+k*3,none⟩=some (.string nm):=(zah aD.o hb).trans e0;have j1:w3.cell? ⟨b,off+k*3+1,none⟩=some (.int .i64 r.num):=(zah aD.o hb).trans e1;have j2:w3.cell? ⟨b,off+k*3+2,none⟩=some (.int .i64 r.den):=(zah aD.o hb).trans e2
      go_wp2_with (at_builtin
                   go_loud(refine zat (v:=.slice VB (out.length+[(n,q)].length) vb) (n:=out.length+[(n,q)].length) (m:=1) rfl _ _ rfl zdN zap zcb rfl (xs:=out++[(n,q)]) (ys:=[(nm,r)]) (H1.o.keep (n:=w3.heap.size) Bw) McB rfl rfl (zde (zar _ _ _ rfl)) Mc7 (by have:=fN.o;simp;omega) McD ?_)
                   intro v4 w4 g1 g2 g3;have aC:=Below.grown (B:=W0.heap.size) (a:=W0) (aD.o.trans (Below.mono (B:=w3.heap.size) (zad (Below.refl _ _) _) je)) g2 McD (fun j hj=>(H1.o.ge j hj).1);obtain⟨G1,cM⟩:=yH2 g1 aC
                   clear g1 g2 g3 aC)
      go_round
      case rel=>exact⟨k+1,true,out++[(n,q)]++[(nm,r)],ak.o,rfl,by go_num,zHi (by rw[eL.o,List.append_assoc,List.append_assoc];rfl),zHi (fun h=>by cases h),zHi (by have:=qS.o;simp at this⊢;omega),G1.o,cM.o⟩
      case measure=>have:=ak.o;simp only[intOf];omega
     ·have bn:(nm.toList==n.toList)=true:=cR;rw[cR,if_pos rfl]at hx;have eL:=zHi hx;clear hx iH cR gC;have bk:b<wr.heap.size:=Nat.lt_of_lt_of_le hb aG;obtain⟨aE,jQ⟩:=yH2 (fun(w':World) (h:Below wr.heap.size wr w')=>(show w'.cell? ⟨b,off+k*3+1,none⟩=some (.int .i64 r.num)/\w'.cell? ⟨b,off+k*3+2,none⟩=some (.int .i64 r.den)/\w'.cell? ⟨w.heap.size,0,none⟩=some (.int .i64 q.num)/\w'.cell? ⟨w.heap.size,1,none⟩=some (.int .i64 q.den) from⟨(zah h bk).trans i1,(zah h bk).trans i2,(zah h cG).trans d0,(zah h cG).trans d1⟩)) (fun W=>znU r q W ib.o HQ.o);unfold zaA at jQ;go_upto_region 9 with fail
      refine zaB 11 (fun bb w'=>bb=true\/(w'.cell? ⟨b,off+k*3+1,none⟩=some (.int .i64 r.num)/\w'.cell? ⟨b,off+k*3+2,none⟩=some (.int .i64 r.den)/\w'.cell? ⟨w.heap.size,0,none⟩=some (.int .i64 q.num)/\w'.cell? ⟨w.heap.size,1,none⟩=some (.int .i64 q.den))) Mcz (.inr (aE.o _ (zaK (Below.refl _ _)))) ?hrest
      case hrest=>
       intro hHeld;refine TkM 0 ?_;refine TkM 1 ?_;refine TkM 2 ?_;refine TkM 3 ?_;refine TkM 4 ?_;refine TkM 5 ?_;refine TkM 6 ?_;refine TkM 7 ?_;refine OnM 8 false fun K hK=>?_
       go_simp
       refine(jQ.o _).mono ?_;rintro e w5 ⟨rfl,z,rfl⟩;have ao:Below wr.heap.size wr (wr.drew.ext z):=zbv (zaK (Below.refl _ _)) z;refine NxM hK (fun hHeld=>?_) (.inr (aE.o _ ao));clear hK K;refine TkM 9 ?_;refine OnM 10 false fun K hK=>?_
       go_simp
       have aP:Below wr.heap.size wr ((wr.drew.ext z).alloc (.cells #[.string n,.int .i64 (r+q).num,.int .i64 (r+q).den] 71)):=zad ao _;have n6:((wr.drew.ext z).alloc (.cells #[.string n,.int .i64 (r+q).num,.int .i64 (r+q).den] 71)).heap[(wr.drew.ext z).heap.size]?=some (.cells #[.string n,.int .i64 (r+q).num,.int .i64 (r+q).den] 71):=zar _ _ _ rfl;refine NxM hK (fun hHeld=>?_) (.inr (aE.o _ aP));clear hK K;refine OnM 11 true fun K hK=>?_
       refine zak (v:=.slice VA out.length vc) (n:=out.length) (m:=1) rfl _ _ rfl zdN zap zcb rfl (xs:=out) (ys:=[(n,r+q)]) (HO.o.keep (n:=wr.heap.size) aP) rfl rfl rfl (zde (zar _ _ _ MdO)) (by have:=fN.o;simp only[maxLen];omega) Mdh MdM ?_;intro v7 w7 h1 h2 h3;obtain⟨A7,c7,kA,_,_⟩:=h1.sl zap;rw[List.length_append]at kA;subst kA;have bQ:Below W0.heap.size W0 w7:=Below.grown (HB.o.trans (aP.mono aG)) h2 MdM (fun j hj=>(HO.o.ge j hj).1);refine NxM hK fun hHeld=>?_
       clear hK K;refine OnM 12 true fun K hK=>?_
       go_simp
       refine NxM hK fun hHeld=>?_
       clear hK K;refine zaM Mcz ?_ _;clear hHeld;obtain⟨H7,cj⟩:=yH2 h1 bQ;clear h1 h2 h3 bQ;go_wp2_with fail
       go_round
       case rel=>exact⟨k+1,true,out++[(n,r+q)],ak.o,rfl,by go_num,zHi (by rw[eL.o,List.append_assoc];rfl),zHi (fun h=>by cases h),zHi Mdq,H7.o,cj.o⟩
       case measure=>have:=ak.o;simp only[intOf];omega
    ·have D7:Op.bytesLess nm.toList n.toList=true:=iH;rw[iH,if_pos rfl]at hx;have eL:=zHi hx;clear hx iH gC
     go_wp2_with (at_builtin
                  go_loud(refine zat (v:=.slice VA out.length vc) (n:=out.length) (m:=1) rfl _ _ rfl zdN zap zcb rfl (xs:=out) (ys:=[(nm,r)]) (HO.o.keep (n:=wr.heap.size) Bw) rfl rfl rfl (zde (zar _ _ _ rfl)) Mc7 Mdh McD ?_)
                  intro v3 w3 h1 h2 h3;have ax:=Below.grown (B:=W0.heap.size) (a:=W0) (HB.o.trans (Below.mono (B:=wr.heap.size) (zad (Below.refl _ _) _) aG)) h2 McD (fun j hj=>(HO.o.ge j hj).1);obtain⟨H1,aD⟩:=yH2 h1 ax
                  clear h1 h2 h3 ax)
     go_round
     case rel=>exact⟨k+1,false,out++[(nm,r)],ak.o,rfl,by go_num,zHi (by rw[eL.o,List.append_assoc];rfl),zHi (fun _=>Iy.o),zHi Mdq,H1.o,aD.o⟩
     case measure=>have:=ak.o;simp only[intOf];omega
   ·go_wp2_with (at_builtin
                 go_loud(refine zat (v:=.slice VA out.length vc) (n:=out.length) (m:=1) rfl _ _ rfl zdN zap zcb rfl (xs:=out) (ys:=[(nm,r)]) (HO.o.keep (n:=wr.heap.size) Bw) rfl rfl rfl (zde (zar _ _ _ rfl)) Mc7 Mdh McD ?_)
                 intro v3 w3 h1 h2 h3;have ax:=Below.grown (B:=W0.heap.size) (a:=W0) (HB.o.trans (Below.mono (B:=wr.heap.size) (zad (Below.refl _ _) _) aG)) h2 McD (fun j hj=>(HO.o.ge j hj).1);obtain⟨H1,aD⟩:=yH2 h1 ax
                 clear h1 h2 h3 ax)
    go_round
    case rel=>exact⟨k+1,true,out++[(nm,r)],ak.o,rfl,by go_num,zHi (by rw[au.o,List.append_assoc];rfl),zHi (fun h=>by cases h),zHi Mdq,H1.o,aD.o⟩
    case measure=>have:=ak.o;simp only[intOf];omega
  ·have ar:¬(k:Int)<(l.length:Int):=Mcy;have hx:=HX.o;rw[List.drop_of_length_le Mcy]at hx;clear aa hB;cases done
   ·have gC:=HD.o rfl;rw[show zlG false [] n q=za3 [] n q from rfl,given_nil gC]at hx;have au:=zHi hx;clear hx gC
    go_wp2_with (at_builtin
                 go_loud(refine zat (v:=.slice VA out.length vc) (n:=out.length) (m:=1) rfl _ _ rfl zdN zap zcb rfl (xs:=out) (ys:=[(n,q)]) (HO.o.keep (n:=wr.heap.size) Bw) rfl rfl rfl (zde (zar _ _ _ rfl)) Mc7 Mdh McD ?_)
                 intro v3 w3 h1 h2 h3;have ax:=Below.grown (B:=W0.heap.size) (a:=W0) (HB.o.trans (Below.mono (B:=wr.heap.size) (zad (Below.refl _ _) _) aG)) h2 McD (fun j hj=>(HO.o.ge j hj).1);obtain⟨H1,aD⟩:=yH2 h1 ax
                 clear h1 h2 h3 ax)
    go_ret
    exact⟨_,rfl,by rw[au.o];exact H1.o.base_le aj.o.size,aj.o.trans (aD.o.mono aj.o.size)⟩
   ·rw[show zlG true [] n q=[]from rfl,List.append_nil]at hx;have au:=zHi hx;clear hx;go_wp2_with fail
    go_ret
    exact⟨_,rfl,by rw[au.o];exact HO.o.base_le aj.o.size,aj.o.trans (HB.o.mono aj.o.size)⟩
