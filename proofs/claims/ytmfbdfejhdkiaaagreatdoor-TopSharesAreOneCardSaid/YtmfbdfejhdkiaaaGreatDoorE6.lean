/- Walk of the reference's Given. -/
import Derived.Test.YtmfbdfejhdkiaaaGreatDoorE2
set_option linter.all false
set_option maxRecDepth 100000
set_option maxHeartbeats 4000000
namespace Go.Proofs.YtmfbdfejhdkiaaaGreatDoor
open Go.RowKit Go.Shelf
attribute [local go_sem] World.cell?_alloc_mark zae za4 zao za8 zav zaw zax zay zaz za0 za1
attribute [local go_sem] zap zac
theorem zdf{m:List (ByteArray×Value)}{g:Nat}:g∈zaY m↔ ∃e∈m,za6 e.2=some g:=by
 unfold zaY;rw[List.mem_filterMap]
theorem zc1(e:ByteArray×Value)(m:List (ByteArray×Value)):zaY (e::m)=(za6 e.2).toList++zaY m:=by
 unfold zaY;rw[List.filterMap_cons];cases h:za6 e.2<;>simp
theorem zc2(m l:List (ByteArray×Value)):zaY (m++l)=zaY m++zaY l:=by
 unfold zaY;exact List.filterMap_append
theorem zk6{k:ByteArray}{v:Value}:∀ {m:List (ByteArray×Value)},(zaY m).Nodup->(∀g,za6 v=some g->(∃v0,mget eqS k m=some v0/\za6 v0=some g)\/g∉zaY m)->
 (zaY (mput eqS k v m)).Nodup/\∀g∈zaY (mput eqS k v m),g∈zaY m\/za6 v=some g
 | [],_,_=>by
   rw[mput,zc1];have e:zaY []=[]:=rfl;rw[e];cases h:za6 v<;>simp
 |x::m,hn,hv=>by
  rw[zc1,List.nodup_append]at hn;obtain⟨n1,n2,n3⟩:=hn;rw[mput];cases hk:eqS k x.1
  ·rw[if_neg Mcv];have jG:∀g,za6 v=some g->(∃v0,mget eqS k m=some v0/\za6 v0=some g)\/g∉zaY m:=fun g hg=>by
    rcases hv g hg with⟨v0,h1,h2⟩|h
    ·rw[mget,hk]at h1;exact .inl ⟨v0,by simpa using h1,h2⟩
    ·exact .inr fun h'=>h (by rw[zc1];exact List.mem_append_right _ h')
   obtain⟨i1,i2⟩:=zk6 n2 jG;rw[zc1,List.nodup_append];refine⟨⟨n1,i1,fun a ha b hb e=>?_⟩,fun g hg=>?_⟩
   ·subst e;rcases i2 _ hb with h|h
    ·exact n3 a ha a h rfl
    ·rcases hv a h with⟨v0,h1,h2⟩|h'
     ·rw[mget,hk]at h1;have pU:mget eqS k m=some v0:=McZ;exact n3 a ha a (zdf.2 ⟨_,zdc pU,h2⟩) rfl
     ·exact h' (by rw[zc1];exact List.mem_append_left _ ha)
   ·rw[List.mem_append]at hg;rcases hg with hg|hg
    ·exact .inl (by rw[zc1];exact List.mem_append_left _ hg)
    ·rcases i2 g hg with h|h
     ·exact .inl (by rw[zc1];exact List.mem_append_right _ h)
     ·exact .inr h
  ·rw[if_pos rfl,zc1,List.nodup_append];have hx:mget eqS k (x::m)=some x.2:=by rw[mget,hk];rfl
   refine⟨⟨by cases h:za6 v<;>simp,n2,fun a ha b hb e=>?_⟩,fun g hg=>?_⟩
   ·subst e;have l9:za6 v=some a:=by
     cases h:za6 v with
     |none=>simp[h]at ha
     |some y=>simp[h]at ha;rw[ha]
    rcases hv a l9 with⟨v0,h1,h2⟩|h'
    ·rw[hx]at h1;simp only[Option.some.injEq]at h1;subst h1;exact n3 a (by rw[h2];simp) a hb rfl
    ·exact h' (by rw[zc1];exact List.mem_append_right _ hb)
   ·rw[List.mem_append]at hg;rcases hg with hg|hg
    ·cases h:za6 v with
     |none=>simp[h]at hg
     |some y=>simp[h]at hg;exact .inr (by rw[hg])
    ·exact .inl (by rw[zc1];exact List.mem_append_right _ hg)
theorem zhq{k n:ByteArray}{v v0:Value}{g:Nat}(ag:zaf n k=false):∀ {m:List (ByteArray×Value)},(zaY m).Nodup->mget eqS n m=some v->mget eqS k m=some v0->za6 v=some g->za6 v0≠some g
 | [],_,h,_,_=>by cases h
 |x::m,hn,h1,h2,h3=>fun h4=>by
  rw[zc1,List.nodup_append]at hn;obtain⟨n1,n2,n3⟩:=hn;rw[mget]at h1 h2;cases ha:eqS n x.1
  ·rw[ha]at h1;simp only[Bool.false_eq_true,if_false]at h1;cases hb:eqS k x.1
   ·rw[hb]at h2;simp only[Bool.false_eq_true,if_false]at h2;exact zhq ag n2 h1 h2 h3 h4
   ·rw[hb]at h2;simp only[if_true,Option.some.injEq]at h2;subst h2;exact n3 g (by rw[h4];simp) g (zdf.2 ⟨_,zdc h1,h3⟩) rfl
  ·rw[ha]at h1;simp only[if_true,Option.some.injEq]at h1;subst h1;cases hb:eqS k x.1
   ·rw[hb]at h2;simp only[Bool.false_eq_true,if_false]at h2;exact n3 g (by rw[h3];simp) g (zdf.2 ⟨_,zdc h2,h4⟩) rfl
   ·have e1:n=x.1:=za3.1 ha;have e2:k=x.1:=za3.1 hb;rw[e1,e2,zce]at ag;cases ag
theorem kids_push(s:St)(f t n:ByteArray):zaj {s with children:=s.children++[(f,t)]} n=zaj s n++if zaf f n then[t]else[]:=by
 unfold zaj;simp only[List.filter_append,List.map_append,List.filter_cons,List.filter_nil];cases zaf f n<;>simp
theorem pars_push(s:St)(f t n:ByteArray):zbM {s with children:=s.children++[(f,t)]} n=zbM s n++if zaf t n then[f]else[]:=by
 unfold zbM;simp only[List.filter_append,List.map_append,List.filter_cons,List.filter_nil];cases zaf t n<;>simp
theorem row_own{W:World}{base:Nat}{m:List (ByteArray×Value)}{n:ByteArray}{xs:List ByteArray}(h:RowIs W base m n xs):∃A c,(mget eqS n m).getD (.slice none 0 0)=.slice A xs.length c/\OwnS W base 9 1 sC (.slice A xs.length c) xs/\(∀g,za6 (.slice A xs.length c)=some g->mget eqS n m=some (.slice A xs.length c)):=by
 rcases h with⟨h1,rfl⟩|⟨v,h1,h2⟩
 ·exact⟨none,0,by rw[h1];rfl,OwnS.nil,fun g hg=>by cases hg⟩
 ·obtain⟨A,c,rfl,_,_⟩:=h2.sl zaH;exact⟨A,c,by rw[h1];rfl,h2,fun _ _=>h1⟩
theorem zhV(a b:ByteArray):zaf a b=zaf b a:=by rw[Bool.eq_iff_iff,za3,za3];exact⟨Eq.symm,Eq.symm⟩
theorem OwnS.same{α:Type}{W W':World}{base:Nat}{e:TypeId}{size:Nat}{f:α->List Value}{v:Value}{xs:List α}(h:OwnS W base e size f v xs)(hk:∀g cur,za6 v=some g->W.heap[g]?=some (.cells cur e (0,0))->W'.heap[g]?=W.heap[g]?):OwnS W' base e size f v xs:=by
 rcases h with h|⟨g,o,cap,cur,rfl,hb,hh,rest⟩
 ·exact .inl h
 ·exact .inr ⟨g,o,cap,cur,rfl,hb,(hk g cur rfl hh).trans hh,rest⟩
theorem zfu{W:World}{base:Nat}{v:Value}{xs:List ByteArray}(h:OwnS W base 9 1 sC v xs){g:Nat}(hg:za6 v=some g):∃cur,W.heap[g]?=some (.cells cur 9 (0,0)):=by
 rcases h with⟨rfl,_⟩|⟨k,o,c,cur,rfl,_,hk,_⟩
 ·cases hg
 ·simp only[za6,Option.some.injEq]at hg;subst hg;exact⟨cur,hk⟩
theorem wld_child{base b:Nat}{W w9:World}{B ps:List Nat}{d c p wl r:Nat}{mv tv va vb v1 v2:Value}{s:St}{la co:Int}{mc mp:List (ByteArray×Value)}{fr tn:ByteArray}(hb:base<=b)(hC:WldC W b d c p wl r mv tv la co)(hP:PplAt base W B d c p wl r mv s)(hT:TombsAt base W B tv ps s.graves)
 (k1:MapS W c ekS (fun v:Value=>v) mc)(k2:MapS W p ekS (fun v:Value=>v) mp)(k3:∀n,RowIs W base mc n (zaj s n))(k4:∀n,RowIs W base mp n (zbM s n))(k5:B=zaY (mc++mp))(k6:B.Nodup/\(mc.map (·.1)).Nodup/\(mp.map (·.1)).Nodup)
 (ha:OwnS W base 9 1 sC va (zaj s fr))(l9:∀g,za6 va=some g->mget eqS fr mc=some va)(hv:OwnS W base 9 1 sC vb (zbM s tn))(jG:∀g,za6 vb=some g->mget eqS tn mp=some vb)
 (o1:OwnS w9 base 9 1 sC v1 (zaj s fr++[tn]))(o2:OwnS w9 base 9 1 sC v2 (zbM s tn++[fr]))(b1:∀g,za6 v1=some g->za6 va=some g\/W.heap.size<=g)(b2:∀g,za6 v2=some g->za6 vb=some g\/W.heap.size<=g)(b12:∀g,za6 v1=some g->za6 v2≠some g)
 (m1:MapS w9 c ekS (fun v:Value=>v) (mput eqS fr v1 mc))(m2:MapS w9 p ekS (fun v:Value=>v) (mput eqS tn v2 mp))(hF:∀k,k<W.heap.size->k≠c->k≠p->za6 va≠some k->za6 vb≠some k->w9.heap[k]?=W.heap[k]?):WldAt base w9 b {s with children:=s.children++[(fr,tn)]} la co:=by
 have cR:=hP.nd;simp only[List.nodup_cons,List.mem_cons,List.not_mem_nil,or_false,not_or]at cR;obtain⟨⟨n1,n2,n3,n4⟩,⟨n5,n6,n7⟩,⟨n8,n9⟩,n10,_⟩:=cR;obtain⟨ec,cc,hc⟩:=zb0 k1;obtain⟨ep,cp,hp⟩:=zb0 k2;have bi:∀ {k:Nat} {cur:Array Value} {t:TypeId} {f:Nat×Nat},W.heap[k]?=some (.cells cur t f)->t≠9->w9.heap[k]?=W.heap[k]?:=fun {k cur t f} hk ht=>by
  refine hF k (Array.getElem?_eq_some_iff.1 hk).1 (fun e=>?_) (fun e=>?_) (fun e=>?_) (fun e=>?_)
  ·subst e;rw[hc]at hk;simp at hk
  ·subst e;rw[hp]at hk;simp at hk
  ·obtain⟨cur',h'⟩:=zfu ha e;exact MbE
  ·obtain⟨cur',h'⟩:=zfu hv e;exact MbE
 have ti:∀ {k:Nat} {es:Array MapEntry} {x:Nat},W.heap[k]?=some (.map es x)->k≠c->k≠p->w9.heap[k]?=W.heap[k]?:=fun {k es x} hk h1 h2=>by
  refine hF k (Array.getElem?_eq_some_iff.1 hk).1 h1 h2 (fun e=>?_) (fun e=>?_)
  ·obtain⟨cur',h'⟩:=zfu ha e;rw[h']at hk;simp at hk
  ·obtain⟨cur',h'⟩:=zfu hv e;rw[h']at hk;simp at hk
 have nY:∀g,za6 va=some g->g∈zaY mc:=fun g hg=>zdf.2 ⟨_,zdc (l9 g hg),hg⟩
 have dg:∀g,za6 vb=some g->g∈zaY mp:=fun g hg=>zdf.2 ⟨_,zdc (jG g hg),hg⟩
 obtain⟨k6,kn1,kn2⟩:=k6;rw[k5,zc2,List.nodup_append]at k6;obtain⟨q1,q2,q3⟩:=k6;have mY:∀ {m:List (ByteArray×Value)} {n:ByteArray} {v:Value} {xs:List ByteArray},mget eqS n m=some v->OwnS W base 9 1 sC v xs->(∀g,za6 v=some g->za6 va≠some g/\za6 vb≠some g)->OwnS w9 base 9 1 sC v xs:=fun {m n v xs} hm ho ag=>
  ho.same fun g cur hg hh=>hF g (Array.getElem?_eq_some_iff.1 hh).1 (fun e=>by subst e;rw[hc]at hh;simp at hh) (fun e=>by subst e;rw[hp]at hh;simp at hh) (ag g hg).1 (ag g hg).2
 have p8:∀g,W.heap.size<=g->g∉zaY mc/\g∉zaY mp:=fun g hg=>by
  have key:∀ {m:List (ByteArray×Value)} {f:ByteArray->List ByteArray},(m.map (·.1)).Nodup->(∀n,RowIs W base m n (f n))->g∉zaY m:=fun {m f} hk hr h=>by
   obtain⟨e,he,fA⟩:=zdf.1 h;have h1:=zhL hk (show(e.1,e.2)∈m from he);rcases hr e.1 with⟨h2,_⟩|⟨v,h2,h3⟩
   ·rw[h2]at h1;cases h1
   ·rw[h2]at h1;simp only[Option.some.injEq]at h1;rw[h1]at h3;have:=(h3.ge g fA).2;omega
  exact⟨key kn1 k3,key kn2 k4⟩
 have R1:=zk6 (k:=fr) (v:=v1) q1 (fun g hg=>by
  rcases b1 g hg with h|h
  ·exact .inl ⟨va,l9 g h,h⟩
  ·exact .inr (p8 g h).1)
 have R2:=zk6 (k:=tn) (v:=v2) q2 (fun g hg=>by
  rcases b2 g hg with h|h
  ·exact .inl ⟨vb,jG g h,h⟩
  ·exact .inr (p8 g h).2)
 have jP:∀g∈zaY (mput eqS fr v1 mc++mput eqS tn v2 mp),g∈B\/W.heap.size<=g:=fun g hg=>by
  rw[zc2,List.mem_append]at hg;rw[k5,zc2];rcases hg with hg|hg
  ·rcases R1.2 g hg with h|h
   ·exact .inl (List.mem_append_left _ h)
   ·rcases b1 g h with h|h
    ·exact .inl (List.mem_append_left _ (nY g h))
    ·exact .inr h
  ·rcases R2.2 g hg with h|h
   ·exact .inl (List.mem_append_right _ h)
   ·rcases b2 g h with h|h
    ·exact .inl (List.mem_append_right _ (dg g h))
    ·exact .inr h
 obtain⟨m,k7,k8⟩:=hP.wills;refine⟨_,d,c,p,wl,r,mv,tv,ps,hb,?_,⟨hP.nd,hP.ge,?_,⟨_,_,m1,m2,fun n=>?_,fun n=>?_,rfl,?_⟩,?_,⟨m,?_,fun n=>?_⟩,?_⟩,⟨?_,hT.len,hT.nd,fun i T g e1 e2=>?_⟩⟩
 ·exact(bi hC Mcu).trans hC
 ·obtain⟨es,x,hx⟩:=zb0 hP.dead;exact hP.dead.keep (ti hx n1 n2)
 ·rw[kids_push];unfold RowIs;rw[zfi];cases hn:zaf n fr
  ·rw[zhV fr n,hn];simp only[Bool.false_eq_true,if_false,List.append_nil];rcases k3 n with h|⟨v,h1,h2⟩
   ·exact .inl h
   ·refine .inr ⟨v,h1,mY h1 h2 fun g hg=>⟨fun e=>?_,fun e=>?_⟩⟩
    ·exact zhq hn q1 h1 (l9 g e) hg e
    ·exact q3 g (zdf.2 ⟨_,zdc h1,hg⟩) g (dg g e) rfl
  ·rw[zhV fr n,hn];have e:n=fr:=za3.1 hn;subst e;exact .inr ⟨v1,rfl,o1⟩
 ·rw[pars_push];unfold RowIs;rw[zfi];cases hn:zaf n tn
  ·rw[zhV tn n,hn];simp only[Bool.false_eq_true,if_false,List.append_nil];rcases k4 n with h|⟨v,h1,h2⟩
   ·exact .inl h
   ·refine .inr ⟨v,h1,mY h1 h2 fun g hg=>⟨fun e=>?_,fun e=>?_⟩⟩
    ·exact q3 g (nY g e) g (zdf.2 ⟨_,zdc h1,hg⟩) rfl
    ·exact zhq hn q2 h1 (jG g e) hg e
  ·rw[zhV tn n,hn];have e:n=tn:=za3.1 hn;subst e;exact .inr ⟨v2,rfl,o2⟩
 ·refine⟨?_,(zg5 _ _ _ kn1).1,(zg5 _ _ _ kn2).1⟩;rw[zc2,List.nodup_append];refine⟨R1.1,R2.1,fun g hg g' iv e=>?_⟩;subst e;rcases R1.2 g hg with h|h
  ·rcases R2.2 g iv with h'|h'
   ·exact q3 g h g h' rfl
   ·rcases b2 g h' with h'|h'
    ·exact q3 g h g (dg g h') rfl
    ·exact(p8 g h').1 h
  ·rcases R2.2 g iv with h'|h'
   ·rcases b1 g h with h|h
    ·exact q3 g (nY g h) g h' rfl
    ·exact(p8 g h).2 h'
   ·exact b12 g h h'
 ·exact hP.marr.same fun g cur _ hh=>bi hh Mcu
 ·obtain⟨es,x,hx⟩:=zb0 k7;exact k7.keep (ti hx (fun e=>n6 e.symm) (fun e=>n8 e.symm))
 ·rcases k8 n with h|⟨A,x,h1,h2⟩
  ·exact .inl h
  ·exact .inr ⟨A,x,h1,h2.same fun g cur f hh _=>bi hh Mcu⟩
 ·obtain⟨es,x,hx⟩:=zb0 hP.ren;exact hP.ren.keep (ti hx (fun e=>n7 e.symm) (fun e=>n9 e.symm))
 ·exact hT.own.same fun g cur _ hh=>bi hh Mcu
 ·obtain⟨H,hh,D,dc,f',t1,t2,t3,t4,t5,t6,t7⟩:=hT.all i T g e1 e2;refine⟨H,hh,D,dc,f',(bi t1 Mcu).trans t1,t2,t3,t4,t5.same fun g' cur f hx _=>bi hx Mcu,?_,fun hl a oO aM=>?_⟩
  ·intro hl;obtain⟨g',off,cur,f,hA,hx,hy⟩:=t6 hl;have I3:=t7 hl ⟨g',off,none⟩ hA;refine⟨g',off,cur,f,hA,?_,hy⟩;rw[<-hx];refine hF g' (Array.getElem?_eq_some_iff.1 hx).1 (fun e=>by subst e;rw[hc]at hx;simp at hx) (fun e=>by subst e;rw[hp]at hx;simp at hx) (fun e=>I3 ?_) (fun e=>I3 ?_)
   ·rw[k5,zc2];exact List.mem_append_left _ (nY g' e)
   ·rw[k5,zc2];exact List.mem_append_right _ (dg g' e)
  ·obtain⟨g',off,cur,f,hA,hx,hy⟩:=t6 hl;rw[hA]at oO;simp only[Option.some.injEq]at oO;rcases jP _ aM with h|h
   ·exact t7 hl a (by rw[hA,oO]) h
   ·have:=(Array.getElem?_eq_some_iff.1 hx).1;rw[<-oO]at h;simp at h;omega
theorem given_nil{n:ByteArray}{q:Rat}(h:q≠0):za5 [] n q=[(n,q)]:=by
 unfold za5;rw[if_neg Mdn]
theorem zoF{p:ByteArray×Rat}{r:Parts}{n:ByteArray}{q:Rat}(h:q≠0):za5 (p::r) n q=if zbr p.1 n then p::za5 r n q else if zaf p.1 n then(n,p.2+q)::r else(n,q)::p::r:=by
 rw[za5,if_neg Mdn]
theorem given_zer(l:Parts)(n:ByteArray):za5 l n 0=l:=by
 cases l with
 |nil=>rfl
 |cons p r=>rw[za5,if_pos Mcv]
def zlH(done:Bool)(l:Parts)(n:ByteArray)(q:Rat):Parts:=if done then l else za5 l n q
theorem zcW(l:Parts)(n:ByteArray)(q:Rat)(A:Option Addr)(c:Nat)(w:World)(hl:l.length<=100000)(hs:∀p∈l,zaL p.2)(hq:zaL q)(hS:Sl w 3 zaa A l):Calls Tryz.prog 119 #[.slice A l.length c,.string n,zaD q] w (zgC w (za5 l n q)):=by
 obtain⟨fH,pP,HQ⟩:=yH3 hS hs hq;obtain⟨R,hR⟩:=Qd (za5 l n q)
 rw[<-hR];have HR:=zHi hR;unfold zgC zaD;clear hS hs hq hR;go_enter Tryz.func119,Tryz.ntmps119
 go_upto_region 2 with fail
 obtain⟨W0,am⟩:=Qd (w.alloc (.cells #[.int .i64 q.num,.int .i64 q.den] 57))
 have b0:W0.heap[w.heap.size]?=some (.cells #[.int .i64 q.num,.int .i64 q.den] 57):=Mdg;have aS:Qa w W0:=Mc1;rw[<-am];obtain⟨aj,HS⟩:=yH2 aS (fH.o.keep aS);obtain⟨c0,c1⟩:=cF2 b0;have l0:=zab b0;clear am b0 aS fH;go_upto_region 4 with fail
 go_loopw [7,8,9] (fun v d i wr=>∃(k:Nat) (done:Bool) (out:Parts),k<=l.length/\d=.bool done/\i=.int .i64 k/\Hid (R=out++zlH done (l.drop k) n q)/\Hid (done=false->q≠0)/\Hid (out.length<=k+(if done then 1 else 0))/\OwnS wr W0.heap.size 59 3 zaa v out/\Qa W0 wr) (fun _ _ i _=>l.length-(intOf i).toNat)
 case atStart=>
  refine⟨0,q.num==0,[],Nat.zero_le _,rfl,rfl,zHi ?_,zHi ?_,zHi Mcv,OwnS.nil,Qb⟩
  ·rw[List.drop_zero,List.nil_append,HR.o];unfold zlH;cases hz:q.num==0
   ·rfl
   ·have:q=0:=Rat.num_eq_zero.1 Mdz;rw[this,given_zer];rfl
  ·intro h e;rw[e]at h;exact absurd h Mcu
 case round=>
  obtain⟨k,done,out,hk,rfl,rfl,HX,HD,rP,ac,hB⟩:=hrel;have aW:=hB.size;obtain⟨HO,HB⟩:=yH2 ac hB;have CB:Hid (out.length<=k+1):=by show _<=_;have:=rP.o;split at this<;>omega
  have iS:Hid (out.length<=200000):=by show _<=_;have:=CB.o;omega
  obtain⟨VA,vc,rfl,_,kf⟩:=ac.sl zai;have d0:wr.cell? ⟨w.heap.size,0,none⟩=some (.int .i64 q.num):=(zah hB l0).trans c0;have d1:wr.cell? ⟨w.heap.size,1,none⟩=some (.int .i64 q.den):=(zah hB l0).trans c1;have bY:w.heap.size<wr.heap.size:=Mcq;by_cases aa:k<l.length
  ·obtain⟨b,off,rfl,hb,ah⟩:=HS.o.at aa;have hx:=HX.o;rw[List.drop_eq_getElem_cons aa]at hx;have ck:=pP.o _ (List.getElem_mem aa);have ak:=zHi aa;generalize l[k]=x at*;obtain⟨nm,r⟩:=x;have e0:W0.cell? ⟨b,off+k*3,none⟩=some (.string nm):=ah 0 _ rfl;have e1:W0.cell? ⟨b,off+k*3+1,none⟩=some (.int .i64 r.num):=ah 1 _ rfl;have e2:W0.cell? ⟨b,off+k*3+2,none⟩=some (.int .i64 r.den):=ah 2 _ rfl;have i0:wr.cell? ⟨b,off+k*3,none⟩=some (.string nm):=(zah hB hb).trans e0;have i1:wr.cell? ⟨b,off+k*3+1,none⟩=some (.int .i64 r.num):=(zah hB hb).trans e1;have i2:wr.cell? ⟨b,off+k*3+2,none⟩=some (.int .i64 r.den):=(zah hB hb).trans e2;have ar:(k:Int)<(l.length:Int):=Mcq;have aR:(0:Int)<=(k:Int):=Mcq;obtain⟨ax,fT⟩:=yH2 hx ck;clear ah aa ac hB hx ck;cases done
   ·have eJ:=HD.o rfl;have hx:=ax.o;rw[show zlH false ((nm,r)::l.drop (k+1)) n q=za5 ((nm,r)::l.drop (k+1)) n q from rfl,zoF eJ]at hx;have Cc:=zHi eJ;cases j6:zbr nm n
    ·have El:Op.bytesLess nm.toList n.toList=false:=j6;rw[j6,if_neg Mcv]at hx;cases cU:zaf nm n
     ·have bk:(nm.toList==n.toList)=false:=cU;rw[cU,if_neg Mcv]at hx;have dW:=zHi hx;clear hx j6 cU eJ
      go_upto_region 11 with(at_builtin
                             go_loud(refine zas (v:=.slice VA out.length vc) (n:=out.length) (m:=1) rfl _ _ rfl zdW zai zcb rfl (xs:=out) (ys:=[(n,q)]) (HO.o.keep (n:=wr.heap.size) Bw) rfl rfl rfl (zde (zat _ _ _ rfl)) McX Mc4 Mcw ?_)
                             intro v3 w3 h1 h2 h3;have av:=Below.grown (B:=W0.heap.size) (a:=W0) (HB.o.trans (Below.mono (B:=wr.heap.size) (zad Qb _) aW)) h2 Mcw (fun j hj=>(HO.o.ge j hj).1);obtain⟨H1,aJ⟩:=yH2 h1 av
                             clear h1 h2 h3 av)
      obtain⟨VB,vb,Im,_,Nr⟩:=H1.o.sl zai;rw[List.length_append]at Im;subst Im;have jn:=aJ.o.size;have j0:w3.cell? ⟨b,off+k*3,none⟩=some (.string nm):=(zah aJ.o hb).trans e0;have j1:w3.cell? ⟨b,off+k*3+1,none⟩=some (.int .i64 r.num):=(zah aJ.o hb).trans e1;have j2:w3.cell? ⟨b,off+k*3+2,none⟩=some (.int .i64 r.den):=(zah aJ.o hb).trans e2
      go_wp2_with (at_builtin
                   go_loud(refine zas (v:=.slice VB (out.length+[(n,q)].length) vb) (n:=out.length+[(n,q)].length) (m:=1) rfl _ _ rfl zdW zai zcb rfl (xs:=out++[(n,q)]) (ys:=[(nm,r)]) (H1.o.keep (n:=w3.heap.size) Bw) Mcv rfl rfl (zde (zat _ _ _ rfl)) McX (by have:=iS.o;simp;omega) Mcw ?_)
                   intro v4 w4 g1 g2 g3;have ay:=Below.grown (B:=W0.heap.size) (a:=W0) (aJ.o.trans (Below.mono (B:=w3.heap.size) (zad Qb _) jn)) g2 Mcw (fun j hj=>(H1.o.ge j hj).1);obtain⟨G1,eB⟩:=yH2 g1 ay
                   clear g1 g2 g3 ay)
      go_round
      case rel=>exact⟨k+1,true,out++[(n,q)]++[(nm,r)],ak.o,rfl,by go_num,zHi (by rw[dW.o,List.append_assoc,List.append_assoc];rfl),zHi (fun h=>by cases h),zHi (by have:=rP.o;simp at this⊢;omega),G1.o,eB.o⟩
      case measure=>have:=ak.o;simp only[intOf];omega
     ·have bk:(nm.toList==n.toList)=true:=cU;rw[cU,if_pos rfl]at hx;have dW:=zHi hx;clear hx j6 cU eJ;have aY:b<wr.heap.size:=Nat.lt_of_lt_of_le hb aW;obtain⟨aB,eK⟩:=yH2 (fun(w':World) (h:Qa wr w')=>(show w'.cell? ⟨b,off+k*3+1,none⟩=some (.int .i64 r.num)/\w'.cell? ⟨b,off+k*3+2,none⟩=some (.int .i64 r.den)/\w'.cell? ⟨w.heap.size,0,none⟩=some (.int .i64 q.num)/\w'.cell? ⟨w.heap.size,1,none⟩=some (.int .i64 q.den) from⟨(zah h aY).trans i1,(zah h aY).trans i2,(zah h bY).trans d0,(zah h bY).trans d1⟩)) (fun W=>zkh r q W fT.o HQ.o);unfold zaD at eK;go_upto_region 9 with fail
      refine zaJ 11 (fun bb w'=>bb=true\/(w'.cell? ⟨b,off+k*3+1,none⟩=some (.int .i64 r.num)/\w'.cell? ⟨b,off+k*3+2,none⟩=some (.int .i64 r.den)/\w'.cell? ⟨w.heap.size,0,none⟩=some (.int .i64 q.num)/\w'.cell? ⟨w.heap.size,1,none⟩=some (.int .i64 q.den))) Mcs (.inr (aB.o _ (zaF Qb))) ?hrest
      case hrest=>
       intro hHeld;refine TkM 0 ?_;refine TkM 1 ?_;refine TkM 2 ?_;refine TkM 3 ?_;refine TkM 4 ?_;refine TkM 5 ?_;refine TkM 6 ?_;refine TkM 7 ?_;refine OnM 8 false fun K hK=>?_
       go_simp
       refine(eK.o _).mono ?_;rintro e w5 ⟨rfl,z,rfl⟩;have aq:Qa wr (wr.drew.ext z):=zaZ (zaF Qb) z;refine NxM hK (fun hHeld=>?_) (.inr (aB.o _ aq));clear hK K;refine TkM 9 ?_;refine OnM 10 false fun K hK=>?_
       go_simp
       have aV:Qa wr ((wr.drew.ext z).alloc (.cells #[.string n,.int .i64 (r+q).num,.int .i64 (r+q).den] 59)):=zad aq _;have n6:((wr.drew.ext z).alloc (.cells #[.string n,.int .i64 (r+q).num,.int .i64 (r+q).den] 59)).heap[(wr.drew.ext z).heap.size]?=some (.cells #[.string n,.int .i64 (r+q).num,.int .i64 (r+q).den] 59):=zat _ _ _ rfl;refine NxM hK (fun hHeld=>?_) (.inr (aB.o _ aV));clear hK K;refine OnM 11 true fun K hK=>?_
       refine zak (v:=.slice VA out.length vc) (n:=out.length) (m:=1) rfl _ _ rfl zdW zai zcb rfl (xs:=out) (ys:=[(n,r+q)]) (HO.o.keep (n:=wr.heap.size) aV) rfl rfl rfl (zde (zat _ _ _ MdF)) MdT Mc4 Md1 ?_;intro v7 w7 h1 h2 h3;obtain⟨A7,c7,kM,_,_⟩:=h1.sl zai;rw[List.length_append]at kM;subst kM;have bK:Qa W0 w7:=Below.grown (HB.o.trans (aV.mono aW)) h2 Md1 (fun j hj=>(HO.o.ge j hj).1);refine NxM hK fun hHeld=>?_
       clear hK K;refine OnM 12 true fun K hK=>?_
       go_simp
       refine NxM hK fun hHeld=>?_
       clear hK K;refine zaV Mcs ?_ _;clear hHeld;obtain⟨H7,cr⟩:=yH2 h1 bK;clear h1 h2 h3 bK;go_wp2_with fail
       go_round
       case rel=>exact⟨k+1,true,out++[(n,r+q)],ak.o,rfl,by go_num,zHi (by rw[dW.o,List.append_assoc];rfl),zHi (fun h=>by cases h),zHi Mdh,H7.o,cr.o⟩
       case measure=>have:=ak.o;simp only[intOf];omega
    ·have El:Op.bytesLess nm.toList n.toList=true:=j6;rw[j6,if_pos rfl]at hx;have dW:=zHi hx;clear hx j6 eJ
     go_wp2_with (at_builtin
                  go_loud(refine zas (v:=.slice VA out.length vc) (n:=out.length) (m:=1) rfl _ _ rfl zdW zai zcb rfl (xs:=out) (ys:=[(nm,r)]) (HO.o.keep (n:=wr.heap.size) Bw) rfl rfl rfl (zde (zat _ _ _ rfl)) McX Mc4 Mcw ?_)
                  intro v3 w3 h1 h2 h3;have av:=Below.grown (B:=W0.heap.size) (a:=W0) (HB.o.trans (Below.mono (B:=wr.heap.size) (zad Qb _) aW)) h2 Mcw (fun j hj=>(HO.o.ge j hj).1);obtain⟨H1,aJ⟩:=yH2 h1 av
                  clear h1 h2 h3 av)
     go_round
     case rel=>exact⟨k+1,false,out++[(nm,r)],ak.o,rfl,by go_num,zHi (by rw[dW.o,List.append_assoc];rfl),zHi (fun _=>Cc.o),zHi Mdh,H1.o,aJ.o⟩
     case measure=>have:=ak.o;simp only[intOf];omega
   ·go_wp2_with (at_builtin
                 go_loud(refine zas (v:=.slice VA out.length vc) (n:=out.length) (m:=1) rfl _ _ rfl zdW zai zcb rfl (xs:=out) (ys:=[(nm,r)]) (HO.o.keep (n:=wr.heap.size) Bw) rfl rfl rfl (zde (zat _ _ _ rfl)) McX Mc4 Mcw ?_)
                 intro v3 w3 h1 h2 h3;have av:=Below.grown (B:=W0.heap.size) (a:=W0) (HB.o.trans (Below.mono (B:=wr.heap.size) (zad Qb _) aW)) h2 Mcw (fun j hj=>(HO.o.ge j hj).1);obtain⟨H1,aJ⟩:=yH2 h1 av
                 clear h1 h2 h3 av)
    go_round
    case rel=>exact⟨k+1,true,out++[(nm,r)],ak.o,rfl,by go_num,zHi (by rw[ax.o,List.append_assoc];rfl),zHi (fun h=>by cases h),zHi Mdh,H1.o,aJ.o⟩
    case measure=>have:=ak.o;simp only[intOf];omega
  ·have ar:¬(k:Int)<(l.length:Int):=Mcq;have hx:=HX.o;rw[List.drop_of_length_le Mcq]at hx;clear ac hB;cases done
   ·have eJ:=HD.o rfl;rw[show zlH false [] n q=za5 [] n q from rfl,given_nil eJ]at hx;have ax:=zHi hx;clear hx eJ
    go_wp2_with (at_builtin
                 go_loud(refine zas (v:=.slice VA out.length vc) (n:=out.length) (m:=1) rfl _ _ rfl zdW zai zcb rfl (xs:=out) (ys:=[(n,q)]) (HO.o.keep (n:=wr.heap.size) Bw) rfl rfl rfl (zde (zat _ _ _ rfl)) McX Mc4 Mcw ?_)
                 intro v3 w3 h1 h2 h3;have av:=Below.grown (B:=W0.heap.size) (a:=W0) (HB.o.trans (Below.mono (B:=wr.heap.size) (zad Qb _) aW)) h2 Mcw (fun j hj=>(HO.o.ge j hj).1);obtain⟨H1,aJ⟩:=yH2 h1 av
                 clear h1 h2 h3 av)
    go_ret
    exact⟨_,rfl,by rw[ax.o];exact H1.o.base_le aj.o.size,aj.o.trans (aJ.o.mono aj.o.size)⟩
   ·rw[show zlH true [] n q=[]from rfl,List.append_nil]at hx;have ax:=zHi hx;clear hx;go_wp2_with fail
    go_ret
    exact⟨_,rfl,by rw[ax.o];exact HO.o.base_le aj.o.size,aj.o.trans (HB.o.mono aj.o.size)⟩
