/- Walk of the reference's Spouse. -/
import Derived.Test.YtjhbofabmpfniaaGreatDoorE2
set_option linter.unusedSimpArgs false
set_option linter.unusedVariables false
set_option maxRecDepth 100000
set_option maxHeartbeats 4000000
namespace Go.Proofs.YtjhbofabmpfniaaGreatDoor
open Go.RowKit Go.Shelf
theorem zde {m:List (ByteArray×Value)} {g:Nat}:g∈zaX m↔ ∃e∈m,zaA e.2=some g:=by
 unfold zaX;rw[List.mem_filterMap]
theorem zc1 (e:ByteArray×Value) (m:List (ByteArray×Value)):zaX (e::m)=(zaA e.2).toList++zaX m:=by
 unfold zaX;rw[List.filterMap_cons];cases h:zaA e.2<;>simp
theorem zc2 (m l:List (ByteArray×Value)):zaX (m++l)=zaX m++zaX l:=by
 unfold zaX;exact List.filterMap_append
theorem zkB {k:ByteArray} {v:Value}: ∀ {m:List (ByteArray×Value)},(zaX m).Nodup->(∀g,zaA v=some g->(∃v0,mget eqS k m=some v0/\zaA v0=some g)\/g∉zaX m)->
 (zaX (mput eqS k v m)).Nodup/\ ∀g∈zaX (mput eqS k v m),g∈zaX m\/zaA v=some g
 | [],_,_=>by
   rw[mput,zc1];have e:zaX []=[]:=rfl;rw[e];cases h:zaA v<;>simp
 |x::m,hn,hv=>by
  rw[zc1,List.nodup_append]at hn;obtain⟨n1,n2,n3⟩:=hn;rw[mput];cases hk:eqS k x.1
  ·rw[if_neg Mcq];have jJ: ∀g,zaA v=some g->(∃v0,mget eqS k m=some v0/\zaA v0=some g)\/g∉zaX m:=fun g hg=>by
    rcases hv g hg with⟨v0,h1,h2⟩|h
    ·rw[mget,hk]at h1;exact .inl ⟨v0,by simpa using h1,h2⟩
    ·exact .inr fun h'=>h (by rw[zc1];exact List.mem_append_right _ h')
   obtain⟨i1,i2⟩:=zkB n2 jJ;rw[zc1,List.nodup_append];refine⟨⟨n1,i1,fun a ha b hb e=> ?_⟩,fun g hg=> ?_⟩
   ·subst e;rcases i2 _ hb with h|h
    ·exact n3 a ha a h rfl
    ·rcases hv a h with⟨v0,h1,h2⟩|h'
     ·rw[mget,hk]at h1;have pi:mget eqS k m=some v0:=McT;exact n3 a ha a (zde.2 ⟨_,zcZ pi,h2⟩) rfl
     ·exact h' (by rw[zc1];exact List.mem_append_left _ ha)
   ·rw[List.mem_append]at hg;rcases hg with hg|hg
    ·exact .inl (by rw[zc1];exact List.mem_append_left _ hg)
    ·rcases i2 g hg with h|h
     ·exact .inl (by rw[zc1];exact List.mem_append_right _ h)
     ·exact .inr h
  ·rw[if_pos rfl,zc1,List.nodup_append];have hx:mget eqS k (x::m)=some x.2:=by rw[mget,hk];rfl
   refine⟨⟨by cases h:zaA v<;>simp,n2,fun a ha b hb e=> ?_⟩,fun g hg=> ?_⟩
   ·subst e;have kT:zaA v=some a:=by
     cases h:zaA v with
     |none=>simp[h]at ha
     |some y=>simp[h]at ha;rw[ha]
    rcases hv a kT with⟨v0,h1,h2⟩|h'
    ·rw[hx]at h1;simp only[Option.some.injEq]at h1;subst h1;exact n3 a (by rw[h2];simp) a hb rfl
    ·exact h' (by rw[zc1];exact List.mem_append_right _ hb)
   ·rw[List.mem_append]at hg;rcases hg with hg|hg
    ·cases h:zaA v with
     |none=>simp[h]at hg
     |some y=>simp[h]at hg;exact .inr (by rw[hg])
    ·exact .inl (by rw[zc1];exact List.mem_append_right _ hg)
theorem zhi {k n:ByteArray} {v v0:Value} {g:Nat} (ai:zaf n k=false): ∀ {m:List (ByteArray×Value)},(zaX m).Nodup->mget eqS n m=some v->mget eqS k m=some v0->zaA v=some g->zaA v0≠some g
 | [],_,h,_,_=>by cases h
 |x::m,hn,h1,h2,h3=>fun h4=>by
  rw[zc1,List.nodup_append]at hn;obtain⟨n1,n2,n3⟩:=hn;rw[mget]at h1 h2;cases ha:eqS n x.1
  ·rw[ha]at h1;simp only[Bool.false_eq_true,if_false]at h1;cases hb:eqS k x.1
   ·rw[hb]at h2;simp only[Bool.false_eq_true,if_false]at h2;exact zhi ai n2 h1 h2 h3 h4
   ·rw[hb]at h2;simp only[if_true,Option.some.injEq]at h2;subst h2;exact n3 g (by rw[h4];simp) g (zde.2 ⟨_,zcZ h1,h3⟩) rfl
  ·rw[ha]at h1;simp only[if_true,Option.some.injEq]at h1;subst h1;cases hb:eqS k x.1
   ·rw[hb]at h2;simp only[Bool.false_eq_true,if_false]at h2;exact n3 g (by rw[h3];simp) g (zde.2 ⟨_,zcZ h2,h4⟩) rfl
   ·have e1:n=x.1:=za2.1 ha;have e2:k=x.1:=za2.1 hb;rw[e1,e2,zbY]at ai;cases ai
theorem kids_push (s:St) (f t n:ByteArray):zai {s with children:=s.children++[(f,t)]} n=zai s n++if zaf f n then[t]else[]:=by
 unfold zai;simp only[List.filter_append,List.map_append,List.filter_cons,List.filter_nil];cases zaf f n<;>simp
theorem pars_push (s:St) (f t n:ByteArray):zbR {s with children:=s.children++[(f,t)]} n=zbR s n++if zaf t n then[f]else[]:=by
 unfold zbR;simp only[List.filter_append,List.map_append,List.filter_cons,List.filter_nil];cases zaf t n<;>simp
theorem row_own {W:World} {base:Nat} {m:List (ByteArray×Value)} {n:ByteArray} {xs:List ByteArray} (h:RowIs W base m n xs): ∃A c,(mget eqS n m).getD (.slice none 0 0)= .slice A xs.length c/\OwnS W base 9 1 sC (.slice A xs.length c) xs/\(∀g,zaA (.slice A xs.length c)=some g->mget eqS n m=some (.slice A xs.length c)):=by
 rcases h with⟨h1,rfl⟩|⟨v,h1,h2⟩
 ·exact⟨none,0,by rw[h1];rfl,OwnS.nil,fun g hg=>by cases hg⟩
 ·obtain⟨A,c,rfl,_,_⟩:=h2.sl zaD;exact⟨A,c,by rw[h1];rfl,h2,fun _ _=>h1⟩
theorem zhV (a b:ByteArray):zaf a b=zaf b a:=by rw[Bool.eq_iff_iff,za2,za2];exact⟨Eq.symm,Eq.symm⟩
theorem OwnS.same {α:Type} {W W':World} {base:Nat} {e:TypeId} {size:Nat} {f:α->List Value} {v:Value} {xs:List α} (h:OwnS W base e size f v xs) (hk: ∀g cur,zaA v=some g->W.heap[g]?=some (.cells cur e (0,0))->W'.heap[g]?=W.heap[g]?):OwnS W' base e size f v xs:=by
 rcases h with h|⟨g,o,cap,cur,rfl,hb,hh,rest⟩
 ·exact .inl h
 ·exact .inr ⟨g,o,cap,cur,rfl,hb,(hk g cur rfl hh).trans hh,rest⟩
theorem zfu {W:World} {base:Nat} {v:Value} {xs:List ByteArray} (h:OwnS W base 9 1 sC v xs) {g:Nat} (hg:zaA v=some g): ∃cur,W.heap[g]?=some (.cells cur 9 (0,0)):=by
 rcases h with⟨rfl,_⟩|⟨k,o,c,cur,rfl,_,hk,_⟩
 ·cases hg
 ·simp only[zaA,Option.some.injEq]at hg;subst hg;exact⟨cur,hk⟩
theorem wld_child {base b:Nat} {W w9:World} {B ps:List Nat} {d c p wl r:Nat} {mv tv va vb v1 v2:Value} {s:St} {la co:Int} {mc mp:List (ByteArray×Value)} {fr tn:ByteArray} (hb:base<=b) (hC:WldC W b d c p wl r mv tv la co) (hP:PplAt base W B d c p wl r mv s) (hT:TombsAt base W B tv ps s.graves)
 (k1:MapS W c ekS (fun v:Value=>v) mc) (k2:MapS W p ekS (fun v:Value=>v) mp) (k3: ∀n,RowIs W base mc n (zai s n)) (k4: ∀n,RowIs W base mp n (zbR s n)) (k5:B=zaX (mc++mp)) (k6:B.Nodup/\(mc.map (·.1)).Nodup/\(mp.map (·.1)).Nodup)
 (ha:OwnS W base 9 1 sC va (zai s fr)) (kT: ∀g,zaA va=some g->mget eqS fr mc=some va) (hv:OwnS W base 9 1 sC vb (zbR s tn)) (jJ: ∀g,zaA vb=some g->mget eqS tn mp=some vb)
 (o1:OwnS w9 base 9 1 sC v1 (zai s fr++[tn])) (o2:OwnS w9 base 9 1 sC v2 (zbR s tn++[fr])) (b1: ∀g,zaA v1=some g->zaA va=some g\/W.heap.size<=g) (b2: ∀g,zaA v2=some g->zaA vb=some g\/W.heap.size<=g) (b12: ∀g,zaA v1=some g->zaA v2≠some g)
 (m1:MapS w9 c ekS (fun v:Value=>v) (mput eqS fr v1 mc)) (m2:MapS w9 p ekS (fun v:Value=>v) (mput eqS tn v2 mp)) (hF: ∀k,k<W.heap.size->k≠c->k≠p->zaA va≠some k->zaA vb≠some k->w9.heap[k]?=W.heap[k]?):WldAt base w9 b {s with children:=s.children++[(fr,tn)]} la co:=by
 have cQ:=hP.nd;simp only[List.nodup_cons,List.mem_cons,List.not_mem_nil,or_false,not_or]at cQ;obtain⟨⟨n1,n2,n3,n4⟩,⟨n5,n6,n7⟩,⟨n8,n9⟩,n10,_⟩:=cQ;obtain⟨ec,cc,hc⟩:=zbw k1;obtain⟨ep,cp,hp⟩:=zbw k2;have bk: ∀ {k:Nat} {cur:Array Value} {t:TypeId} {f:Nat×Nat},W.heap[k]?=some (.cells cur t f)->t≠9->w9.heap[k]?=W.heap[k]?:=fun {k cur t f} hk ht=>by
  refine hF k (Array.getElem?_eq_some_iff.1 hk).1 (fun e=> ?_) (fun e=> ?_) (fun e=> ?_) (fun e=> ?_)
  ·subst e;rw[hc]at hk;simp at hk
  ·subst e;rw[hp]at hk;simp at hk
  ·obtain⟨cur',h'⟩:=zfu ha e;exact MbB
  ·obtain⟨cur',h'⟩:=zfu hv e;exact MbB
 have ss: ∀ {k:Nat} {es:Array MapEntry} {x:Nat},W.heap[k]?=some (.map es x)->k≠c->k≠p->w9.heap[k]?=W.heap[k]?:=fun {k es x} hk h1 h2=>by
  refine hF k (Array.getElem?_eq_some_iff.1 hk).1 h1 h2 (fun e=> ?_) (fun e=> ?_)
  ·obtain⟨cur',h'⟩:=zfu ha e;rw[h']at hk;simp at hk
  ·obtain⟨cur',h'⟩:=zfu hv e;rw[h']at hk;simp at hk
 have nI: ∀g,zaA va=some g->g∈zaX mc:=fun g hg=>zde.2 ⟨_,zcZ (kT g hg),hg⟩
 have dB: ∀g,zaA vb=some g->g∈zaX mp:=fun g hg=>zde.2 ⟨_,zcZ (jJ g hg),hg⟩
 obtain⟨k6,kn1,kn2⟩:=k6;rw[k5,zc2,List.nodup_append]at k6;obtain⟨q1,q2,q3⟩:=k6;have ky: ∀ {m:List (ByteArray×Value)} {n:ByteArray} {v:Value} {xs:List ByteArray},mget eqS n m=some v->OwnS W base 9 1 sC v xs->(∀g,zaA v=some g->zaA va≠some g/\zaA vb≠some g)->OwnS w9 base 9 1 sC v xs:=fun {m n v xs} hm ho ai=>
  ho.same fun g cur hg hh=>hF g (Array.getElem?_eq_some_iff.1 hh).1 (fun e=>by subst e;rw[hc]at hh;simp at hh) (fun e=>by subst e;rw[hp]at hh;simp at hh) (ai g hg).1 (ai g hg).2
 have oy: ∀g,W.heap.size<=g->g∉zaX mc/\g∉zaX mp:=fun g hg=>by
  have key: ∀ {m:List (ByteArray×Value)} {f:ByteArray->List ByteArray},(m.map (·.1)).Nodup->(∀n,RowIs W base m n (f n))->g∉zaX m:=fun {m f} hk hr h=>by
   obtain⟨e,he,fA⟩:=zde.1 h;have h1:=zhI hk (show(e.1,e.2)∈m from he);rcases hr e.1 with⟨h2,_⟩|⟨v,h2,h3⟩
   ·rw[h2]at h1;cases h1
   ·rw[h2]at h1;simp only[Option.some.injEq]at h1;rw[h1]at h3;have:=(h3.ge g fA).2;omega
  exact⟨key kn1 k3,key kn2 k4⟩
 have R1:=zkB (k:=fr) (v:=v1) q1 (fun g hg=>by
  rcases b1 g hg with h|h
  ·exact .inl ⟨va,kT g h,h⟩
  ·exact .inr (oy g h).1)
 have R2:=zkB (k:=tn) (v:=v2) q2 (fun g hg=>by
  rcases b2 g hg with h|h
  ·exact .inl ⟨vb,jJ g h,h⟩
  ·exact .inr (oy g h).2)
 have ft: ∀g∈zaX (mput eqS fr v1 mc++mput eqS tn v2 mp),g∈B\/W.heap.size<=g:=fun g hg=>by
  rw[zc2,List.mem_append]at hg;rw[k5,zc2];rcases hg with hg|hg
  ·rcases R1.2 g hg with h|h
   ·exact .inl (List.mem_append_left _ h)
   ·rcases b1 g h with h|h
    ·exact .inl (List.mem_append_left _ (nI g h))
    ·exact .inr h
  ·rcases R2.2 g hg with h|h
   ·exact .inl (List.mem_append_right _ h)
   ·rcases b2 g h with h|h
    ·exact .inl (List.mem_append_right _ (dB g h))
    ·exact .inr h
 obtain⟨m,k7,k8⟩:=hP.wills;refine⟨_,d,c,p,wl,r,mv,tv,ps,hb,?_,⟨hP.nd,hP.ge,?_,⟨_,_,m1,m2,fun n=> ?_,fun n=> ?_,rfl,?_⟩,?_,⟨m,?_,fun n=> ?_⟩,?_⟩,⟨?_,hT.len,hT.nd,fun i T g e1 e2=> ?_⟩⟩
 ·exact(bk hC Mcp).trans hC
 ·obtain⟨es,x,hx⟩:=zbw hP.dead;exact hP.dead.keep (ss hx n1 n2)
 ·rw[kids_push];unfold RowIs;rw[zfl];cases hn:zaf n fr
  ·rw[zhV fr n,hn];simp only[Bool.false_eq_true,if_false,List.append_nil];rcases k3 n with h|⟨v,h1,h2⟩
   ·exact .inl h
   ·refine .inr ⟨v,h1,ky h1 h2 fun g hg=>⟨fun e=> ?_,fun e=> ?_⟩⟩
    ·exact zhi hn q1 h1 (kT g e) hg e
    ·exact q3 g (zde.2 ⟨_,zcZ h1,hg⟩) g (dB g e) rfl
  ·rw[zhV fr n,hn];have e:n=fr:=za2.1 hn;subst e;exact .inr ⟨v1,rfl,o1⟩
 ·rw[pars_push];unfold RowIs;rw[zfl];cases hn:zaf n tn
  ·rw[zhV tn n,hn];simp only[Bool.false_eq_true,if_false,List.append_nil];rcases k4 n with h|⟨v,h1,h2⟩
   ·exact .inl h
   ·refine .inr ⟨v,h1,ky h1 h2 fun g hg=>⟨fun e=> ?_,fun e=> ?_⟩⟩
    ·exact q3 g (nI g e) g (zde.2 ⟨_,zcZ h1,hg⟩) rfl
    ·exact zhi hn q2 h1 (jJ g e) hg e
  ·rw[zhV tn n,hn];have e:n=tn:=za2.1 hn;subst e;exact .inr ⟨v2,rfl,o2⟩
 ·refine⟨?_,(zgy _ _ _ kn1).1,(zgy _ _ _ kn2).1⟩;rw[zc2,List.nodup_append];refine⟨R1.1,R2.1,fun g hg g' eu e=> ?_⟩;subst e;rcases R1.2 g hg with h|h
  ·rcases R2.2 g eu with h'|h'
   ·exact q3 g h g h' rfl
   ·rcases b2 g h' with h'|h'
    ·exact q3 g h g (dB g h') rfl
    ·exact(oy g h').1 h
  ·rcases R2.2 g eu with h'|h'
   ·rcases b1 g h with h|h
    ·exact q3 g (nI g h) g h' rfl
    ·exact(oy g h).2 h'
   ·exact b12 g h h'
 ·exact hP.marr.same fun g cur _ hh=>bk hh Mcp
 ·obtain⟨es,x,hx⟩:=zbw k7;exact k7.keep (ss hx (fun e=>n6 e.symm) (fun e=>n8 e.symm))
 ·rcases k8 n with h|⟨A,x,h1,h2⟩
  ·exact .inl h
  ·exact .inr ⟨A,x,h1,h2.same fun g cur f hh _=>bk hh Mcp⟩
 ·obtain⟨es,x,hx⟩:=zbw hP.ren;exact hP.ren.keep (ss hx (fun e=>n7 e.symm) (fun e=>n9 e.symm))
 ·exact hT.own.same fun g cur _ hh=>bk hh Mcp
 ·obtain⟨H,hh,D,dc,f',t1,t2,t3,t4,t5,t6,t7⟩:=hT.all i T g e1 e2;refine⟨H,hh,D,dc,f',(bk t1 Mcp).trans t1,t2,t3,t4,t5.same fun g' cur f hx _=>bk hx Mcp,?_,fun hl a tE aO=> ?_⟩
  ·intro hl;obtain⟨g',off,cur,f,hA,hx,hy⟩:=t6 hl;have Gh:=t7 hl ⟨g',off,none⟩ hA;refine⟨g',off,cur,f,hA,?_,hy⟩;rw[<-hx];refine hF g' (Array.getElem?_eq_some_iff.1 hx).1 (fun e=>by subst e;rw[hc]at hx;simp at hx) (fun e=>by subst e;rw[hp]at hx;simp at hx) (fun e=>Gh ?_) (fun e=>Gh ?_)
   ·rw[k5,zc2];exact List.mem_append_left _ (nI g' e)
   ·rw[k5,zc2];exact List.mem_append_right _ (dB g' e)
  ·obtain⟨g',off,cur,f,hA,hx,hy⟩:=t6 hl;rw[hA]at tE;simp only[Option.some.injEq]at tE;rcases ft _ aO with h|h
   ·exact t7 hl a (by rw[hA,tE]) h
   ·have:=(Array.getElem?_eq_some_iff.1 hx).1;rw[<-tE]at h;simp at h;omega
end Go.Proofs.YtjhbofabmpfniaaGreatDoor
namespace Go.Proofs.YtjhbofabmpfniaaGreatDoor
open Go.RowKit Go.Shelf
attribute [local go_sem] World.cell?_alloc_mark zae za3 zam za6 zas zat zau zav zaw zax zay
attribute [local go_sem] zaj zac
def zh1:List Rec->List Rec->Bool
 |_,[]=>false
 |pre,a::r=>pre.any (fun b=>zbD a b)||zh1 (pre++[a]) r
theorem zlL: ∀(l pre:List Rec),zh1 pre l=((l.any fun a=>pre.any fun b=>zbD a b)||zkh l)
 | [],pre=>by simp[zh1,zkh]
 |a::r,pre=>by
  rw[zh1,zlL r (pre++[a]),zkh,List.any_cons];have h:(r.any fun a'=>(pre++[a]).any fun b=>zbD a' b)=((r.any fun a'=>pre.any fun b=>zbD a' b)||r.any fun y=>zbD y a):=by
   induction r with
   |nil=>rfl
   |cons x r ih=>
    rw[List.any_cons,List.any_cons,List.any_cons,ih,List.any_append,List.any_cons,List.any_nil,Bool.or_false];cases pre.any (fun b=>zbD x b)<;>cases zbD x a<;>cases(r.any fun a'=>pre.any fun b=>zbD a' b)<;>rfl
  rw[h];cases pre.any (fun b=>zbD a b)<;>cases(r.any fun a'=>pre.any fun b=>zbD a' b)<;>cases(r.any fun y=>zbD y a)<;>simp
theorem sl_take5 {α:Type} {w:World} {size:Nat} {f:α->List Value} {A:Option Addr} {xs:List α} (h:Sl w size f A xs) (k:Nat):Sl w size f A (xs.take k):=fun hl=>by
 obtain⟨b,off,hA,hb,hc⟩:=h (by rw[List.length_take]at hl;omega);refine⟨b,off,hA,hb,fun j x hx=>hc j x ?_⟩;rw[List.getElem?_take]at hx;split at hx
 ·exact hx
 ·cases hx
theorem conC_any (a b:Rec) (P:Nat) (w:World) (ha:0<=a.kind/\a.kind<=4) (hb:0<=b.kind/\b.kind<=4) (hP:w.heap[P]?=some (recO a)):Calls Tryz.prog 171 #[b.v, .pointer (some ⟨P,0,none⟩)] w (Ret w (.bool (zbD a b))):=by
 have HA:=zHi (fun W=>zmM a b W ha hb);generalize zbD a b=r at*;obtain⟨kd,nm,ot,pl,dy,tl,nu,de⟩:=a;obtain⟨kd2,nm2,ot2,pl2,dy2,tl2,nu2,de2⟩:=b;have hl:=zab hP;have hn:P≠w.heap.size:=Mcn;unfold recO at hP;obtain⟨c0,c1,c2,c3,c4,c5,c6,c7⟩:=cF8 hP;clear hP ha hb;unfold Rec.v at HA⊢;go_enter Tryz.func171,Tryz.ntmps171
 go_wp2_with (go_at_call 172;go_must(refine(HA.o _).mono ?_);rintro e wq ⟨rfl,z,rfl⟩)
 go_ret
 exact Ret.of rfl Bw
theorem zjo (l:List Rec) (A:Option Addr) (c:Nat) (ci tm:Bool) (w:World) (hc:l.length<=c) (hl:l.length<=1000) (hk: ∀x∈l,0<=x.kind/\x.kind<=4) (hS:Sl w 8 Rec.cells A l)
 (tG: ∀W,Below w.heap.size w W->Calls Tryz.prog 173 #[.slice A l.length c] W (Ret W (.bool ci))) (oR: ∀W,Below w.heap.size w W->Calls Tryz.prog 174 #[.slice A l.length c] W (Ret W (.bool tm))):
 Calls Tryz.prog 121 #[.slice A l.length c] w (Ret w (.bool (zkh l||ci||tm))):=by
 have eg: ∀args w,(callFunc 171 args).run Tryz.prog w= .ok (.enter 171 args) w:=enters_of Tryz.func171 Mco rfl;have Ht:=zHi eg;have HS:=zHi hS;have HK:=zHi hk;have E6:=zHi tG;have Ew:=zHi oR;have iX:zkh l=zh1 (l.take 0) (l.drop 0):=by rw[List.take_zero,List.drop_zero,zlL];simp
 generalize zkh l=R at*;have HP:=zHi iX;clear hS hk tG oR eg iX;go_enter Tryz.func121,Tryz.ntmps121
 go_wp2_with fail
 go_loopw [7] (fun i wr=> ∃k:Nat,k<=l.length/\i= .int .i64 k/\Hid (R=zh1 (l.take k) (l.drop k))/\Below w.heap.size w wr) (fun i _=>l.length-(intOf i).toNat)
 case atStart=>exact⟨0,Nat.zero_le _,rfl,HP.o,Below.refl _ _⟩
 case round=>
  obtain⟨k,hk,rfl,HX,hB⟩:=hrel;have HB:=zHi hB;have aE:=hB.size;by_cases aa:k<l.length
  ·have hx:=HX.o;rw[List.drop_eq_getElem_cons aa,zh1,<-List.take_succ_eq_append_getElem aa]at hx;have wB: ∀W,Below wr.heap.size wr W->W.heap[wr.heap.size]?=some (recO l[k])->Calls Tryz.prog 170 #[.slice A k c, .func (.func 171) #[] #[.pointer (some ⟨wr.heap.size,0,none⟩)]] W (Ret W (.bool ((l.take k).any fun b=>zbD l[k] b))):=fun W hW hP=>by
    refine cfRec_any 171 _ Ht.o _ A k c (l.take k) W Mc7 Mc7 ((sl_take5 HS.o k).keep (HB.o.trans (hW.mono aE))) fun x hx W' pm=> ?_
    refine(conC_any l[k] x wr.heap.size W' (HK.o _ (List.getElem_mem aa)) (HK.o x (List.mem_of_mem_take hx)) ((pm.block _ (zab hP)).trans hP)).mono ?_;rintro e wq ⟨rfl,z,rfl⟩;exact⟨rfl,pm.trans ((zaq W' z).mono pm.size)⟩
   obtain⟨b,off,hA,hb,ah⟩:=(HS.o.keep hB).at aa;have av:=zHi hx;have sQ:=zHi wB;have am:=zHi aa;generalize l[k]=x at*;generalize((l.take k).any fun b=>zbD x b)=an at*;obtain⟨kd,nm,ot,pl,dy,tl,nu,de⟩:=x;have i0:wr.cell? ⟨b,off+k*8,none⟩=some (.int .i64 kd):=ah 0 _ rfl;have i1:wr.cell? ⟨b,off+k*8+1,none⟩=some (.string nm):=ah 1 _ rfl;have i2:wr.cell? ⟨b,off+k*8+2,none⟩=some (.string ot):=ah 2 _ rfl;have i3:wr.cell? ⟨b,off+k*8+3,none⟩=some (.string pl):=ah 3 _ rfl;have i4:wr.cell? ⟨b,off+k*8+4,none⟩=some (.int .i64 dy):=ah 4 _ rfl;have i5:wr.cell? ⟨b,off+k*8+5,none⟩=some (.int .i64 tl):=ah 5 _ rfl;have i6:wr.cell? ⟨b,off+k*8+6,none⟩=some (.int .i64 nu):=ah 6 _ rfl;have i7:wr.cell? ⟨b,off+k*8+7,none⟩=some (.int .i64 de):=ah 7 _ rfl;have ar:(k:Int)<(l.length:Int):=Mcn;have aT:(0:Int)<=(k:Int):=Mcn;have fH:(k:Int)<=(c:Int):=Mcn;subst hA;clear ah hx wB HX hB;cases an
   ·go_wp2_with (go_at_call 170;go_must(refine(sQ.o _ Bw (zar _ _ _ rfl)).mono ?_);rintro e wq ⟨rfl,z,rfl⟩)
    go_round
    case rel=>exact⟨k+1,am.o,by go_num,by show _=_;rw[av.o,Bool.false_or],HB.o.trans (Below.mono (B:=wr.heap.size) Bw aE)⟩
    case measure=>have:=am.o;simp only[intOf];omega
   ·have bz:Hid (R=true):=by show _=_;rw[av.o,Bool.true_or]
    go_wp2_with (go_at_call 170;go_must(refine(sQ.o _ Bw (zar _ _ _ rfl)).mono ?_);rintro e wq ⟨rfl,z,rfl⟩)
    exact MaD
  ·have ar: ¬(k:Int)<(l.length:Int):=Mcn;have hx:=HX.o;rw[List.drop_eq_nil_of_le Mcn,zh1]at hx;have bz:Hid (R=false):=hx;clear hx;have tG:=fun W (hW:Below wr.heap.size wr W)=>E6.o W (hB.trans (hW.mono aE))
   have oR:=fun W (hW:Below wr.heap.size wr W)=>Ew.o W (hB.trans (hW.mono aE))
   have ul:=zHi tG;have Iw:=zHi oR;clear tG oR hB E6 Ew;cases ci
   ·go_wp2_with (first
     |(go_at_call 173;go_must(refine(ul.o _ Bw).mono ?_);rintro e wq ⟨rfl,z,rfl⟩)
     |(go_at_call 174;go_must(refine(Iw.o _ Bw).mono ?_);rintro e wq2 ⟨rfl,z2,rfl⟩))
    exact MaD
   ·go_wp2_with (go_at_call 173;go_must(refine(ul.o _ Bw).mono ?_);rintro e wq ⟨rfl,z,rfl⟩)
    exact MaD
def zlM (n o:ByteArray) (m:ByteArray×ByteArray):ByteArray:=if zaf m.1 n then m.2 else o
def spSt (n o:ByteArray) (m:ByteArray×ByteArray):ByteArray:=if zaf m.2 n then m.1 else zlM n o m
def spGo (n:ByteArray) (l:List (ByteArray×ByteArray)) (o:ByteArray):ByteArray:=l.foldl (spSt n) o
theorem zlN (n:ByteArray) (l:List (ByteArray×ByteArray)) (m:ByteArray×ByteArray) (o:ByteArray):spGo n (l++[m]) o=spSt n (spGo n l o) m:=by
 unfold spGo;rw[List.foldl_append];rfl
theorem spGo_eq (n:ByteArray) (l:List (ByteArray×ByteArray)):spGo n l.reverse ⟨#[]⟩=zdp n l:=by
 induction l with
 |nil=>rfl
 |cons m l ih=>
  rw[List.reverse_cons,zlN,ih];obtain⟨a,b⟩:=m;rw[zdp];unfold spSt zlM;simp only;cases h1:zaf a n
  ·cases h2:zaf b n<;>simp
  ·cases h2:zaf b n
   ·simp
   ·simp only[if_true];exact(za2.1 h1).trans (za2.1 h2).symm
def zgb (ms:List (ByteArray×ByteArray)) (dd:List ByteArray) (n:ByteArray):ByteArray:=if dd.any (zaf (spGo n ms ⟨#[]⟩))then⟨#[]⟩else spGo n ms ⟨#[]⟩
theorem zoI (s:St) (n:ByteArray):zgb s.marriages s.dead n=zaJ s n:=by
 have h:=spGo_eq n s.marriages.reverse;rw[List.reverse_reverse]at h;unfold zgb zaJ zaK;rw[h]
theorem zmZ (ms:List (ByteArray×ByteArray)) (dd:List ByteArray) (n:ByteArray) (LA CA MA DA WA RA GA:Option Addr) (n0 c0 n1 c1 n2 c2 n3 c3 n4 c4 n5 c5 n6 c6:Nat) (w:World) (hl:ms.length<=100000) (hS:Sl w 2 zaT MA ms) (bu:dd.length<=100000) (kU:dd.length<=c3) (hD:Sl w 1 sC DA dd):
 Calls Tryz.prog 48 #[.agg #[.slice LA n0 c0, .slice CA n1 c1, .slice MA ms.length c2, .slice DA dd.length c3, .slice WA n4 c4, .slice RA n5 c5, .slice GA n6 c6], .string n] w (Ret w (.string (zgb ms dd n))):=by
 have g7:=zHi hS;have ib:=zHi (fun x W (h:Below w.heap.size w W)=>zeK dd x LA CA MA DA WA RA GA n0 c0 n1 c1 ms.length c2 dd.length c3 n4 c4 n5 c5 n6 c6 W bu kU (hD.keep h));clear hS hD;go_enter Tryz.func48,Tryz.ntmps48
 go_upto_region 1 with fail
 obtain⟨W0,ao⟩: ∃W0,W0=w.alloc (.cells #[.slice LA n0 c0, .slice CA n1 c1, .slice MA ms.length c2, .slice DA dd.length c3, .slice WA n4 c4, .slice RA n5 c5, .slice GA n6 c6] 36):=⟨_,rfl⟩
 have b0:W0.heap[w.heap.size]?=some (.cells #[.slice LA n0 c0, .slice CA n1 c1, .slice MA ms.length c2, .slice DA dd.length c3, .slice WA n4 c4, .slice RA n5 c5, .slice GA n6 c6] 36):=Mc9;have aJ:Below w.heap.size w W0:=McU;rw[<-ao];have ak:=zHi aJ;have HS:=zHi (g7.o.keep aJ);obtain⟨k0,k1,k2,k3,k4,k5,k6⟩:=cF7 b0;clear ao b0 aJ g7;go_upto_region 3 with fail
 go_loopw [5,6,7] (fun v i _ wr=> ∃(k:Nat) (o:ByteArray),k<=ms.length/\i= .int .i64 k/\v= .string o/\W0=wr/\Hid (o=spGo n (ms.take k) ⟨#[]⟩)) (fun _ i _ _=>ms.length-(intOf i).toNat)
 case atStart=>exact⟨0,⟨#[]⟩,Nat.zero_le _,rfl,rfl,rfl,zHi rfl⟩
 case round=>
  obtain⟨k,o,hk,rfl,rfl,rfl,HX⟩:=hrel;by_cases aa:k<ms.length
  ·obtain⟨b,off,rfl,hb,ah⟩:=HS.o.at aa;have dS:ms.take (k+1)=ms.take k++[ms[k]]:=by rw[List.take_add_one,List.getElem?_eq_getElem aa];rfl
   have am:=zHi aa;have av:Hid (spGo n (ms.take (k+1)) ⟨#[]⟩=spSt n o ms[k]):=by show _=_;rw[dS,zlN,<-HX.o];rfl
   generalize ms[k]=m at*;obtain⟨ma,mb⟩:=m;have i0:W0.cell? ⟨b,off+k*2,none⟩=some (.string ma):=ah 0 _ rfl;have i1:W0.cell? ⟨b,off+k*2+1,none⟩=some (.string mb):=ah 1 _ rfl;have ar:(k:Int)<(ms.length:Int):=Mcn;have aT:(0:Int)<=(k:Int):=Mcn;clear ah aa dS;go_upto_region 6 with fail
   go_loopw [5,7] (fun v z wr=>W0=wr/\((z= .int .i64 0/\v= .string o)\/(z= .int .i64 1/\v= .string (zlM n o (ma,mb)))\/(z= .int .i64 2/\v= .string (spSt n o (ma,mb))))) (fun _ z _=>2-(intOf z).toNat)
   case atStart=>exact⟨rfl, .inl ⟨rfl,rfl⟩⟩
   case round=>
    obtain⟨rfl,⟨rfl,rfl⟩|⟨rfl,rfl⟩|⟨rfl,rfl⟩⟩:=hrel
    ·cases hs:zaf ma n
     ·have bp:(ma.toList==n.toList)=false:=hs;have he:zlM n o (ma,mb)=o:=by unfold zlM;simp[hs]
      exact Mau
     ·have bp:(ma.toList==n.toList)=true:=hs;have he:zlM n o (ma,mb)=mb:=by unfold zlM;simp[hs]
      exact Mau
    ·generalize hmid:zlM n o (ma,mb)=o2 at*;have HM:=zHi hmid;clear hmid;cases hs:zaf mb n
     ·have bp:(mb.toList==n.toList)=false:=hs;have HE:Hid (spSt n o (ma,mb)=o2):=by show _=_;unfold spSt;rw[HM.o];simp[hs]
      exact MaL
     ·have bp:(mb.toList==n.toList)=true:=hs;have HE:Hid (spSt n o (ma,mb)=ma):=by show _=_;unfold spSt;simp[hs]
      exact MaL
    ·go_wp2_with fail
     go_round
     case rel=>exact⟨k+1,_,am.o,by go_num,rfl,by first|exact True.intro|rfl,zHi av.o.symm⟩
     case measure=>have:=am.o;simp only[intOf];omega
  ·have ar: ¬(k:Int)<(ms.length:Int):=Mcn;have hx:=HX.o;rw[List.take_of_length_le Mcn]at hx;have sS:=zHi (fun W h=>ib.o o W h);cases hd:dd.any (zaf o)
   ·have HE:Hid (zgb ms dd n=o):=by show _=_;unfold zgb;rw[<-hx,hd];rfl
    exact Max
   ·have HE:Hid (zgb ms dd n=⟨#[]⟩):=by show _=_;unfold zgb;rw[<-hx,hd];rfl
    exact Max
end Go.Proofs.YtjhbofabmpfniaaGreatDoor
