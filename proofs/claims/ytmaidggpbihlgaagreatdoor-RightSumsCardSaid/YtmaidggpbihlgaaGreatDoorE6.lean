/- Walk of the library's Compare at lists of numbers. -/
import Derived.Test.YtmaidggpbihlgaaGreatDoorE2
import Derived.Test.YtmaidggpbihlgaaGreatDoorE4
import Derived.Test.YtmaidggpbihlgaaGreatDoorNH
import Derived.Test.YtmaidggpbihlgaaGreatDoorDK
import Derived.Test.YtmaidggpbihlgaaGreatDoorO9
import Derived.Test.YtmaidggpbihlgaaGreatDoorO0
import Derived.Test.YtmaidggpbihlgaaGreatDoorJH
import Derived.Test.YtmaidggpbihlgaaGreatDoorRD
set_option linter.unusedSimpArgs false
set_option linter.unusedVariables false
namespace Go.Proofs.YtmaidggpbihlgaaGreatDoor
open Go.RowKit Go.Shelf
theorem mem_rows {m:List (ByteArray×Value)} {g:Nat}:g∈rowBlocks m↔ ∃e∈m,blkOf e.2=some g:=by
 unfold rowBlocks
 rw[List.mem_filterMap]
theorem rows_cons (e:ByteArray×Value) (m:List (ByteArray×Value)):rowBlocks (e::m)=(blkOf e.2).toList++rowBlocks m:=by
 unfold rowBlocks
 rw[List.filterMap_cons]
 cases h:blkOf e.2<;>simp
theorem rows_append (m l:List (ByteArray×Value)):rowBlocks (m++l)=rowBlocks m++rowBlocks l:=by
 unfold rowBlocks
 exact List.filterMap_append
theorem rows_put {k:ByteArray} {v:Value}: ∀ {m:List (ByteArray×Value)},(rowBlocks m).Nodup->(∀g,blkOf v=some g->(∃v0,mget eqS k m=some v0/\blkOf v0=some g)\/g∉rowBlocks m)->
 (rowBlocks (mput eqS k v m)).Nodup/\ ∀g∈rowBlocks (mput eqS k v m),g∈rowBlocks m\/blkOf v=some g
 | [],_,_=>by
   rw[mput,rows_cons]
   have e:rowBlocks []=[]:=rfl
   rw[e]
   cases h:blkOf v<;>simp
 |x::m,hn,hv=>by
  rw[rows_cons,List.nodup_append]at hn
  obtain⟨n1,n2,n3⟩:=hn
  rw[mput]
  cases hk:eqS k x.1
  ·rw[if_neg (by simp)]
   have hv': ∀g,blkOf v=some g->(∃v0,mget eqS k m=some v0/\blkOf v0=some g)\/g∉rowBlocks m:=fun g hg=>by
    rcases hv g hg with⟨v0,h1,h2⟩|h
    ·rw[mget,hk]at h1
     exact .inl ⟨v0,by simpa using h1,h2⟩
    ·exact .inr fun h'=>h (by rw[rows_cons];exact List.mem_append_right _ h')
   obtain⟨i1,i2⟩:=rows_put n2 hv'
   rw[rows_cons,List.nodup_append]
   refine⟨⟨n1,i1,fun a ha b hb e=> ?_⟩,fun g hg=> ?_⟩
   ·subst e
    rcases i2 _ hb with h|h
    ·exact n3 a ha a h rfl
    ·rcases hv a h with⟨v0,h1,h2⟩|h'
     ·rw[mget,hk]at h1
      have h1':mget eqS k m=some v0:=by simpa using h1
      exact n3 a ha a (mem_rows.2 ⟨_,mget_mem h1',h2⟩) rfl
     ·exact h' (by rw[rows_cons];exact List.mem_append_left _ ha)
   ·rw[List.mem_append]at hg
    rcases hg with hg|hg
    ·exact .inl (by rw[rows_cons];exact List.mem_append_left _ hg)
    ·rcases i2 g hg with h|h
     ·exact .inl (by rw[rows_cons];exact List.mem_append_right _ h)
     ·exact .inr h
  ·rw[if_pos rfl,rows_cons,List.nodup_append]
   have hx:mget eqS k (x::m)=some x.2:=by rw[mget,hk];rfl
   refine⟨⟨by cases h:blkOf v<;>simp,n2,fun a ha b hb e=> ?_⟩,fun g hg=> ?_⟩
   ·subst e
    have ha':blkOf v=some a:=by
     cases h:blkOf v with
     |none=>simp[h]at ha
     |some y=>simp[h]at ha;rw[ha]
    rcases hv a ha' with⟨v0,h1,h2⟩|h'
    ·rw[hx]at h1
     simp only[Option.some.injEq]at h1
     subst h1
     exact n3 a (by rw[h2];simp) a hb rfl
    ·exact h' (by rw[rows_cons];exact List.mem_append_right _ hb)
   ·rw[List.mem_append]at hg
    rcases hg with hg|hg
    ·cases h:blkOf v with
     |none=>simp[h]at hg
     |some y=>simp[h]at hg;exact .inr (by rw[hg])
    ·exact .inl (by rw[rows_cons];exact List.mem_append_right _ hg)
theorem rows_apart {k n:ByteArray} {v v0:Value} {g:Nat} (hne:sameB n k=false): ∀ {m:List (ByteArray×Value)},(rowBlocks m).Nodup->mget eqS n m=some v->mget eqS k m=some v0->blkOf v=some g->blkOf v0≠some g
 | [],_,h,_,_=>by cases h
 |x::m,hn,h1,h2,h3=>fun h4=>by
  rw[rows_cons,List.nodup_append]at hn
  obtain⟨n1,n2,n3⟩:=hn
  rw[mget]at h1 h2
  cases ha:eqS n x.1
  ·rw[ha]at h1
   simp only[Bool.false_eq_true,if_false]at h1
   cases hb:eqS k x.1
   ·rw[hb]at h2
    simp only[Bool.false_eq_true,if_false]at h2
    exact rows_apart hne n2 h1 h2 h3 h4
   ·rw[hb]at h2
    simp only[if_true,Option.some.injEq]at h2
    subst h2
    exact n3 g (by rw[h4];simp) g (mem_rows.2 ⟨_,mget_mem h1,h3⟩) rfl
  ·rw[ha]at h1
   simp only[if_true,Option.some.injEq]at h1
   subst h1
   cases hb:eqS k x.1
   ·rw[hb]at h2
    simp only[Bool.false_eq_true,if_false]at h2
    exact n3 g (by rw[h3];simp) g (mem_rows.2 ⟨_,mget_mem h2,h4⟩) rfl
   ·have e1:n=x.1:=same_iff.1 ha
    have e2:k=x.1:=same_iff.1 hb
    rw[e1,e2,same_refl]at hne
    cases hne
theorem kids_push (s:St) (f t n:ByteArray):childrenP {s with children:=s.children++[(f,t)]} n=childrenP s n++if sameB f n then[t]else[]:=by
 unfold childrenP
 simp only[List.filter_append,List.map_append,List.filter_cons,List.filter_nil]
 cases sameB f n<;>simp
theorem pars_push (s:St) (f t n:ByteArray):parentsP {s with children:=s.children++[(f,t)]} n=parentsP s n++if sameB t n then[f]else[]:=by
 unfold parentsP
 simp only[List.filter_append,List.map_append,List.filter_cons,List.filter_nil]
 cases sameB t n<;>simp
theorem row_own {W:World} {base:Nat} {m:List (ByteArray×Value)} {n:ByteArray} {xs:List ByteArray} (h:RowIs W base m n xs): ∃A c,(mget eqS n m).getD (.slice none 0 0)= .slice A xs.length c/\OwnS W base 9 1 sC (.slice A xs.length c) xs/\(∀g,blkOf (.slice A xs.length c)=some g->mget eqS n m=some (.slice A xs.length c)):=by
 rcases h with⟨h1,rfl⟩|⟨v,h1,h2⟩
 ·exact⟨none,0,by rw[h1];rfl,OwnS.nil,fun g hg=>by cases hg⟩
 ·obtain⟨A,c,rfl,_,_⟩:=h2.sl sC_len
  exact⟨A,c,by rw[h1];rfl,h2,fun _ _=>h1⟩
theorem same_sym (a b:ByteArray):sameB a b=sameB b a:=by rw[Bool.eq_iff_iff,same_iff,same_iff];exact⟨Eq.symm,Eq.symm⟩
theorem OwnS.same {α:Type} {W W':World} {base:Nat} {e:TypeId} {size:Nat} {f:α->List Value} {v:Value} {xs:List α} (h:OwnS W base e size f v xs) (hk: ∀g cur,blkOf v=some g->W.heap[g]?=some (.cells cur e (0,0))->W'.heap[g]?=W.heap[g]?):OwnS W' base e size f v xs:=by
 rcases h with h|⟨g,o,cap,cur,rfl,hb,hh,rest⟩
 ·exact .inl h
 ·exact .inr ⟨g,o,cap,cur,rfl,hb,(hk g cur rfl hh).trans hh,rest⟩
theorem own_str {W:World} {base:Nat} {v:Value} {xs:List ByteArray} (h:OwnS W base 9 1 sC v xs) {g:Nat} (hg:blkOf v=some g): ∃cur,W.heap[g]?=some (.cells cur 9 (0,0)):=by
 rcases h with⟨rfl,_⟩|⟨k,o,c,cur,rfl,_,hk,_⟩
 ·cases hg
 ·simp only[blkOf,Option.some.injEq]at hg
  subst hg
  exact⟨cur,hk⟩
theorem wld_child {base b:Nat} {W w9:World} {B ps:List Nat} {d c p wl r:Nat} {mv tv va vb v1 v2:Value} {s:St} {la co:Int} {mc mp:List (ByteArray×Value)} {fr tn:ByteArray} (hb:base<=b) (hC:WldC W b d c p wl r mv tv la co) (hP:PplAt base W B d c p wl r mv s) (hT:TombsAt base W B tv ps s.graves)
 (k1:MapS W c ekS (fun v:Value=>v) mc) (k2:MapS W p ekS (fun v:Value=>v) mp) (k3: ∀n,RowIs W base mc n (childrenP s n)) (k4: ∀n,RowIs W base mp n (parentsP s n)) (k5:B=rowBlocks (mc++mp)) (k6:B.Nodup/\(mc.map (·.1)).Nodup/\(mp.map (·.1)).Nodup)
 (ha:OwnS W base 9 1 sC va (childrenP s fr)) (ha': ∀g,blkOf va=some g->mget eqS fr mc=some va) (hv:OwnS W base 9 1 sC vb (parentsP s tn)) (hv': ∀g,blkOf vb=some g->mget eqS tn mp=some vb)
 (o1:OwnS w9 base 9 1 sC v1 (childrenP s fr++[tn])) (o2:OwnS w9 base 9 1 sC v2 (parentsP s tn++[fr])) (b1: ∀g,blkOf v1=some g->blkOf va=some g\/W.heap.size<=g) (b2: ∀g,blkOf v2=some g->blkOf vb=some g\/W.heap.size<=g) (b12: ∀g,blkOf v1=some g->blkOf v2≠some g)
 (m1:MapS w9 c ekS (fun v:Value=>v) (mput eqS fr v1 mc)) (m2:MapS w9 p ekS (fun v:Value=>v) (mput eqS tn v2 mp)) (hF: ∀k,k<W.heap.size->k≠c->k≠p->blkOf va≠some k->blkOf vb≠some k->w9.heap[k]?=W.heap[k]?):WldAt base w9 b {s with children:=s.children++[(fr,tn)]} la co:=by
 have hnd:=hP.nd
 simp only[List.nodup_cons,List.mem_cons,List.not_mem_nil,or_false,not_or]at hnd
 obtain⟨⟨n1,n2,n3,n4⟩,⟨n5,n6,n7⟩,⟨n8,n9⟩,n10,_⟩:=hnd
 obtain⟨ec,cc,hc⟩:=mapS_block k1
 obtain⟨ep,cp,hp⟩:=mapS_block k2
 have hcell: ∀ {k:Nat} {cur:Array Value} {t:TypeId} {f:Nat×Nat},W.heap[k]?=some (.cells cur t f)->t≠9->w9.heap[k]?=W.heap[k]?:=fun {k cur t f} hk ht=>by
  refine hF k (Array.getElem?_eq_some_iff.1 hk).1 (fun e=> ?_) (fun e=> ?_) (fun e=> ?_) (fun e=> ?_)
  ·subst e;rw[hc]at hk;simp at hk
  ·subst e;rw[hp]at hk;simp at hk
  ·obtain⟨cur',h'⟩:=own_str ha e
   rw[h']at hk
   simp only[Option.some.injEq,Obj.cells.injEq]at hk
   exact ht hk.2.1.symm
  ·obtain⟨cur',h'⟩:=own_str hv e
   rw[h']at hk
   simp only[Option.some.injEq,Obj.cells.injEq]at hk
   exact ht hk.2.1.symm
 have hmap: ∀ {k:Nat} {es:Array MapEntry} {x:Nat},W.heap[k]?=some (.map es x)->k≠c->k≠p->w9.heap[k]?=W.heap[k]?:=fun {k es x} hk h1 h2=>by
  refine hF k (Array.getElem?_eq_some_iff.1 hk).1 h1 h2 (fun e=> ?_) (fun e=> ?_)
  ·obtain⟨cur',h'⟩:=own_str ha e
   rw[h']at hk;simp at hk
  ·obtain⟨cur',h'⟩:=own_str hv e
   rw[h']at hk;simp at hk
 have hva: ∀g,blkOf va=some g->g∈rowBlocks mc:=fun g hg=>mem_rows.2 ⟨_,mget_mem (ha' g hg),hg⟩
 have hvb: ∀g,blkOf vb=some g->g∈rowBlocks mp:=fun g hg=>mem_rows.2 ⟨_,mget_mem (hv' g hg),hg⟩
 obtain⟨k6,kn1,kn2⟩:=k6
 rw[k5,rows_append,List.nodup_append]at k6
 obtain⟨q1,q2,q3⟩:=k6
 have hold: ∀ {m:List (ByteArray×Value)} {n:ByteArray} {v:Value} {xs:List ByteArray},mget eqS n m=some v->OwnS W base 9 1 sC v xs->(∀g,blkOf v=some g->blkOf va≠some g/\blkOf vb≠some g)->OwnS w9 base 9 1 sC v xs:=fun {m n v xs} hm ho hne=>
  ho.same fun g cur hg hh=>hF g (Array.getElem?_eq_some_iff.1 hh).1 (fun e=>by subst e;rw[hc]at hh;simp at hh) (fun e=>by subst e;rw[hp]at hh;simp at hh) (hne g hg).1 (hne g hg).2
 have hfr1: ∀g,W.heap.size<=g->g∉rowBlocks mc/\g∉rowBlocks mp:=fun g hg=>by
  have key: ∀ {m:List (ByteArray×Value)} {f:ByteArray->List ByteArray},(m.map (·.1)).Nodup->(∀n,RowIs W base m n (f n))->g∉rowBlocks m:=fun {m f} hk hr h=>by
   obtain⟨e,he,hge⟩:=mem_rows.1 h
   have h1:=mem_mget hk (show(e.1,e.2)∈m from he)
   rcases hr e.1 with⟨h2,_⟩|⟨v,h2,h3⟩
   ·rw[h2]at h1;cases h1
   ·rw[h2]at h1
    simp only[Option.some.injEq]at h1
    rw[h1]at h3
    have:=(h3.ge g hge).2
    omega
  exact⟨key kn1 k3,key kn2 k4⟩
 have R1:=rows_put (k:=fr) (v:=v1) q1 (fun g hg=>by
  rcases b1 g hg with h|h
  ·exact .inl ⟨va,ha' g h,h⟩
  ·exact .inr (hfr1 g h).1)
 have R2:=rows_put (k:=tn) (v:=v2) q2 (fun g hg=>by
  rcases b2 g hg with h|h
  ·exact .inl ⟨vb,hv' g h,h⟩
  ·exact .inr (hfr1 g h).2)
 have hB': ∀g∈rowBlocks (mput eqS fr v1 mc++mput eqS tn v2 mp),g∈B\/W.heap.size<=g:=fun g hg=>by
  rw[rows_append,List.mem_append]at hg
  rw[k5,rows_append]
  rcases hg with hg|hg
  ·rcases R1.2 g hg with h|h
   ·exact .inl (List.mem_append_left _ h)
   ·rcases b1 g h with h|h
    ·exact .inl (List.mem_append_left _ (hva g h))
    ·exact .inr h
  ·rcases R2.2 g hg with h|h
   ·exact .inl (List.mem_append_right _ h)
   ·rcases b2 g h with h|h
    ·exact .inl (List.mem_append_right _ (hvb g h))
    ·exact .inr h
 obtain⟨m,k7,k8⟩:=hP.wills
 refine⟨_,d,c,p,wl,r,mv,tv,ps,hb,?_,⟨hP.nd,hP.ge,?_,⟨_,_,m1,m2,fun n=> ?_,fun n=> ?_,rfl,?_⟩,?_,⟨m,?_,fun n=> ?_⟩,?_⟩,⟨?_,hT.len,hT.nd,fun i T g e1 e2=> ?_⟩⟩
 ·exact(hcell hC (by decide)).trans hC
 ·obtain⟨es,x,hx⟩:=mapS_block hP.dead
  exact hP.dead.keep (hmap hx n1 n2)
 ·rw[kids_push]
  unfold RowIs
  rw[mget_mput]
  cases hn:sameB n fr
  ·rw[same_sym fr n,hn]
   simp only[Bool.false_eq_true,if_false,List.append_nil]
   rcases k3 n with h|⟨v,h1,h2⟩
   ·exact .inl h
   ·refine .inr ⟨v,h1,hold h1 h2 fun g hg=>⟨fun e=> ?_,fun e=> ?_⟩⟩
    ·exact rows_apart hn q1 h1 (ha' g e) hg e
    ·exact q3 g (mem_rows.2 ⟨_,mget_mem h1,hg⟩) g (hvb g e) rfl
  ·rw[same_sym fr n,hn]
   have e:n=fr:=same_iff.1 hn
   subst e
   exact .inr ⟨v1,rfl,o1⟩
 ·rw[pars_push]
  unfold RowIs
  rw[mget_mput]
  cases hn:sameB n tn
  ·rw[same_sym tn n,hn]
   simp only[Bool.false_eq_true,if_false,List.append_nil]
   rcases k4 n with h|⟨v,h1,h2⟩
   ·exact .inl h
   ·refine .inr ⟨v,h1,hold h1 h2 fun g hg=>⟨fun e=> ?_,fun e=> ?_⟩⟩
    ·exact q3 g (hva g e) g (mem_rows.2 ⟨_,mget_mem h1,hg⟩) rfl
    ·exact rows_apart hn q2 h1 (hv' g e) hg e
  ·rw[same_sym tn n,hn]
   have e:n=tn:=same_iff.1 hn
   subst e
   exact .inr ⟨v2,rfl,o2⟩
 ·refine⟨?_,(mput_keys _ _ _ kn1).1,(mput_keys _ _ _ kn2).1⟩
  rw[rows_append,List.nodup_append]
  refine⟨R1.1,R2.1,fun g hg g' hg' e=> ?_⟩
  subst e
  rcases R1.2 g hg with h|h
  ·rcases R2.2 g hg' with h'|h'
   ·exact q3 g h g h' rfl
   ·rcases b2 g h' with h'|h'
    ·exact q3 g h g (hvb g h') rfl
    ·exact(hfr1 g h').1 h
  ·rcases R2.2 g hg' with h'|h'
   ·rcases b1 g h with h|h
    ·exact q3 g (hva g h) g h' rfl
    ·exact(hfr1 g h).2 h'
   ·exact b12 g h h'
 ·exact hP.marr.same fun g cur _ hh=>hcell hh (by decide)
 ·obtain⟨es,x,hx⟩:=mapS_block k7
  exact k7.keep (hmap hx (fun e=>n6 e.symm) (fun e=>n8 e.symm))
 ·rcases k8 n with h|⟨A,x,h1,h2⟩
  ·exact .inl h
  ·exact .inr ⟨A,x,h1,h2.same fun g cur f hh _=>hcell hh (by decide)⟩
 ·obtain⟨es,x,hx⟩:=mapS_block hP.ren
  exact hP.ren.keep (hmap hx (fun e=>n7 e.symm) (fun e=>n9 e.symm))
 ·exact hT.own.same fun g cur _ hh=>hcell hh (by decide)
 ·obtain⟨H,hh,D,dc,f',t1,t2,t3,t4,t5,t6,t7⟩:=hT.all i T g e1 e2
  refine⟨H,hh,D,dc,f',(hcell t1 (by decide)).trans t1,t2,t3,t4,t5.same fun g' cur f hx _=>hcell hx (by decide),?_,fun hl a ha1 hin=> ?_⟩
  ·intro hl
   obtain⟨g',off,cur,f,hA,hx,hy⟩:=t6 hl
   have hnB:=t7 hl ⟨g',off,none⟩ hA
   refine⟨g',off,cur,f,hA,?_,hy⟩
   rw[<-hx]
   refine hF g' (Array.getElem?_eq_some_iff.1 hx).1 (fun e=>by subst e;rw[hc]at hx;simp at hx) (fun e=>by subst e;rw[hp]at hx;simp at hx) (fun e=>hnB ?_) (fun e=>hnB ?_)
   ·rw[k5,rows_append];exact List.mem_append_left _ (hva g' e)
   ·rw[k5,rows_append];exact List.mem_append_right _ (hvb g' e)
  ·obtain⟨g',off,cur,f,hA,hx,hy⟩:=t6 hl
   rw[hA]at ha1
   simp only[Option.some.injEq]at ha1
   rcases hB' _ hin with h|h
   ·exact t7 hl a (by rw[hA,ha1]) h
   ·have:=(Array.getElem?_eq_some_iff.1 hx).1
    rw[<-ha1]at h
    simp at h
    omega
end Go.Proofs.YtmaidggpbihlgaaGreatDoor
namespace Go.Proofs.YtmaidggpbihlgaaGreatDoor
open Go.RowKit
structure FewS (k:Nat) (s:St):Prop where
 graves:s.graves.length<=k
 kids:s.children.length<=k
 marr:s.marriages.length<=k
 dead:s.dead.length<=k
 ren:s.renounce.length<=k
 wills: ∀n,(willOf s n).length<=8
 held: ∀g∈s.graves,g.holders.length<=80*k/\g.died.length<=k/\g.fin<=200000
theorem after_le (day years:Int):afterP day years<=200000:=by
 unfold afterP addMonthsP
 simp only
 split
 ·decide
 ·split
  ·rename_i h
   have:=(inR_iff5.1 h).2
   omega
  ·decide
theorem few_zero:FewS 0 zeroSt:=⟨Nat.le_refl _,Nat.le_refl _,Nat.le_refl _,Nat.le_refl _,Nat.le_refl _,fun n=>by simp[zeroSt,willOf],by simp[zeroSt]⟩
theorem FewS.up {k:Nat} {s:St} (h:FewS k s):FewS (k+1) s:=
 ⟨Nat.le_succ_of_le h.graves,Nat.le_succ_of_le h.kids,Nat.le_succ_of_le h.marr,Nat.le_succ_of_le h.dead,Nat.le_succ_of_le h.ren,h.wills,fun g hg=>by have:=h.held g hg;exact⟨by omega,by omega,this.2.2⟩⟩
theorem without_len (l:Parts) (n:ByteArray):(withoutP l n).length<=l.length:=List.length_filter_le _ _
theorem gain_len {own:Rat}: ∀ {l out o:Parts},gainGo own l out=some o->o.length<=out.length+l.length
 | [],out,o,h=>by
   rw[gainGo]at h
   cases h
   simp
 |p::l,out,o,h=>by
  rw[gainGo]at h
  split at h
  ·cases h
  split at h
  ·cases h
  have:=gain_len h
  have h2:=given_len p.1 (own*p.2) out
  simp
  omega
theorem FewS.withG {k:Nat} {s:St} {i:Nat} {g g':Grave} (h:FewS k s) (hi:s.graves[i]?=some g) (h1:g'.holders.length<=80*k+80) (h2:g'.died.length<=k+1) (h3:g'.fin<=200000):FewS (k+1) (s.withGrave i g'):=by
 refine {h.up with graves:= ?_,held:=fun x hx=> ?_}
 ·unfold St.withGrave
  simp only[List.length_set]
  exact Nat.le_succ_of_le h.graves
 ·unfold St.withGrave at hx
  rcases List.mem_or_eq_of_mem_set hx with hx|rfl
  ·exact h.up.held x hx
  ·exact⟨by omega,h2,h3⟩
theorem few_ix {s:St} {pl:ByteArray} {day:Int} {i:Nat} (h:graveIx s pl day=some i): ∃g,s.graves[i]?=some g/\s.graves.getD i zeroG=g/\g∈s.graves:=by
 obtain⟨g,h1,_⟩:=graveIx_some h
 exact⟨g,h1,grave_at h1,List.mem_of_getElem? h1⟩
theorem few_take {laws:List Law} {s s':St} {d:Deed} {last:Int} {k:Nat} (h:FewS k s) (hk:k<60) (hG:GoodSt s last) (hd:OkD d) (hl:last<=d.day) (hlw:checkLawsP laws=0) (ht:takeD laws s d=(s',0)):FewS (k+1) s':=by
 have hto:=hd.len
 have hkd:=hd.kind
 unfold takeD at ht
 split at ht
 ·unfold grantP at ht
  split at ht
  ·simp at ht
  split at ht
  ·simp at ht
  split at ht
  ·simp at ht
  simp only[Prod.mk.injEq,and_true]at ht
  rw[<-ht]
  refine {h.up with graves:= ?_,held:=fun g hg=> ?_}
  ·have:=h.graves
   simp
   omega
  ·rcases List.mem_append.1 hg with hg|hg
   ·exact h.up.held g hg
   ·rw[List.mem_singleton.1 hg]
    have:=givenAll_len d.to []
    simp only[List.length_nil]at this⊢
    refine⟨by omega,Nat.zero_le _,?_⟩
    split
    ·exact after_le _ _
    ·decide
 split at ht
 ·unfold transferP at ht
  split at ht
  ·simp at ht
  rename_i i hi
  obtain⟨g,hg1,hg2,hgm⟩:=few_ix hi
  rw[hg2]at ht
  simp only at ht
  split at ht
  ·simp at ht
  split at ht
  ·simp at ht
  split at ht
  ·simp at ht
  split at ht
  ·simp at ht
  split at ht
  ·simp at ht
  rename_i out ho
  simp only[Prod.mk.injEq,and_true]at ht
  rw[<-ht]
  have h1:=gain_len ho
  have h2:=given_len d.frm (shareP g.holders d.frm*(1-sumQ (ratParts d.to))) (withoutP g.holders d.frm)
  have h3:=without_len g.holders d.frm
  have h4:=h.held g hgm
  have h5:(ratParts d.to).length=d.to.length:=by unfold ratParts;simp
  exact h.withG hg1 (by simp only;omega) (by simp only;omega) (by simp only;omega)
 split at ht
 ·unfold surrenderP at ht
  split at ht
  ·simp at ht
  rename_i i hi
  obtain⟨g,hg1,hg2,hgm⟩:=few_ix hi
  rw[hg2]at ht
  simp only at ht
  split at ht
  ·simp at ht
  split at ht
  ·simp at ht
  simp only[Prod.mk.injEq,and_true]at ht
  rw[<-ht]
  have h3:=without_len g.holders d.frm
  have h4:=h.held g hgm
  exact h.withG hg1 (by simp only[List.length_map];omega) (by simp only;omega) (by simp only;omega)
 split at ht
 ·unfold renewP at ht
  split at ht
  ·simp at ht
  rename_i i hi
  obtain⟨g,hg1,hg2,hgm⟩:=few_ix hi
  rw[hg2]at ht
  simp only at ht
  split at ht
  ·simp at ht
  split at ht
  ·simp at ht
  simp only[Prod.mk.injEq,and_true]at ht
  rw[<-ht]
  have h4:=h.held g hgm
  exact h.withG hg1 (by simp only;omega) (by simp only;omega) (after_le _ _)
 split at ht
 ·unfold willP at ht
  split at ht
  ·simp at ht
  simp only[Prod.mk.injEq,and_true]at ht
  rw[<-ht]
  refine {h.up with wills:=fun n=> ?_}
  rw[will_append]
  split
  ·unfold ratParts;simpa using hto
  ·exact h.wills n
 split at ht
 ·unfold renounceP at ht
  split at ht
  ·simp at ht
  split at ht
  ·simp at ht
  simp only[Prod.mk.injEq,and_true]at ht
  rw[<-ht]
  exact {h.up with ren:=by have:=h.ren;simp;omega}
 split at ht
 ·unfold childP at ht
  split at ht
  ·simp at ht
  split at ht
  ·simp at ht
  split at ht
  ·simp at ht
  simp only[Prod.mk.injEq,and_true]at ht
  rw[<-ht]
  exact {h.up with kids:=by have:=h.kids;simp;omega}
 split at ht
 ·unfold marryP at ht
  split at ht
  ·simp at ht
  split at ht
  ·simp at ht
  simp only[Prod.mk.injEq,and_true]at ht
  rw[<-ht]
  exact {h.up with marr:=by have:=h.marr;simp;omega}
 ·unfold deathP at ht
  split at ht
  ·simp at ht
  split at ht
  ·simp at ht
  rename_i gs hgs
  simp only[Prod.mk.injEq,and_true]at ht
  rw[<-ht]
  obtain⟨hlen,hat⟩:=dies_at hgs
  refine {h.up with graves:=by have:=h.graves;simp only;omega,dead:=by have:=h.dead;simp;omega,held:=fun x hx=> ?_}
  obtain⟨i,hi⟩:=List.mem_iff_getElem?.1 hx
  obtain⟨g,g1,g2⟩:=hat i x hi
  have h4:=h.held g (List.mem_of_getElem? g1)
  rcases g2 with⟨rfl,_⟩|⟨_,hs,out,e1,e2,rfl⟩
  ·exact h.up.held x (List.mem_of_getElem? g1)
  ·have h1:=gain_len e2
   have h3:=without_len g.holders d.frm
   have hsh:=law_share hlw d.day
   have hgd:=estate_good (hG.wills d.frm) hsh e1
   have hes:=(estate_same (s:=s) (n:=d.frm) (hG.wills d.frm) hsh).1 hs e1
   have hhl:=heirs_len (s:=s) (law:=lawOnP laws d.day) (n:=d.frm) (by rw[hes];exact hgd.1)
   rw[hes]at hhl
   have:=h.wills d.frm
   have:=h.kids
   simp only[List.length_append,List.length_singleton]at*
   exact⟨by omega,by omega,h4.2.2⟩
end Go.Proofs.YtmaidggpbihlgaaGreatDoor
namespace Go.Proofs.YtmaidggpbihlgaaGreatDoor
open Go.RowKit Go.Shelf
attribute [local go_sem] World.cell?_alloc_mark ext_size ext_cell ext_frozen lt_add_r lt_add_r2 lt_add_r3 lt_add_r4 lt_add_r5 lt_add_r6 lt_add_r7 lt_add_r8
attribute [local go_sem] ext_setCell alloc_setCell_lt
def cmpJ (a b:Int):Int:=if a<b then-1 else if b<a then 1 else 0
set_option maxRecDepth 100000 in
set_option maxHeartbeats 2000000 in
theorem nanJ_any (n:Int) (w:World):Calls Tryz.prog 139 #[.int .i64 n] w (Ret0 w (.bool false)):=by
 go_enter Tryz.func139,Tryz.ntmps139
 go_wp2
 go_ret
 exact⟨by simp,rfl⟩
set_option maxRecDepth 100000 in
set_option maxHeartbeats 2000000 in
theorem cmpJ_any (a b:Int) (w:World):Calls Tryz.prog 95 #[.int .i64 a, .int .i64 b] w (Ret0 w (.int .i64 (cmpJ a b))):=by
 have hX:a<b/\cmpJ a b= -1\/ ¬a<b/\b<a/\cmpJ a b=1\/ ¬a<b/\ ¬b<a/\cmpJ a b=0:=by
  unfold cmpJ
  by_cases h:a<b
  ·exact .inl ⟨h,by simp[h]⟩
  ·by_cases h2:b<a
   ·exact .inr (.inl ⟨h,h2,by simp[h,h2]⟩)
   ·exact .inr (.inr ⟨h,h2,by simp[h,h2]⟩)
 rcases hX with⟨h1,hr⟩|⟨h1,h2,hr⟩|⟨h1,h2,hr⟩<;>rw[hr]<;>clear hr<;>
 (go_enter Tryz.func95,Tryz.ntmps95
  go_wp2_with (go_at_call 139;refine(nanJ_any _ _).mono ?_;rintro e wq ⟨rfl,rfl⟩)
  go_ret
  exact⟨rfl,rfl⟩)
def lexC:List Nat->List Nat->Int
 | [],[]=>0
 | [],_::_=> -1
 |_::_,[]=>1
 |a::x,b::y=>if a<b then-1 else if b<a then 1 else lexC x y
theorem lexC_lex: ∀ {a b:List Nat},a.length=b.length->decide (0<lexC a b)=lexB b a
 | [],[],_=>rfl
 | [],_::_,h=>by simp at h
 |_::_,[],h=>by simp at h
 |a::x,b::y,h=>by
  rw[lexC,lexB]
  by_cases h1:a<b
  ·have h2: ¬b<a:=by omega
   have h3:(b==a)=false:=by simp;omega
   simp[h1,h2,h3]
  ·by_cases h2:b<a
   ·simp[h1,h2]
   ·have h3:(b==a)=true:=by simp;omega
    simp only[h1,h2,h3,if_false,decide_false,Bool.false_or,Bool.true_and]
    exact lexC_lex (by simpa using h)
set_option maxRecDepth 100000 in
set_option maxHeartbeats 2000000 in
theorem compare_any (a b:List Nat) (A B:Option Addr) (ac bc:Nat) (w:World) (ha:a.length<=ac) (hb:b.length<=bc) (ha2:a.length<=1000) (hS:Sl w 1 intC A a) (hT:Sl w 1 intC B b):
 Calls Tryz.prog 52 #[.slice A a.length ac, .slice B b.length bc] w (Ret0 w (.int .i64 (lexC a b))):=by
 have HS:=Lib.hid hS
 have HT:=Lib.hid hT
 obtain⟨R,hR⟩: ∃R,R=lexC (a.drop 0) (b.drop 0):=⟨_,rfl⟩
 rw[show lexC a b=R from by rw[hR];rfl]
 have HR:=Lib.hid hR
 clear hS hT hR
 go_enter Tryz.func52,Tryz.ntmps52
 go_wp2_with fail
 go_loopw [11] (fun i wr=> ∃k:Nat,k<=a.length/\k<=b.length/\i= .int .i64 k/\Hid (wr=w)/\Hid (R=lexC (a.drop k) (b.drop k))) (fun i _=>a.length-(intOf i).toNat)
 case atStart=>exact⟨0,Nat.zero_le _,Nat.zero_le _,rfl,rfl,HR.out⟩
 case round=>
  obtain⟨k,hk,hk2,rfl,hw,HX⟩:=hrel
  have hw:=hw.out
  subst hw
  have hk0:(0:Int)<=(k:Int):=by omega
  have hkA:(k:Int)<=(ac:Int):=by omega
  have hkB:(k:Int)<=(bc:Int):=by omega
  by_cases hlt:k<a.length
  ·have hki:(k:Int)<(a.length:Int):=by omega
   obtain⟨b1,o1,rfl,_,c1⟩:=HS.out.at hlt
   have i0:=c1 0 _ rfl
   rw[Nat.mul_one,Nat.add_zero]at i0
   by_cases hlt2:k<b.length
   ·have hki2:(k:Int)<(b.length:Int):=by omega
    have hki3: ¬(b.length:Int)<=(k:Int):=by omega
    obtain⟨b2,o2,rfl,_,c2⟩:=HT.out.at hlt2
    have j0:=c2 0 _ rfl
    rw[Nat.mul_one,Nat.add_zero]at j0
    have hx:=HX.out
    rw[List.drop_eq_getElem_cons hlt,List.drop_eq_getElem_cons hlt2,lexC]at hx
    have HLT:=Lib.hid hlt
    have HLT2:=Lib.hid hlt2
    generalize a[k]=m at*
    generalize b[k]=n at*
    have HX2:=Lib.hid hx
    have HC:=Lib.hid (fun W=>cmpJ_any m n W)
    clear hx c1 c2
    by_cases h1:m<n
    ·have hc:cmpJ m n= -1:=by unfold cmpJ;rw[if_pos (by omega)]
     have HRX:Hid (R= -1):=by show _=_;rw[HX2.out,if_pos h1]
     rw[hc]at HC
     go_wp2_with (go_at_call 95;go_must(refine(HC.out _).mono ?_);rintro e wq ⟨rfl,rfl⟩)
     go_ret
     exact⟨by rw[HRX.out];rfl,rfl⟩
    ·by_cases h2:n<m
     ·have hc:cmpJ m n=1:=by unfold cmpJ;rw[if_neg (by omega),if_pos (by omega)]
      have HRX:Hid (R=1):=by show _=_;rw[HX2.out,if_neg h1,if_pos h2]
      rw[hc]at HC
      go_wp2_with (go_at_call 95;go_must(refine(HC.out _).mono ?_);rintro e wq ⟨rfl,rfl⟩)
      go_ret
      exact⟨by rw[HRX.out];rfl,rfl⟩
     ·have hc:cmpJ m n=0:=by unfold cmpJ;rw[if_neg (by omega),if_neg (by omega)]
      have HRX:Hid (R=lexC (a.drop (k+1)) (b.drop (k+1))):=by show _=_;rw[HX2.out,if_neg h1,if_neg h2]
      rw[hc]at HC
      go_wp2_with (go_at_call 95;go_must(refine(HC.out _).mono ?_);rintro e wq ⟨rfl,rfl⟩)
      go_round
      case rel=>exact⟨k+1,HLT.out,HLT2.out,by go_num,by first|exact True.intro|rfl,HRX.out⟩
      case measure=>have:=HLT.out;simp only[intOf];omega
   ·have hki3:(b.length:Int)<=(k:Int):=by omega
    have hx:=HX.out
    rw[List.drop_eq_getElem_cons hlt,show b.drop k=[]from List.drop_eq_nil_of_le (by omega),lexC]at hx
    have HRX:Hid (R=1):=hx
    clear hx c1
    go_wp2_with fail
    go_ret
    exact⟨by rw[HRX.out];rfl,rfl⟩
  ·have hki: ¬(k:Int)<(a.length:Int):=by omega
   have hx:=HX.out
   rw[show a.drop k=[]from List.drop_eq_nil_of_le (by omega)]at hx
   by_cases hlt2:k<b.length
   ·have hab:(a.length:Int)<(b.length:Int):=by omega
    rw[List.drop_eq_getElem_cons hlt2,lexC]at hx
    have HRX:Hid (R= -1):=hx
    clear hx
    go_wp2_with fail
    go_ret
    exact⟨by rw[HRX.out];rfl,rfl⟩
   ·have hab: ¬(a.length:Int)<(b.length:Int):=by omega
    rw[show b.drop k=[]from List.drop_eq_nil_of_le (by omega),lexC]at hx
    have HRX:Hid (R=0):=hx
    clear hx
    go_wp2_with fail
    go_ret
    exact⟨by rw[HRX.out];rfl,rfl⟩
end Go.Proofs.YtmaidggpbihlgaaGreatDoor
