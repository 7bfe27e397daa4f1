import Derived.Test.YtogklihlgindkaaGreatDoorXT
set_option linter.all false
set_option maxRecDepth 100000
set_option maxHeartbeats 4000000
namespace Go.Proofs.YtogklihlgindkaaGreatDoor
open Go.RowKit
noncomputable def hOn (laws:List Law) (ds:List Deed) (place:ByteArray) (day:Int):Parts:=zbH (zaI laws ds day).1 place day
open Classical in
noncomputable def zfI (H:Int->Parts):List Int->Parts->List (Int×Parts)
 | [],_=>[]
 |d::l,b=>if H d=b then zfI H l b else(d,H d)::zfI H l (H d)
open Classical in
noncomputable def zhw (H:Int->Parts):List Int->Parts->List (Int×Parts)
 | [],_=>[]
 |d::l,b=>if H d≠b/\l.head?≠some d then(d,H d)::zhw H l (H d)else zhw H l b
def zm5:List Int->List Int
 | []=>[]
 |d::l=>if l.head?=some d then zm5 l else d::zm5 l
def zic(H:Int->Parts):∀(l:List Int) (b:Parts),zhw H l b=zfI H (zm5 l) b
 | [],_=>rfl
 |d::l,b=>by
  rw[zhw,zm5];by_cases hh:l.head?=some d
  ·rw[if_neg (λh=>h.2 hh),if_pos hh];exact zic H l b
  ·rw[if_neg hh,zfI];by_cases hb:H d=b
   ·rw[if_neg (λh=>h.1 hb),if_pos hb];exact zic H l b
   ·rw[if_pos ⟨hb,hh⟩,if_neg hb,zic H l (H d)]
def zid:∀(l:List Int) (x:Int),x∈zm5 l↔x∈l
 | [],_=>Iff.rfl
 |d::l,x=>by
  rw[zm5];split
  ·rename_i h
   rw[zid l x,List.mem_cons];refine⟨.inr,λh1=>h1.elim (λe=>?_) id⟩;subst e;exact List.mem_of_head? h
  ·rw[List.mem_cons,zid l x,List.mem_cons]
def zlf:∀ {l:List Int},l.Pairwise (· <= ·)->(zm5 l).Pairwise (· < ·)
 | [],_=>List.Pairwise.nil
 |d::l,h=>by
  obtain⟨h1,h2⟩:=List.pairwise_cons.1 h;rw[zm5];split
  ·exact zlf h2
  ·rename_i hh
   refine List.pairwise_cons.2 ⟨λx hx=>?_,zlf h2⟩;have pI:=(zid l x).1 hx;cases l with
   |nil=>simp at pI
   |cons y l=>
    have hy:=h1 y McV;have ai:d≠y:=λe=>hh (by simp[e])
    rcases List.mem_cons.1 pI with e|e
    ·omega
    ·have:=(List.pairwise_cons.1 h2).1 x e;omega
def QualT(H:Int->Parts)(S:Int->Prop):Parts->List Int->Prop
 |_,[]=>True
 |b,d::l=>(¬S d->H d=b)/\QualT H S (H d) l
open Classical in
def zgO{H:Int->Parts}{S:Int->Prop}:∀ {l:List Int} {b:Parts},QualT H S b l->zfI H (l.filter λd=>decide (S d)) b=zfI H l b
 | [],_,_=>rfl
 |d::l,b,h=>by
  rw[List.filter_cons,zfI];by_cases hs:S d
  ·rw[if_pos (by simpa using hs),zfI];by_cases hb:H d=b
   ·rw[if_pos hb,if_pos hb];exact zgO (hb▸h.2)
   ·rw[if_neg hb,if_neg hb,zgO h.2]
  ·rw[if_neg (by simpa using hs),if_pos (h.1 hs)];exact zgO ((h.1 hs)▸h.2)
def hPrev(H:Int->Parts):Option Int->Parts
 |none=>[]
 |some p=>H p
def qual_of{H:Int->Parts}{S:Int->Prop}{L:List Int}(hC:∀(prev:Option Int) (d:Int),d∈L->(∀p,prev=some p->p<d)->(∀x∈L,x<d->∃p,prev=some p/\x<=p)->¬S d->H d=hPrev H prev):
 ∀(l pre:List Int),pre++l=L->L.Pairwise (· < ·)->QualT H S (hPrev H pre.getLast?) l
 | [],_,_,_=>trivial
 |d::l,pre,he,ha=>by
  subst he;have hp:=List.pairwise_append.1 ha;refine⟨λhs=>hC _ d McV (λp kn=>hp.2.2 p (List.mem_of_getLast? kn) d McV) (λx hx ae=>?_) hs,?_⟩
  ·rcases List.mem_append.1 hx with h1|h1
   ·obtain⟨q,hq⟩:∃q,pre.getLast?=some q:=by
     cases pre with
     |nil=>simp at h1
     |cons y t=>exact⟨_,List.getLast?_eq_some_getLast McV⟩
    refine⟨q,hq,?_⟩;obtain⟨t,ht⟩:=List.getLast?_eq_some_iff.1 hq;rw[ht]at h1;rcases List.mem_append.1 h1 with h2|h2
    ·have h3:=hp.1;rw[ht]at h3;exact Int.le_of_lt ((List.pairwise_append.1 h3).2.2 x h2 q McV)
    ·simp at h2;omega
   ·have h2:=(List.pairwise_cons.1 hp.2.1).1;rcases List.mem_cons.1 h1 with h3|h3
    ·omega
    ·have:=h2 x h3;omega
  ·have:=qual_of hC l (pre++[d]) McV ha;rw[List.getLast?_append]at this;simpa[hPrev]using this
variable{L M:List Int}
def asc_eqI(h:L.Pairwise (· < ·))(k:M.Pairwise (· < ·))(hm:∀y,y∈L↔y∈M):L=M:=
 List.Perm.eq_of_pairwise (le:=λa b=>a<b) (λa b _ _ h1 h2=>by omega) h k ((List.perm_ext_iff_of_nodup (h.imp λ{a b} h1=>by omega) (k.imp λ{a b} h1=>by omega)).2 hm)
def go_same(laws:List Law){p q:Int}:∀(ds:List Deed) (s told:St) (k:Nat) (last:Int),(∀d∈ds,(d.day<=p↔d.day<=q))->zaR laws p ds s told k last=zaR laws q ds s told k last
 | [],_,_,_,_,_=>rfl
 |d::l,s,told,k,last,h=>by
  rw[zaR,zaR];have e:decide (d.day<=p)=decide (d.day<=q):=decide_eq_decide.2 (h d McV);rw[e];split
  ·rfl
  ·exact go_same laws l _ _ _ _ λx hx=>h x MeC
variable{laws:List Law}{ds:List Deed}{p q:Int}
def zjq(h:∀d∈ds,(d.day<=p↔d.day<=q)):zaI laws ds p=zaI laws ds q:=by
 unfold zaI;split
 ·rfl
 ·exact go_same laws ds _ _ _ _ h
def go_none(laws:List Law){q:Int}:∀(ds:List Deed) (s told:St) (k:Nat) (last:Int),(∀d∈ds,¬d.day<=q)->(zaR laws q ds s told k last).1=told
 | [],_,_,_,_,_=>rfl
 |d::l,s,told,k,last,h=>by
  rw[zaR];have e:decide (d.day<=q)=false:=decide_eq_false (h d McV);rw[e];split
  ·rfl
  ·exact go_none laws l _ _ _ _ λx hx=>h x MeC
def zjr(h:∀d∈ds,¬d.day<=q):(zaI laws ds q).1=zb3:=by
 unfold zaI;split
 ·rfl
 ·exact go_none laws ds _ _ _ _ h
def zm6(p:Int):∀ds:List Deed,(∀d∈ds,¬d.day<=p)\/∃m∈ds,m.day<=p/\∀x∈ds,x.day<=p->x.day<=m.day
 | []=> .inl McV
 |d::l=>by
  rcases zm6 p l with h|⟨m,hm,h1,h2⟩
  ·by_cases hd:d.day<=p
   ·refine .inr ⟨d,by simp,hd,λx hx hp=>?_⟩;rcases List.mem_cons.1 hx with e|e
    ·rw[e];omega
    ·exact absurd hp (h x e)
   ·refine .inl λx hx=>?_
    rcases List.mem_cons.1 hx with e|e
    ·rw[e];exact hd
    ·exact h x e
  ·by_cases hd:d.day<=p/\m.day<=d.day
   ·refine .inr ⟨d,by simp,hd.1,λx hx hp=>?_⟩;rcases List.mem_cons.1 hx with e|e
    ·rw[e];omega
    ·have:=h2 x e hp;omega
   ·refine .inr ⟨m,by simp[hm],h1,λx hx hp=>?_⟩;rcases List.mem_cons.1 hx with e|e
    ·rw[e]at hp⊢;omega
    ·exact h2 x e hp
def zek(place:ByteArray)(gs:List Grave):List Int:=(gs.filter λg=>zae g.place place&&decide (0<=g.fin)).map (·.fin)
def ze0(gs:List Grave):List Int:=(gs.filter λg=>decide (0<=g.fin)).map (·.fin)
noncomputable def zel (laws:List Law) (ds:List Deed) (place:ByteArray) (l:List Deed):List Int:=l.flatMap λd=>d.day::zek place (zaI laws ds d.day).1.graves
noncomputable def zfu (laws:List Law) (ds:List Deed) (l:List Deed):List Int:=l.flatMap λd=>d.day::ze0 (zaI laws ds d.day).1.graves
variable{place:ByteArray}
def zlg{x:Int}(h:x∈zel laws ds place ds):x∈zfu laws ds ds:=by
 unfold zel zfu at*;obtain⟨d,hd,hx⟩:=List.mem_flatMap.1 h;refine List.mem_flatMap.2 ⟨d,hd,?_⟩;rcases List.mem_cons.1 hx with e|e
 ·exact List.mem_cons.2 (.inl e)
 ·refine List.mem_cons.2 (.inr ?_);unfold zek ze0 at*;obtain⟨g,hg,rfl⟩:=List.mem_map.1 e;obtain⟨h1,h2⟩:=List.mem_filter.1 hg;simp only[Bool.and_eq_true]at h2;exact List.mem_map.2 ⟨g,List.mem_filter.2 ⟨h1,h2.2⟩,rfl⟩
def ix_same{s:St}(h:∀g∈s.graves,g.place=place->zaM g p=zaM g q):zaL s place p=zaL s place q:=by
 unfold zaL;have:∀l:List Grave,(∀g∈l,g.place=place->zaM g p=zaM g q)->(l.findIdx? λg=>zae g.place place&&zaM g p)=l.findIdx? λg=>zae g.place place&&zaM g q:=by
  intro l;induction l with
  |nil=>intro _;rfl
  |cons g l ih=>
   intro hl;have e:(zae g.place place&&zaM g p)=(zae g.place place&&zaM g q):=by
    cases hs:zae g.place place
    ·rfl
    ·rw[hl g McV (za2.1 hs)]
   rw[List.findIdx?_cons,List.findIdx?_cons,e,ih λx hx=>hl x MeC]
 exact this s.graves h
def hOn_same(uI:p<=q)(h:∀x∈zel laws ds place ds,¬(p<x/\x<=q)):hOn laws ds place q=hOn laws ds place p:=by
 have hd:∀d∈ds,(d.day<=q↔d.day<=p):=λd hd=>by
  have:=h d.day (List.mem_flatMap.2 ⟨d,hd,by simp⟩);omega
 unfold hOn;rw[zjq hd];rcases zm6 p ds with h0|⟨m,hm,h1,h2⟩
 ·rw[zjr h0];rfl
 ·have e:zaI laws ds p=zaI laws ds m.day:=zjq λd hd=>⟨λh=>h2 d hd h,λh=>by omega⟩
  rw[e];unfold zbH;rw[ix_same (p:=q) (q:=p)];intro g hg kn;have cZ:=h g.fin;unfold zaM;by_cases h0:g.fin<0
  ·simp[h0]
  ·have aQ:g.fin∈zel laws ds place ds:=List.mem_flatMap.2 ⟨m,hm,List.mem_cons.2 (.inr (List.mem_map.2 ⟨g,List.mem_filter.2 ⟨hg,by simp only[Bool.and_eq_true];exact⟨za2.2 kn,by simpa using(show(0:Int)<=g.fin by omega)⟩⟩,rfl⟩))⟩;have h3:=cZ aQ;have e2:decide (q<g.fin)=decide (p<g.fin):=decide_eq_decide.2 ⟨λh=>by omega,λh=>by omega⟩;rw[e2]
def hOn_none(h:∀d∈ds,¬d.day<=q):hOn laws ds place q=[]:=by
 unfold hOn;rw[zjr h];rfl
open Classical in
def zm7(hL:L.Pairwise (· < ·))(hM:M.Pairwise (· < ·))(hl:∀x,x∈L↔x∈zel laws ds place ds)(hm:∀x,x∈M↔x∈zfu laws ds ds):
 zfI (hOn laws ds place) L []=zfI (hOn laws ds place) M []:=by
 have hq:QualT (hOn laws ds place) (· ∈L) [] M:=qual_of (L:=M) (λprev d hd h1 h2 hs=>by
  have ft:∀x∈zel laws ds place ds,x≠d:=λx hx e=>hs ((hl d).2 (e▸hx))
  cases prev with
  |none=>
   refine hOn_none λy hy bG=>?_
   have Iu:y.day∈zel laws ds place ds:=List.mem_flatMap.2 ⟨y,hy,by simp⟩;have:=ft _ Iu;obtain⟨p,hp,_⟩:=h2 y.day ((hm _).2 (zlg Iu)) McS;cases hp
  |some p=>
   refine hOn_same (Int.le_of_lt (h1 p rfl)) λx hx ae=>?_
   have:=ft x hx;obtain⟨p',hp,bG⟩:=h2 x ((hm _).2 (zlg hx)) McS;cases hp
   omega) M [] rfl hM
 rw[<-zgO hq];congr 1
 exact asc_eqI hL (hM.filter _) λy=>by
  rw[List.mem_filter];simp only[decide_eq_true_eq];exact⟨λh=>⟨(hm y).2 (zlg ((hl y).1 h)),h⟩,λh=>h.2⟩
