/- The library's sort, laid at the parts. -/
import Derived.Test.YtmaidggpbihlgaaGreatDoorNC
import Derived.Shelf.SlSortCmp.WholeK
import Derived.Shelf.SlSortCmp.NoneTotal
import Derived.Test.YtmaidggpbihlgaaGreatDoorJ0
set_option linter.unusedSimpArgs false
set_option linter.unusedVariables false
namespace Go.Proofs.YtmaidggpbihlgaaGreatDoor
open Go.RowKit
theorem lessB_irr: ∀l:List UInt8,Op.bytesLess l l=false
 | []=>rfl
 |a::l=>by rw[Op.bytesLess,lessB_irr l];simp
theorem lessB_trans: ∀ {a b c:List UInt8},Op.bytesLess a b=true->Op.bytesLess b c=true->Op.bytesLess a c=true
 |_,[],_,h,_=>by unfold Op.bytesLess at h;simp at h
 |_,_::_,[],_,h=>by unfold Op.bytesLess at h;simp at h
 | [],_::_,_::_,_,_=>rfl
 |a::x,b::y,c::z,h1,h2=>by
  have ih:= @lessB_trans x y z
  simp only[Op.bytesLess,Bool.or_eq_true,decide_eq_true_eq,Bool.and_eq_true,beq_iff_eq,UInt8.lt_iff_toNat_lt]at h1 h2⊢
  rcases h1 with h1|⟨rfl,h1⟩<;>rcases h2 with h2|⟨rfl,h2⟩
  ·exact .inl (by omega)
  ·exact .inl h1
  ·exact .inl h2
  ·exact .inr ⟨rfl,ih h1 h2⟩
theorem lessB_tri: ∀a b:List UInt8,Op.bytesLess a b=true\/a=b\/Op.bytesLess b a=true
 | [],[]=> .inr (.inl rfl)
 | [],_::_=> .inl rfl
 |_::_,[]=> .inr (.inr rfl)
 |a::x,b::y=>by
  have ih:=lessB_tri x y
  simp only[Op.bytesLess,Bool.or_eq_true,decide_eq_true_eq,Bool.and_eq_true,beq_iff_eq,List.cons.injEq,UInt8.lt_iff_toNat_lt]
  rcases Nat.lt_trichotomy a.toNat b.toNat with h|h|h
  ·exact .inl (.inl h)
  ·have h':a=b:=UInt8.toNat_inj.1 h
   subst h'
   rcases ih with ih|ih|ih
   ·exact .inl (.inr ⟨rfl,ih⟩)
   ·exact .inr (.inl ⟨rfl,ih⟩)
   ·exact .inr (.inr (.inr ⟨rfl,ih⟩))
  ·exact .inr (.inr (.inl h))
theorem lessN_irr (a:ByteArray):lessN a a=false:=lessB_irr _
theorem lessN_trans {a b c:ByteArray} (h:lessN a b=true) (k:lessN b c=true):lessN a c=true:=lessB_trans h k
theorem lessN_tri (a b:ByteArray):lessN a b=true\/a=b\/lessN b a=true:=by
 rcases lessB_tri a.toList b.toList with h|h|h
 ·exact .inl h
 ·exact .inr (.inl (same_iff.1 (by unfold sameB;simpa using h)))
 ·exact .inr (.inr h)
theorem lessN_ne {a b:ByteArray} (h:lessN a b=true):a≠b:=by
 rintro rfl
 rw[lessN_irr]at h
 cases h
theorem lessN_asym {a b:ByteArray} (h:lessN a b=true):lessN b a=false:=by
 rw[<-Bool.not_eq_true]
 intro k
 have:=lessN_trans h k
 rw[lessN_irr]at this
 cases this
structure GoodParts (l:Parts):Prop where
 asc:l.Pairwise fun a b=>lessN a.1 b.1=true
 pos: ∀p∈l,0<p.2
theorem sum_given (n:ByteArray) (q:Rat): ∀l:Parts,sumQ (givenP l n q)=sumQ l+q
 | []=>by
   unfold givenP
   split
   ·rename_i h
    have:q=0:=by simpa using h
    subst this
    simp[sumQ];grind
   ·simp[sumQ];grind
 |p::r=>by
  have ih:=sum_given n q r
  unfold givenP
  split
  ·rename_i h
   have:q=0:=by simpa using h
   subst this
   grind
  ·split
   ·rw[sumQ,ih,sumQ];grind
   ·split
    ·rw[sumQ,sumQ];grind
    ·rw[sumQ,sumQ];grind
theorem given_mem {n:ByteArray} {q:Rat}: ∀ {l:Parts} {p:ByteArray×Rat},p∈givenP l n q->p.1=n\/p∈l
 | [],p,h=>by
   unfold givenP at h
   split at h
   ·exact .inr h
   ·simp at h;exact .inl (by rw[h])
 |x::r,p,h=>by
  unfold givenP at h
  split at h
  ·exact .inr h
  ·split at h
   ·rcases List.mem_cons.1 h with rfl|h
    ·exact .inr (by simp)
    ·rcases given_mem h with h|h
     ·exact .inl h
     ·exact .inr (by simp[h])
   ·split at h
    ·rcases List.mem_cons.1 h with rfl|h
     ·exact .inl rfl
     ·exact .inr (by simp[h])
    ·rcases List.mem_cons.1 h with rfl|h
     ·exact .inl rfl
     ·exact .inr h
theorem given_good {n:ByteArray} {q:Rat} (hq:0<=q): ∀ {l:Parts},GoodParts l->GoodParts (givenP l n q)
 | [],_=>by
   unfold givenP
   split
   ·exact⟨List.Pairwise.nil,by simp⟩
   ·rename_i h
    have:q≠0:=by simpa using h
    exact⟨by simp,by intro p hp;simp at hp;rw[hp];show 0<q;grind⟩
 |x::r,⟨h1,h2⟩=>by
  have hr:GoodParts r:=⟨(List.pairwise_cons.1 h1).2,fun p hp=>h2 p (by simp[hp])⟩
  have hx:=(List.pairwise_cons.1 h1).1
  unfold givenP
  split
  ·exact⟨h1,h2⟩
  ·rename_i h
   have hq0:0<q:=by have:q≠0:=by simpa using h
                    grind
   split
   ·rename_i hl
    have ih:=given_good (n:=n) hq hr
    refine⟨List.pairwise_cons.2 ⟨fun p hp=> ?_,ih.asc⟩,fun p hp=> ?_⟩
    ·rcases given_mem hp with e|hp
     ·rw[e];exact hl
     ·exact hx p hp
    ·rcases List.mem_cons.1 hp with rfl|hp
     ·exact h2 _ (by simp)
     ·exact ih.pos p hp
   ·rename_i hl
    split
    ·rename_i hs
     have e:=same_iff.1 hs
     refine⟨List.pairwise_cons.2 ⟨fun p hp=>by rw[<-e];exact hx p hp,hr.asc⟩,fun p hp=> ?_⟩
     rcases List.mem_cons.1 hp with rfl|hp
     ·have:=h2 x (by simp)
      show 0<x.2+q
      grind
     ·exact hr.pos p hp
    ·rename_i hs
     have hnx:lessN n x.1=true:=by
      rcases lessN_tri n x.1 with k|k|k
      ·exact k
      ·exact absurd (same_iff.2 k.symm) hs
      ·exact absurd k hl
     refine⟨List.pairwise_cons.2 ⟨fun p hp=> ?_,h1⟩,fun p hp=> ?_⟩
     ·rcases List.mem_cons.1 hp with rfl|hp
      ·exact hnx
      ·exact lessN_trans hnx (hx p hp)
     ·rcases List.mem_cons.1 hp with rfl|hp
      ·exact hq0
      ·exact h2 p hp
theorem share_none {n:ByteArray}: ∀ {l:Parts},(∀p∈l,p.1≠n)->shareP l n=0/\withoutP l n=l
 | [],_=>⟨rfl,rfl⟩
 |x::r,h=>by
  have ih:=share_none (l:=r) fun p hp=>h p (by simp[hp])
  have hx:sameB x.1 n=false:=same_ne.2 (h x (by simp))
  unfold shareP withoutP at*
  rw[List.find?_cons,hx,List.filter_cons,hx]
  exact⟨ih.1,by simpa using ih.2⟩
theorem without_sum {n:ByteArray}: ∀ {l:Parts},GoodParts l->sumQ (withoutP l n)+shareP l n=sumQ l
 | [],_=>by simp only[withoutP,shareP,sumQ,List.filter_nil,List.find?_nil,Option.map_none,Option.getD_none];grind
 |x::r,⟨h1,h2⟩=>by
  have hr:GoodParts r:=⟨(List.pairwise_cons.1 h1).2,fun p hp=>h2 p (by simp[hp])⟩
  have hx:=(List.pairwise_cons.1 h1).1
  have ih:=without_sum (n:=n) hr
  by_cases hs:x.1=n
  ·have hn:=share_none (n:=n) (l:=r) fun p hp e=>by
    have:=lessN_ne (hx p hp)
    exact this (by rw[e,hs])
   have e1:withoutP (x::r) n=withoutP r n:=by
    unfold withoutP
    rw[List.filter_cons,same_iff.2 hs]
    rfl
   have e2:shareP (x::r) n=x.2:=by
    unfold shareP
    rw[List.find?_cons,same_iff.2 hs]
    rfl
   rw[e1,e2,hn.2,sumQ]
   grind
  ·have hf:sameB x.1 n=false:=same_ne.2 hs
   have e1:withoutP (x::r) n=x::withoutP r n:=by
    unfold withoutP
    rw[List.filter_cons,hf]
    rfl
   have e2:shareP (x::r) n=shareP r n:=by
    unfold shareP
    rw[List.find?_cons,hf]
   rw[e1,e2,sumQ,sumQ,<-ih]
   grind
theorem without_good {n:ByteArray} {l:Parts} (h:GoodParts l):GoodParts (withoutP l n):=
 ⟨h.asc.sublist List.filter_sublist,fun p hp=>h.pos p ((List.mem_filter.1 hp).1)⟩
theorem sum_nonneg: ∀ {l:Parts},(∀p∈l,0<=p.2)->0<=sumQ l
 | [],_=>by simp[sumQ]
 |x::r,h=>by
  have ih:=sum_nonneg (l:=r) fun p hp=>h p (by simp[hp])
  have hx:=h x (by simp)
  rw[sumQ]
  grind
theorem mem_le_sum: ∀ {l:Parts},(∀p∈l,0<=p.2)-> ∀p∈l,p.2<=sumQ l
 |x::r,h,p,hp=>by
  have hr:=sum_nonneg (l:=r) fun p hp=>h p (by simp[hp])
  have hx:=h x (by simp)
  rw[sumQ]
  rcases List.mem_cons.1 hp with rfl|hp
  ·grind
  ·have:=mem_le_sum (l:=r) (fun p hp=>h p (by simp[hp])) p hp
   grind
end Go.Proofs.YtmaidggpbihlgaaGreatDoor
namespace Go.Proofs.YtmaidggpbihlgaaGreatDoor
open Go.RowKit
mutual
def okT:Tree->Bool
 | .leaf _=>true
 | .node l=>!l.isEmpty&&okL l
def okL:List Tree->Bool
 | []=>true
 |x::l=>okT x&&okL l
end
theorem okL_iff: ∀ {l:List Tree},okL l=true↔ ∀x∈l,okT x=true
 | []=>by simp[okL]
 |x::l=>by rw[okL,Bool.and_eq_true,okL_iff];simp
theorem trees_ok (s:St) (stems:Bool) (frm:ByteArray): ∀(f:Nat) (n:ByteArray),okL (treesP s stems frm f n)=true
 |0,_=>rfl
 |f+1,n=>by
  rw[okL_iff]
  intro x hx
  rw[treesP,List.mem_filterMap]at hx
  obtain⟨c,_,hc⟩:=hx
  split at hc
  ·cases hc;rfl
  ·split at hc
   ·rename_i hs
    cases hc
    rw[Bool.and_eq_true]at hs
    rw[okT,hs.2,trees_ok s stems frm f c]
    rfl
   ·cases hc
theorem ratN {n:Nat} (h:n≠0):(n:Rat)≠0:=by
 intro e
 apply h
 have:((n:Int):Rat)=((0:Int):Rat):=by simpa using e
 have:=Rat.intCast_inj.1 this
 omega
theorem ratN_pos {n:Nat} (h:n≠0):(0:Rat)<(n:Rat):=by
 have h1:=ratN h
 have h2:(0:Rat)<=(n:Rat):=Rat.natCast_nonneg
 grind
theorem rat_div_nonneg {a b:Rat} (h:0<=a) (hb:0<=b):0<=a/b:=by
 rw[Rat.div_def]
 by_cases h0:b=0
 ·subst h0
  rw[Rat.inv_zero]
  grind
 ·have:0<b⁻¹:=Rat.inv_pos.2 (by grind)
  exact Rat.mul_nonneg h (by grind)
mutual
theorem spread_sum {each:Rat}: ∀ {l:List Tree} {out o:Parts},okL l=true->spreadP each l out=some o->sumQ o=sumQ out+each*(l.length:Rat)
 | [],out,o,_,h=>by
   rw[spreadP]at h
   cases h
   simp only[List.length_nil]
   have:((0:Nat):Rat)=0:=rfl
   grind
 |x::l,out,o,hk,h=>by
  rw[okL,Bool.and_eq_true]at hk
  rw[spreadP,Option.bind_eq_some_iff]at h
  obtain⟨o1,h1,h2⟩:=h
  have e1:=tree_sum hk.1 h1
  have e2:=spread_sum hk.2 h2
  rw[e2,e1,List.length_cons]
  have:((l.length+1:Nat):Rat)=(l.length:Rat)+1:=by simp
  grind
theorem tree_sum {each:Rat}: ∀ {x:Tree} {out o:Parts},okT x=true->treeP each x out=some o->sumQ o=sumQ out+each
 | .leaf n,out,o,_,h=>by
   rw[treeP]at h
   split at h
   ·cases h
   ·cases h
    exact sum_given n each out
 | .node l,out,o,hk,h=>by
   rw[okT,Bool.and_eq_true]at hk
   rw[treeP]at h
   split at h
   ·cases h
   ·have e:=spread_sum hk.2 h
    rw[e]
    have h0:l.length≠0:=by
     intro e0
     have:=List.eq_nil_of_length_eq_zero e0
     rw[this]at hk
     exact absurd hk.1 (by decide)
    have:=ratN h0
    grind
end
mutual
theorem spread_good {each:Rat} (he:0<=each): ∀ {l:List Tree} {out o:Parts},GoodParts out->largeP out=false->spreadP each l out=some o->GoodParts o/\largeP o=false
 | [],out,o,hg,hl,h=>by
   rw[spreadP]at h
   cases h
   exact⟨hg,hl⟩
 |x::l,out,o,hg,hl,h=>by
  rw[spreadP,Option.bind_eq_some_iff]at h
  obtain⟨o1,h1,h2⟩:=h
  have e1:=tree_good he hg hl h1
  exact spread_good he e1.1 e1.2 h2
theorem tree_good {each:Rat} (he:0<=each): ∀ {x:Tree} {out o:Parts},GoodParts out->largeP out=false->treeP each x out=some o->GoodParts o/\largeP o=false
 | .leaf n,out,o,hg,hl,h=>by
   rw[treeP]at h
   split at h
   ·cases h
   ·rename_i hb
    cases h
    exact⟨given_good he hg,by simpa using hb⟩
 | .node l,out,o,hg,hl,h=>by
   rw[treeP]at h
   split at h
   ·cases h
   ·exact spread_good (rat_div_nonneg he Rat.natCast_nonneg) hg hl h
end
end Go.Proofs.YtmaidggpbihlgaaGreatDoor
namespace Go.Proofs.YtmaidggpbihlgaaGreatDoor
open Go.RowKit
def IsN (n:Nat) (q:Rat):Prop:= ∃k:Int,q*(n:Rat)=(k:Rat)
theorem isN_add {n:Nat} {p q:Rat} (h:IsN n p) (k:IsN n q):IsN n (p+q):=by
 obtain⟨a,ha⟩:=h
 obtain⟨b,hb⟩:=k
 refine⟨a+b,?_⟩
 rw[Rat.intCast_add,<-ha,<-hb]
 grind
theorem isN_sub {n:Nat} {p q:Rat} (h:IsN n p) (k:IsN n q):IsN n (p-q):=by
 obtain⟨a,ha⟩:=h
 obtain⟨b,hb⟩:=k
 refine⟨a-b,?_⟩
 rw[Rat.intCast_sub,<-ha,<-hb]
 grind
theorem isN_mul {n m:Nat} {p q:Rat} (h:IsN n p) (k:IsN m q):IsN (n*m) (p*q):=by
 obtain⟨a,ha⟩:=h
 obtain⟨b,hb⟩:=k
 refine⟨a*b,?_⟩
 rw[Rat.intCast_mul,<-ha,<-hb,Rat.natCast_mul]
 grind
theorem isN_up {n m:Nat} {q:Rat} (h:IsN n q):IsN (n*m) q:=by
 obtain⟨a,ha⟩:=h
 refine⟨a*m,?_⟩
 rw[Rat.intCast_mul,<-ha,Rat.natCast_mul,Rat.intCast_natCast]
 grind
theorem isN_one (n:Nat):IsN n 1:=⟨n,by rw[Rat.intCast_natCast];grind⟩
theorem isN_zero (n:Nat):IsN n 0:=⟨0,by grind⟩
theorem isN_den {n:Nat} {q:Rat} (hn:0<n) (h:IsN n q):(q.den:Int)<=n:=by
 obtain⟨a,ha⟩:=h
 have h0:=ratN (n:=n) (by omega)
 have e:q=Rat.divInt a n:=by
  rw[Rat.divInt_eq_div,Rat.intCast_natCast,<-ha]
  grind
 rw[e,divInt_den (by omega)]
 exact Int.ediv_le_self _ (by omega)
theorem share_isN {num den:Int} (h:isShareP 16 num den=true):IsN 720720 (Rat.divInt num den):=by
 have hs:=share_rat h
 unfold isShareP at h
 simp only[Bool.and_eq_true,decide_eq_true_eq]at h
 obtain⟨⟨⟨h1,h2⟩,_⟩,_⟩:=h
 obtain⟨m,hm⟩: ∃m:Int,720720=den*m:=by
  have:den=1\/den=2\/den=3\/den=4\/den=5\/den=6\/den=7\/den=8\/den=9\/den=10\/den=11\/den=12\/den=13\/den=14\/den=15\/den=16:=by omega
  rcases this with rfl|rfl|rfl|rfl|rfl|rfl|rfl|rfl|rfl|rfl|rfl|rfl|rfl|rfl|rfl|rfl
  all_goals first|exact⟨720720,rfl⟩|exact⟨360360,rfl⟩|exact⟨240240,rfl⟩|exact⟨180180,rfl⟩|exact⟨144144,rfl⟩|exact⟨120120,rfl⟩|exact⟨102960,rfl⟩|exact⟨90090,rfl⟩|exact⟨80080,rfl⟩|exact⟨72072,rfl⟩|exact⟨65520,rfl⟩|exact⟨60060,rfl⟩|exact⟨55440,rfl⟩|exact⟨51480,rfl⟩|exact⟨48048,rfl⟩|exact⟨45045,rfl⟩
 refine⟨num*m,?_⟩
 have hd:(den:Rat)≠0:=ratI (by omega)
 have e:((720720:Nat):Rat)=(den:Rat)*(m:Rat):=by
  rw[<-Rat.intCast_mul,<-hm]
  rfl
 rw[Rat.divInt_eq_div,e,Rat.intCast_mul]
 grind
theorem given_isN {n:Nat} {nm:ByteArray} {q:Rat} (hq:IsN n q): ∀ {l:Parts},(∀p∈l,IsN n p.2)-> ∀p∈givenP l nm q,IsN n p.2
 | [],_,p,hp=>by
   unfold givenP at hp
   split at hp
   ·cases hp
   ·simp at hp;rw[hp];exact hq
 |x::r,h,p,hp=>by
  have hr:=given_isN (nm:=nm) hq (l:=r) fun p hp=>h p (by simp[hp])
  unfold givenP at hp
  split at hp
  ·exact h p hp
  ·split at hp
   ·rcases List.mem_cons.1 hp with rfl|hp
    ·exact h _ (by simp)
    ·exact hr p hp
   ·split at hp
    ·rcases List.mem_cons.1 hp with rfl|hp
     ·exact isN_add (h x (by simp)) hq
     ·exact h p (by simp[hp])
    ·rcases List.mem_cons.1 hp with rfl|hp
     ·exact hq
     ·exact h p hp
theorem small_of {n:Nat} (h0:0<n) (h1:n<=1000000000) {l:Parts} (h: ∀p∈l,IsN n p.2):largeP l=false:=by
 unfold largeP
 rw[List.any_eq_false]
 intro p hp
 have:=isN_den h0 (h p hp)
 unfold bigQ
 simp
 omega
structure WillOk (l:Parts):Prop where
 pos: ∀p∈l,0<p.2
 isN: ∀p∈l,IsN 720720 p.2
 le:sumQ l<=1
theorem will_go {s:St} {frm:ByteArray}: ∀ {l out:Parts} {rest:Rat},(∀p∈l,0<p.2)->(∀p∈l,IsN 720720 p.2)->sumQ l<=rest->GoodParts out->(∀p∈out,IsN 720720 p.2)->IsN 720720 rest->
 GoodParts (willGo s frm l out rest).1/\(∀p∈(willGo s frm l out rest).1,IsN 720720 p.2)/\IsN 720720 (willGo s frm l out rest).2/\0<=(willGo s frm l out rest).2/\sumQ (willGo s frm l out rest).1+(willGo s frm l out rest).2=sumQ out+rest
 | [],out,rest,_,_,hs,hg,hn,hr=>by
   rw[willGo]
   exact⟨hg,hn,hr,by simpa[sumQ]using hs,rfl⟩
 |p::l,out,rest,hp,hN,hs,hg,hn,hr=>by
  have hp0:=hp p (by simp)
  have hl:=fun q (hq:q∈l)=>hp q (by simp[hq])
  have hNl:=fun q (hq:q∈l)=>hN q (by simp[hq])
  rw[sumQ]at hs
  rw[willGo]
  split
  ·have ih:=will_go (s:=s) (frm:=frm) hl hNl (rest:=rest-p.2) (out:=givenP out p.1 p.2) (by grind) (given_good (by grind) hg) (given_isN (hN p (by simp)) hn) (isN_sub hr (hN p (by simp)))
   refine⟨ih.1,ih.2.1,ih.2.2.1,ih.2.2.2.1,?_⟩
   rw[ih.2.2.2.2,sum_given]
   grind
  ·exact will_go (s:=s) (frm:=frm) hl hNl (by grind) hg hn hr
theorem good_nil:GoodParts []:=⟨List.Pairwise.nil,by simp⟩
theorem estate_good {s:St} {law:Law} {n:ByteArray} {o:Parts} (hw:WillOk (willOf s n)) (hl:isShareP 16 law.num law.den=true) (h:estateP s law n=some o):GoodParts o/\sumQ o=1/\largeP o=false:=by
 unfold estateP at h
 have hg:=will_go (s:=s) (frm:=n) (out:=[]) (rest:=1) hw.pos hw.isN hw.le good_nil (by simp) (isN_one _)
 generalize hq:willGo s n (willOf s n) [] 1=q at*
 obtain⟨out,rest⟩:=q
 dsimp only at h hg
 obtain⟨g1,g2,g3,g4,g5⟩:=hg
 rw[sumQ]at g5
 split at h
 ·rename_i h0
  cases h
  have:rest=0:=by simpa using h0
  exact⟨g1,by grind,small_of (by decide) (by decide) g2⟩
 rename_i h0
 have hr0:rest≠0:=by simpa using h0
 generalize hsp:(if ableP s (spouseP s n) n=true then spouseP s n else⟨#[]⟩)=sp at*
 split at h
 ·cases h
  refine⟨given_good g4 g1,by rw[sum_given];grind,small_of (by decide) (by decide) (given_isN g3 g2)⟩
 rename_i hne
 have hlen:(treesP s law.stems n (generations s) n).length≠0:=by
  intro e
  rw[List.eq_nil_of_length_eq_zero e]at hne
  exact hne rfl
 have hok:=trees_ok s law.stems n (generations s) n
 generalize treesP s law.stems n (generations s) n=ts at*
 obtain⟨_,_,l1,l2⟩:=share_rat hl
 have hd:isShareP 16 law.num law.den=true:=hl
 have hN:IsN 720720 (Rat.divInt law.num law.den):=share_isN hl
 have key: ∃own out2,own=(if noB sp=true then 0 else rest*Rat.divInt law.num law.den)/\out2=(if noB sp=true then out else givenP out sp own)/\0<=own/\own<=rest/\GoodParts out2/\sumQ out2=sumQ out+own/\largeP out2=false:=by
  by_cases hs:noB sp=true
  ·exact⟨0,out,by rw[if_pos hs],by rw[if_pos hs],by grind,g4,g1,by grind,small_of (by decide) (by decide) g2⟩
  ·have h1:0<=rest*Rat.divInt law.num law.den:=Rat.mul_nonneg g4 l1
   have h2:rest*Rat.divInt law.num law.den<=rest:=by
    have:=Rat.mul_le_mul_of_nonneg_left l2 g4
    grind
   refine⟨rest*Rat.divInt law.num law.den,givenP out sp (rest*Rat.divInt law.num law.den),by rw[if_neg hs],by rw[if_neg hs],h1,h2,given_good h1 g1,sum_given _ _ _,?_⟩
   have hdd: ∃d:Nat,0<d/\d<=16/\IsN d (Rat.divInt law.num law.den):=by
    unfold isShareP at hd
    simp only[Bool.and_eq_true,decide_eq_true_eq]at hd
    refine⟨law.den.toNat,by omega,by omega,law.num,?_⟩
    have hz:(law.den:Rat)≠0:=ratI (by omega)
    have e:((law.den.toNat:Nat):Rat)=(law.den:Rat):=by rw[<-Rat.intCast_natCast,Int.toNat_of_nonneg (by omega)]
    rw[Rat.divInt_eq_div,e]
    grind
   obtain⟨d,d0,d1,hdN⟩:=hdd
   exact small_of (n:=720720*d) (by omega) (by omega) (given_isN (isN_mul g3 hdN) fun p hp=>isN_up (g2 p hp))
 obtain⟨own,out2,ho,ho2,k0,k1,k2,k3,k4⟩:=key
 rw[<-ho,<-ho2]at h
 split at h
 ·rename_i hz
  cases h
  have:rest-own=0:=by simpa using hz
  exact⟨k2,by grind,k4⟩
 ·split at h
  ·cases h
  ·have hnn:0<=(rest-own)/(ts.length:Rat):=rat_div_nonneg (by grind) Rat.natCast_nonneg
   obtain⟨m1,m2⟩:=spread_good hnn k2 k4 h
   refine⟨m1,?_,m2⟩
   rw[spread_sum hok h,k3]
   have:=ratN hlen
   grind
end Go.Proofs.YtmaidggpbihlgaaGreatDoor
namespace Go.Proofs.YtmaidggpbihlgaaGreatDoor
open Go.RowKit
theorem gain_good {own:Rat} (h0:0<=own): ∀ {l out o:Parts},(∀p∈l,0<=p.2)->GoodParts out->largeP out=false->gainGo own l out=some o->GoodParts o/\largeP o=false/\sumQ o=sumQ out+own*sumQ l
 | [],out,o,_,hg,hl,h=>by
   rw[gainGo]at h
   cases h
   exact⟨hg,hl,by rw[sumQ];grind⟩
 |p::l,out,o,hp,hg,hl,h=>by
  rw[gainGo]at h
  split at h
  ·cases h
  split at h
  ·cases h
  ·rename_i hb
   have hm:0<=own*p.2:=Rat.mul_nonneg h0 (hp p (by simp))
   obtain⟨h1,h2,h3⟩:=gain_good h0 (fun q hq=>hp q (by simp[hq])) (given_good hm hg) (by simpa using hb) h
   refine⟨h1,h2,?_⟩
   rw[h3,sum_given,sumQ]
   grind
structure GoodG (g:Grave):Prop where
 good:GoodParts g.holders
 small:largeP g.holders=false
 one:g.holders=[]\/sumQ g.holders=1
theorem share_nonneg {l:Parts} (h:GoodParts l) (n:ByteArray):0<=shareP l n:=by
 unfold shareP
 cases hf:l.find? (fun p=>sameB p.1 n)with
 |none=>exact Rat.le_refl
 |some p=>
  have:=h.pos p (List.mem_of_find?_eq_some hf)
  show 0<=p.2
  grind
theorem share_some {l:Parts} {n:ByteArray} (h:shareP l n≠0):l≠[]:=by
 rintro rfl
 exact h rfl
theorem large_sub {l m:Parts} (h: ∀p∈m,p∈l) (hl:largeP l=false):largeP m=false:=by
 unfold largeP at*
 rw[List.any_eq_false]at*
 exact fun p hp=>hl p (h p hp)
theorem without_small {l:Parts} (n:ByteArray) (h:largeP l=false):largeP (withoutP l n)=false:=large_sub (fun p hp=>(List.mem_filter.1 hp).1) h
theorem given_small {n:ByteArray} {q:Rat} (hq:bigQ q=false): ∀ {l:Parts},(∀p∈l,p.1≠n)->largeP l=false->largeP (givenP l n q)=false
 | [],_,_=>by
   unfold givenP
   split
   ·rfl
   ·simp[largeP,hq]
 |x::r,hn,hl=>by
  have hl2:bigQ x.2=false/\largeP r=false:=by simpa[largeP]using hl
  have ih:=given_small hq (l:=r) (fun p hp=>hn p (by simp[hp])) hl2.2
  unfold givenP
  split
  ·exact hl
  ·split
   ·unfold largeP at ih⊢
    rw[List.any_cons,hl2.1,ih]
    rfl
   ·split
    ·rename_i hs
     exact absurd (same_iff.1 hs) (hn x (by simp))
    ·unfold largeP at hl⊢
     rw[List.any_cons,hq,hl]
     rfl
theorem without_ne {l:Parts} {n:ByteArray}: ∀p∈withoutP l n,p.1≠n:=by
 intro p hp
 unfold withoutP at hp
 have:=(List.mem_filter.1 hp).2
 exact same_ne.1 (by simpa using this)
theorem transfer_good {g:Grave} {frm:ByteArray} {l out:Parts} (hg:GoodG g) (hs:shareP g.holders frm≠0) (hp: ∀p∈l,0<p.2) (hl:sumQ l<=1) (hk:bigQ (shareP g.holders frm*(1-sumQ l))=false)
 (h:gainGo (shareP g.holders frm) l (givenP (withoutP g.holders frm) frm (shareP g.holders frm*(1-sumQ l)))=some out):GoodG {g with holders:=out}:=by
 have h0:=share_nonneg hg.good frm
 have hkn:0<=shareP g.holders frm*(1-sumQ l):=Rat.mul_nonneg h0 (by grind)
 obtain⟨h1,h2,h3⟩:=gain_good h0 (fun p hp'=>by have:=hp p hp';grind) (given_good hkn (without_good hg.good)) (given_small hk without_ne (without_small frm hg.small)) h
 refine⟨h1,h2, .inr ?_⟩
 have hw:=without_sum (n:=frm) hg.good
 rcases hg.one with e|e
 ·exact absurd e (share_some hs)
 ·show sumQ out=1
  rw[h3,sum_given]
  grind
theorem sum_div (d:Rat): ∀l:Parts,sumQ (l.map fun p=>(p.1,p.2/d))=sumQ l/d
 | []=>by simp only[List.map_nil,sumQ];rw[Rat.div_def];grind
 |p::l=>by
  rw[List.map_cons,sumQ,sumQ,sum_div d l]
  rw[Rat.div_def,Rat.div_def,Rat.div_def]
  grind
theorem sum_zero {l:Parts} (h: ∀p∈l,0<p.2) (hs:sumQ l=0):l=[]:=by
 cases l with
 |nil=>rfl
 |cons x r=>
  have hx:=h x (by simp)
  have:=sum_nonneg (l:=r) fun p hp=>by have:=h p (by simp[hp]);grind
  rw[sumQ]at hs
  grind
theorem sum_le_mem {l:Parts} (h: ∀p∈l,0<p.2):0<=sumQ l:=sum_nonneg fun p hp=>by have:=h p hp;grind
theorem surrender_good {g:Grave} {frm:ByteArray} (hg:GoodG g) (hs:shareP g.holders frm≠0) (hl:largeP ((withoutP g.holders frm).map fun p=>(p.1,p.2/(1-shareP g.holders frm)))=false):
 GoodG {g with holders:=(withoutP g.holders frm).map fun p=>(p.1,p.2/(1-shareP g.holders frm))}:=by
 have hw:=without_sum (n:=frm) hg.good
 have h1:sumQ g.holders=1:=by
  rcases hg.one with e|e
  ·exact absurd e (share_some hs)
  ·exact e
 have hgw:=without_good (n:=frm) hg.good
 have hnn:=sum_le_mem hgw.pos
 by_cases hz:1-shareP g.holders frm=0
 ·have he:withoutP g.holders frm=[]:=sum_zero hgw.pos (by grind)
  have e2:((withoutP g.holders frm).map fun p=>(p.1,p.2/(1-shareP g.holders frm)))=[]:=by rw[he];rfl
  rw[e2]
  exact⟨good_nil,rfl, .inl rfl⟩
 ·have hd:0<1-shareP g.holders frm:=by grind
  refine⟨⟨List.pairwise_map.2 hgw.asc,fun p hp=> ?_⟩,hl, .inr ?_⟩
  ·obtain⟨q,hq,rfl⟩:=List.mem_map.1 hp
   have:=hgw.pos q hq
   show 0<q.2/(1-shareP g.holders frm)
   rw[Rat.div_def]
   exact Rat.mul_pos this (Rat.inv_pos.2 hd)
  ·show sumQ _=1
   rw[sum_div,show sumQ (withoutP g.holders frm)=1-shareP g.holders frm by grind,Rat.div_def]
   exact Rat.mul_inv_cancel _ hz
theorem inherit_good {g:Grave} {n:ByteArray} {heirs out:Parts} (hg:GoodG g) (hs:shareP g.holders n≠0) (hh:GoodParts heirs) (h1:sumQ heirs=1) (h:gainGo (shareP g.holders n) heirs (withoutP g.holders n)=some out):GoodG {g with holders:=out,died:=g.died++[n]}:=by
 obtain⟨k1,k2,k3⟩:=gain_good (share_nonneg hg.good n) (fun p hp=>by have:=hh.pos p hp;grind) (without_good hg.good) (without_small n hg.small) h
 refine⟨k1,k2, .inr ?_⟩
 have hw:=without_sum (n:=n) hg.good
 rcases hg.one with e|e
 ·exact absurd e (share_some hs)
 ·show sumQ out=1
  rw[k3,h1]
  grind
end Go.Proofs.YtmaidggpbihlgaaGreatDoor
namespace Go.Proofs.YtmaidggpbihlgaaGreatDoor
open Go.RowKit
theorem name_not {s:ByteArray} (h:isNameP s=true):noB s=false:=by
 unfold isNameP at h
 simp only[Bool.and_eq_true,Bool.not_eq_true']at h
 exact h.2.1
structure OkD (d:Deed):Prop where
 kind:0<=d.kind/\d.kind<=8
 day:0<=d.day/\d.day<=200000
 years:0<=d.years/\d.years<=99
 cls:0<=d.cls/\d.cls<=4
 len:d.to.length<=8
 names: ∀p∈d.to,isNameP p.name=true
 place:(d.kind=0\/d.kind=1\/d.kind=2\/d.kind=3)->isNameP d.place=true
 frm: ¬(d.kind=0\/d.kind=3)->isNameP d.frm=true
 grantor:(d.kind=0\/d.kind=3)->noB d.frm=true
 parts:(d.kind=0\/d.kind=1\/d.kind=4)->d.to≠[]/\partsOk true (d.kind==0) d.frm d.to=true
 one:(d.kind=5\/d.kind=6\/d.kind=7)->d.to.length=1/\partsOk false false d.frm d.to=true
 none:(d.kind=2\/d.kind=3\/d.kind=8)->d.to=[]
theorem inR_iff5 {n lo hi:Int}:inR n lo hi=true↔lo<=n/\n<=hi:=by unfold inR;simp
theorem deed_ok {d:Deed} (h:checkDeedP d=0):OkD d:=by
 unfold checkDeedP at h
 split at h
 ·simp at h
 rename_i h1
 split at h
 ·simp at h
 rename_i h2
 split at h
 ·simp at h
 rename_i h3
 split at h
 ·simp at h
 rename_i h4
 split at h
 ·simp at h
 rename_i h5
 simp only[Bool.not_eq_true',Bool.not_eq_false,inR_iff5]at h1
 simp only[Bool.or_eq_true,Bool.not_eq_true',not_or,Bool.not_eq_false,isDayP,inR_iff5]at h2
 simp only[Bool.or_eq_true,Bool.not_eq_true',not_or,Bool.not_eq_false,List.all_eq_true,nameOr]at h4
 simp only[Bool.not_eq_true',Bool.not_eq_false]at h5
 simp only[decide_eq_true_eq,Nat.not_lt]at h3
 unfold formedP at h5
 obtain⟨⟨hd,hc⟩,hy⟩:=h2
 obtain⟨⟨hp,hf⟩,hn⟩:=h4
 have hkk:d.kind=0\/d.kind=1\/d.kind=2\/d.kind=3\/d.kind=4\/d.kind=5\/d.kind=6\/d.kind=7\/d.kind=8:=by omega
 refine⟨h1,hd,hy,hc,h3,hn,?_,?_,?_,?_,?_,?_⟩
 all_goals rcases hkk with k|k|k|k|k|k|k|k|k<;>simp_all
theorem kids_append {s:St} {a b x:ByteArray}:childrenP {s with children:=s.children++[(a,b)]} x=childrenP s x++(if sameB a x then[b]else[]):=by
 unfold childrenP
 rw[List.filter_append,List.map_append]
 congr 1
 by_cases h:sameB a x=true
 ·rw[if_pos h,List.filter_cons,if_pos h];rfl
 ·rw[if_neg h,List.filter_cons,if_neg h];rfl
theorem acyc_append {s:St} {a b:ByteArray} (h: ∀x,¬Desc s x x) (hn: ¬Desc s b a) (hne:a≠b): ∀x,¬Desc {s with children:=s.children++[(a,b)]} x x:=by
 have key: ∀x y,Desc {s with children:=s.children++[(a,b)]} x y->Desc s x y\/((x=a\/Desc s x a)/\(y=b\/Desc s b y)):=by
  intro x y hxy
  unfold Desc at hxy
  induction hxy with
  |single hc=>
   rw[kids_append]at hc
   rcases List.mem_append.1 hc with hc|hc
   ·exact .inl (desc_child hc)
   ·split at hc
    ·rename_i hs
     simp only[List.mem_singleton]at hc
     exact .inr ⟨.inl (same_iff.1 hs).symm, .inl hc⟩
    ·cases hc
  |tail _ hc ih=>
   rw[kids_append]at hc
   rcases List.mem_append.1 hc with hc|hc
   ·rcases ih with ih|⟨i1,i2⟩
    ·exact .inl (desc_step ih hc)
    ·refine .inr ⟨i1, .inr ?_⟩
     rcases i2 with i2|i2
     ·rw[i2]at hc;exact desc_child hc
     ·exact desc_step i2 hc
   ·split at hc
    ·rename_i hs
     simp only[List.mem_singleton]at hc
     have e:=same_iff.1 hs
     rcases ih with ih|⟨i1,i2⟩
     ·exact .inr ⟨.inr (by rw[e];exact ih), .inl hc⟩
     ·exfalso
      rcases i2 with i2|i2
      ·exact hne (e.trans i2)
      ·exact hn (by rw[e];exact i2)
    ·cases hc
 intro x hx
 rcases key x x hx with k|⟨k1,k2⟩
 ·exact h x k
 ·rcases k1 with rfl|k1<;>rcases k2 with k2|k2
  ·exact hne k2
  ·exact hn k2
  ·rw[k2]at k1;exact hn k1
  ·exact hn (desc_trans k2 k1)
structure GoodSt (s:St) (last:Int):Prop where
 graves: ∀g∈s.graves,GoodG g
 force: ∀(i j:Nat) (gi gj:Grave),s.graves[i]?=some gi->s.graves[j]?=some gj->gi.place=gj.place-> ∀day,last<=day->inForceP gi day=true->inForceP gj day=true->i=j
 wills: ∀n,WillOk (willOf s n)
 acyc: ∀a,¬Desc s a a
 kids: ∀c∈s.children,noB c.1=false/\noB c.2=false
 marr: ∀m∈s.marriages,m.1≠m.2/\noB m.1=false/\noB m.2=false
 willNames: ∀w∈s.wills,∀p∈w.2,noB p.1=false
 dead: ∀n∈s.dead,noB n=false
theorem good_zero (last:Int):GoodSt zeroSt last:=by
 refine⟨by simp[zeroSt],by simp[zeroSt],fun n=>⟨by simp[zeroSt,willOf],by simp[zeroSt,willOf],by simp only[zeroSt,willOf,List.reverse_nil,List.find?_nil,Option.map_none,Option.getD_none,sumQ];decide⟩,fun a=>desc_none rfl,by simp[zeroSt],by simp[zeroSt],by simp[zeroSt],by simp[zeroSt]⟩
theorem force_down {g:Grave} {d e:Int} (h:d<=e) (hf:inForceP g e=true):inForceP g d=true:=by
 unfold inForceP at*
 simp only[Bool.and_eq_true,Bool.or_eq_true,decide_eq_true_eq]at*
 refine⟨hf.1,?_⟩
 rcases hf.2 with k|k
 ·exact .inl k
 ·exact .inr (by omega)
theorem graveIx_some {s:St} {place:ByteArray} {day:Int} {i:Nat} (h:graveIx s place day=some i): ∃g,s.graves[i]?=some g/\g.place=place/\inForceP g day=true:=by
 unfold graveIx at h
 rw[List.findIdx?_eq_some_iff_getElem]at h
 obtain⟨hi,h1,_⟩:=h
 rw[Bool.and_eq_true,same_iff]at h1
 exact⟨_,List.getElem?_eq_getElem hi,h1.1,h1.2⟩
theorem graveIx_none {s:St} {place:ByteArray} {day:Int} (h:graveIx s place day=none): ∀g∈s.graves,g.place=place->inForceP g day=false:=by
 unfold graveIx at h
 rw[List.findIdx?_eq_none_iff]at h
 intro g hg hp
 have:=h g hg
 rw[same_iff.2 hp,Bool.true_and]at this
 exact this
end Go.Proofs.YtmaidggpbihlgaaGreatDoor
namespace Go.Proofs.YtmaidggpbihlgaaGreatDoor
open Go.RowKit Go.Shelf
def sortPart_ren:Go.Shelf.Ren:=⟨fun|6=>74|15=>124|14=>123|28=>164|29=>165|20=>156|21=>157|22=>158|23=>159|24=>160|25=>161|26=>162|27=>163|46=>178|47=>179|48=>180|49=>181|50=>182|57=>198|n=>n,fun|22=>41|24=>49|25=>140|3=>3|39=>154|0=>0|53=>180|55=>182|4=>4|46=>201|45=>200|50=>205|5=>5|9=>9|66=>216|70=>220|76=>229|77=>230|n=>n,fun|n=>n⟩
theorem sortPart:Go.Proofs.SlLaysF0.n6 Tryz.prog sortPart_ren:= {
 mixed:=by kernel_rfl
 f6:=⟨Tryz.f74.name,by decide,Tryz.func74.trans (congrArg some (by kernel_rfl))⟩
 f14:=⟨Tryz.f123.name,by decide,Tryz.func123.trans (congrArg some (by kernel_rfl))⟩
 f15:=Tryz.func124.trans (congrArg some (by kernel_rfl))
 f20:=⟨Tryz.f156.name,by decide,Tryz.func156.trans (congrArg some (by kernel_rfl))⟩
 f21:=⟨Tryz.f157.name,by decide,Tryz.func157.trans (congrArg some (by kernel_rfl))⟩
 f22:=⟨Tryz.f158.name,by decide,Tryz.func158.trans (congrArg some (by kernel_rfl))⟩
 f23:=⟨Tryz.f159.name,by decide,Tryz.func159.trans (congrArg some (by kernel_rfl))⟩
 f24:=⟨Tryz.f160.name,by decide,Tryz.func160.trans (congrArg some (by kernel_rfl))⟩
 f25:=⟨Tryz.f161.name,by decide,Tryz.func161.trans (congrArg some (by kernel_rfl))⟩
 f26:=⟨Tryz.f162.name,by decide,Tryz.func162.trans (congrArg some (by kernel_rfl))⟩
 f27:=⟨Tryz.f163.name,by decide,Tryz.func163.trans (congrArg some (by kernel_rfl))⟩
 f28:=Tryz.func164.trans (congrArg some (by kernel_rfl))
 f29:=Tryz.func165.trans (congrArg some (by kernel_rfl))
 f46:=⟨Tryz.f178.name,by decide,Tryz.func178.trans (congrArg some (by kernel_rfl))⟩
 f47:=Tryz.func179.trans (congrArg some (by kernel_rfl))
 f48:=Tryz.func180.trans (congrArg some (by kernel_rfl))
 f49:=⟨Tryz.f181.name,by decide,Tryz.func181.trans (congrArg some (by kernel_rfl))⟩
 f50:=⟨Tryz.f182.name,by decide,Tryz.func182.trans (congrArg some (by kernel_rfl))⟩
 f57:=⟨Tryz.f198.name,by decide,Tryz.func198.trans (congrArg some (by kernel_rfl))⟩
 t0:=Tryz.underlying0
 a0:=Tryz.isAgg0
 z0:=Tryz.sizeOf0
 v0:=Tryz.zeroValue0
 t3:=Tryz.underlying3
 a3:=Tryz.isAgg3
 z3:=Tryz.sizeOf3
 v3:=Tryz.zeroValue3
 t4:=Tryz.underlying4
 a4:=Tryz.isAgg4
 z4:=Tryz.sizeOf4
 v4:=Tryz.zeroValue4
 t5:=Tryz.underlying5
 a5:=Tryz.isAgg5
 z5:=Tryz.sizeOf5
 v5:=Tryz.zeroValue5
 t9:=Tryz.underlying9
 a9:=Tryz.isAgg9
 z9:=Tryz.sizeOf9
 v9:=Tryz.zeroValue9
 t22:=Tryz.underlying41
 a22:=Tryz.isAgg41
 z22:=Tryz.sizeOf41
 v22:=Tryz.zeroValue41
 t25:=Tryz.underlying140
 a25:=Tryz.isAgg140
 z25:=Tryz.sizeOf140
 v25:=Tryz.zeroValue140
 t39:=Tryz.underlying154
 a39:=Tryz.isAgg154
 z39:=Tryz.sizeOf154
 v39:=Tryz.zeroValue154
 t45:=Tryz.underlying200
 a45:=Tryz.isAgg200
 z45:=Tryz.sizeOf200
 v45:=Tryz.zeroValue200
 t46:=Tryz.underlying201
 a46:=Tryz.isAgg201
 z46:=Tryz.sizeOf201
 v46:=Tryz.zeroValue201
 t50:=Tryz.underlying205
 a50:=Tryz.isAgg205
 z50:=Tryz.sizeOf205
 v50:=Tryz.zeroValue205
 t53:=Tryz.underlying180
 a53:=Tryz.isAgg180
 z53:=Tryz.sizeOf180
 v53:=Tryz.zeroValue180
 t55:=Tryz.underlying182
 a55:=Tryz.isAgg182
 z55:=Tryz.sizeOf182
 v55:=Tryz.zeroValue182
 t66:=Tryz.underlying216
 a66:=Tryz.isAgg216
 z66:=Tryz.sizeOf216
 v66:=Tryz.zeroValue216
 t70:=Tryz.underlying220
 a70:=Tryz.isAgg220
 z70:=Tryz.sizeOf220
 v70:=Tryz.zeroValue220
 t76:=Tryz.underlying229
 a76:=Tryz.isAgg229
 z76:=Tryz.sizeOf229
 v76:=Tryz.zeroValue229
 t77:=Tryz.underlying230
 a77:=Tryz.isAgg230
 z77:=Tryz.sizeOf230
 v77:=Tryz.zeroValue230}
end Go.Proofs.YtmaidggpbihlgaaGreatDoor
