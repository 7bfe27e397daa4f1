/- Plain law of parts: they ascend by name, and what they add up to. -/
import Derived.Test.YtkhkhnellekofaaGreatDoorNC
set_option linter.unusedSimpArgs false
set_option linter.unusedVariables false
namespace Go.Proofs.YtkhkhnellekofaaGreatDoor
open Go.RowKit
theorem lessB_irr: ∀l:List UInt8,Op.bytesLess l l=false
 | []=>rfl
 |a::l=>by rw[Op.bytesLess,lessB_irr l];simp
theorem lessB_trans: ∀ {a b c:List UInt8},Op.bytesLess a b=true->Op.bytesLess b c=true->Op.bytesLess a c=true
 |_,[],_,h,_=>by unfold Op.bytesLess at h;simp at h
 |_,_::_,[],_,h=>by unfold Op.bytesLess at h;simp at h
 | [],_::_,_::_,_,_=>rfl
 |a::x,b::y,c::z,h1,h2=>by
  have ih:= @lessB_trans x y z
  simp only[Op.bytesLess,Bool.or_eq_true,decide_eq_true_eq,Bool.and_eq_true,beq_iff_eq,UInt8.lt_iff_toNat_lt]at h1 h2⊢
  rcases h1 with h1|⟨rfl,h1⟩<;>rcases h2 with h2|⟨rfl,h2⟩
  ·exact .inl (by omega)
  ·exact .inl h1
  ·exact .inl h2
  ·exact .inr ⟨rfl,ih h1 h2⟩
theorem lessB_tri: ∀a b:List UInt8,Op.bytesLess a b=true\/a=b\/Op.bytesLess b a=true
 | [],[]=> .inr (.inl rfl)
 | [],_::_=> .inl rfl
 |_::_,[]=> .inr (.inr rfl)
 |a::x,b::y=>by
  have ih:=lessB_tri x y
  simp only[Op.bytesLess,Bool.or_eq_true,decide_eq_true_eq,Bool.and_eq_true,beq_iff_eq,List.cons.injEq,UInt8.lt_iff_toNat_lt]
  rcases Nat.lt_trichotomy a.toNat b.toNat with h|h|h
  ·exact .inl (.inl h)
  ·have h':a=b:=UInt8.toNat_inj.1 h
   subst h'
   rcases ih with ih|ih|ih
   ·exact .inl (.inr ⟨rfl,ih⟩)
   ·exact .inr (.inl ⟨rfl,ih⟩)
   ·exact .inr (.inr (.inr ⟨rfl,ih⟩))
  ·exact .inr (.inr (.inl h))
theorem lessN_irr (a:ByteArray):lessN a a=false:=lessB_irr _
theorem lessN_trans {a b c:ByteArray} (h:lessN a b=true) (k:lessN b c=true):lessN a c=true:=lessB_trans h k
theorem lessN_tri (a b:ByteArray):lessN a b=true\/a=b\/lessN b a=true:=by
 rcases lessB_tri a.toList b.toList with h|h|h
 ·exact .inl h
 ·exact .inr (.inl (same_iff.1 (by unfold sameB;simpa using h)))
 ·exact .inr (.inr h)
theorem lessN_ne {a b:ByteArray} (h:lessN a b=true):a≠b:=by
 rintro rfl
 rw[lessN_irr]at h
 cases h
theorem lessN_asym {a b:ByteArray} (h:lessN a b=true):lessN b a=false:=by
 rw[<-Bool.not_eq_true]
 intro k
 have:=lessN_trans h k
 rw[lessN_irr]at this
 cases this
structure GoodParts (l:Parts):Prop where
 asc:l.Pairwise fun a b=>lessN a.1 b.1=true
 pos: ∀p∈l,0<p.2
theorem sum_given (n:ByteArray) (q:Rat): ∀l:Parts,sumQ (givenP l n q)=sumQ l+q
 | []=>by
   unfold givenP
   split
   ·rename_i h
    have:q=0:=by simpa using h
    subst this
    simp[sumQ];grind
   ·simp[sumQ];grind
 |p::r=>by
  have ih:=sum_given n q r
  unfold givenP
  split
  ·rename_i h
   have:q=0:=by simpa using h
   subst this
   grind
  ·split
   ·rw[sumQ,ih,sumQ];grind
   ·split
    ·rw[sumQ,sumQ];grind
    ·rw[sumQ,sumQ];grind
theorem given_mem {n:ByteArray} {q:Rat}: ∀ {l:Parts} {p:ByteArray×Rat},p∈givenP l n q->p.1=n\/p∈l
 | [],p,h=>by
   unfold givenP at h
   split at h
   ·exact .inr h
   ·simp at h;exact .inl (by rw[h])
 |x::r,p,h=>by
  unfold givenP at h
  split at h
  ·exact .inr h
  ·split at h
   ·rcases List.mem_cons.1 h with rfl|h
    ·exact .inr (by simp)
    ·rcases given_mem h with h|h
     ·exact .inl h
     ·exact .inr (by simp[h])
   ·split at h
    ·rcases List.mem_cons.1 h with rfl|h
     ·exact .inl rfl
     ·exact .inr (by simp[h])
    ·rcases List.mem_cons.1 h with rfl|h
     ·exact .inl rfl
     ·exact .inr h
theorem given_good {n:ByteArray} {q:Rat} (hq:0<=q): ∀ {l:Parts},GoodParts l->GoodParts (givenP l n q)
 | [],_=>by
   unfold givenP
   split
   ·exact⟨List.Pairwise.nil,by simp⟩
   ·rename_i h
    have:q≠0:=by simpa using h
    exact⟨by simp,by intro p hp;simp at hp;rw[hp];show 0<q;grind⟩
 |x::r,⟨h1,h2⟩=>by
  have hr:GoodParts r:=⟨(List.pairwise_cons.1 h1).2,fun p hp=>h2 p (by simp[hp])⟩
  have hx:=(List.pairwise_cons.1 h1).1
  unfold givenP
  split
  ·exact⟨h1,h2⟩
  ·rename_i h
   have hq0:0<q:=by have:q≠0:=by simpa using h
                    grind
   split
   ·rename_i hl
    have ih:=given_good (n:=n) hq hr
    refine⟨List.pairwise_cons.2 ⟨fun p hp=> ?_,ih.asc⟩,fun p hp=> ?_⟩
    ·rcases given_mem hp with e|hp
     ·rw[e];exact hl
     ·exact hx p hp
    ·rcases List.mem_cons.1 hp with rfl|hp
     ·exact h2 _ (by simp)
     ·exact ih.pos p hp
   ·rename_i hl
    split
    ·rename_i hs
     have e:=same_iff.1 hs
     refine⟨List.pairwise_cons.2 ⟨fun p hp=>by rw[<-e];exact hx p hp,hr.asc⟩,fun p hp=> ?_⟩
     rcases List.mem_cons.1 hp with rfl|hp
     ·have:=h2 x (by simp)
      show 0<x.2+q
      grind
     ·exact hr.pos p hp
    ·rename_i hs
     have hnx:lessN n x.1=true:=by
      rcases lessN_tri n x.1 with k|k|k
      ·exact k
      ·exact absurd (same_iff.2 k.symm) hs
      ·exact absurd k hl
     refine⟨List.pairwise_cons.2 ⟨fun p hp=> ?_,h1⟩,fun p hp=> ?_⟩
     ·rcases List.mem_cons.1 hp with rfl|hp
      ·exact hnx
      ·exact lessN_trans hnx (hx p hp)
     ·rcases List.mem_cons.1 hp with rfl|hp
      ·exact hq0
      ·exact h2 p hp
theorem share_none {n:ByteArray}: ∀ {l:Parts},(∀p∈l,p.1≠n)->shareP l n=0/\withoutP l n=l
 | [],_=>⟨rfl,rfl⟩
 |x::r,h=>by
  have ih:=share_none (l:=r) fun p hp=>h p (by simp[hp])
  have hx:sameB x.1 n=false:=same_ne.2 (h x (by simp))
  unfold shareP withoutP at*
  rw[List.find?_cons,hx,List.filter_cons,hx]
  exact⟨ih.1,by simpa using ih.2⟩
theorem without_sum {n:ByteArray}: ∀ {l:Parts},GoodParts l->sumQ (withoutP l n)+shareP l n=sumQ l
 | [],_=>by simp only[withoutP,shareP,sumQ,List.filter_nil,List.find?_nil,Option.map_none,Option.getD_none];grind
 |x::r,⟨h1,h2⟩=>by
  have hr:GoodParts r:=⟨(List.pairwise_cons.1 h1).2,fun p hp=>h2 p (by simp[hp])⟩
  have hx:=(List.pairwise_cons.1 h1).1
  have ih:=without_sum (n:=n) hr
  by_cases hs:x.1=n
  ·have hn:=share_none (n:=n) (l:=r) fun p hp e=>by
    have:=lessN_ne (hx p hp)
    exact this (by rw[e,hs])
   have e1:withoutP (x::r) n=withoutP r n:=by
    unfold withoutP
    rw[List.filter_cons,same_iff.2 hs]
    rfl
   have e2:shareP (x::r) n=x.2:=by
    unfold shareP
    rw[List.find?_cons,same_iff.2 hs]
    rfl
   rw[e1,e2,hn.2,sumQ]
   grind
  ·have hf:sameB x.1 n=false:=same_ne.2 hs
   have e1:withoutP (x::r) n=x::withoutP r n:=by
    unfold withoutP
    rw[List.filter_cons,hf]
    rfl
   have e2:shareP (x::r) n=shareP r n:=by
    unfold shareP
    rw[List.find?_cons,hf]
   rw[e1,e2,sumQ,sumQ,<-ih]
   grind
theorem without_good {n:ByteArray} {l:Parts} (h:GoodParts l):GoodParts (withoutP l n):=
 ⟨h.asc.sublist List.filter_sublist,fun p hp=>h.pos p ((List.mem_filter.1 hp).1)⟩
theorem sum_nonneg: ∀ {l:Parts},(∀p∈l,0<=p.2)->0<=sumQ l
 | [],_=>by simp[sumQ]
 |x::r,h=>by
  have ih:=sum_nonneg (l:=r) fun p hp=>h p (by simp[hp])
  have hx:=h x (by simp)
  rw[sumQ]
  grind
theorem mem_le_sum: ∀ {l:Parts},(∀p∈l,0<=p.2)-> ∀p∈l,p.2<=sumQ l
 |x::r,h,p,hp=>by
  have hr:=sum_nonneg (l:=r) fun p hp=>h p (by simp[hp])
  have hx:=h x (by simp)
  rw[sumQ]
  rcases List.mem_cons.1 hp with rfl|hp
  ·grind
  ·have:=mem_le_sum (l:=r) (fun p hp=>h p (by simp[hp])) p hp
   grind
end Go.Proofs.YtkhkhnellekofaaGreatDoor
