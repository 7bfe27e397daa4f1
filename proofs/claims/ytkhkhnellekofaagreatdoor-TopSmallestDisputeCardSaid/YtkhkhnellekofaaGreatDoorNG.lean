/- Plain law of the fewest records: all sets one after the other. -/
import Derived.Test.YtkhkhnellekofaaGreatDoorNC
set_option linter.unusedSimpArgs false
set_option linter.unusedVariables false
namespace Go.Proofs.YtkhkhnellekofaaGreatDoor
open Go.RowKit
def ofP (l:List Rec) (set:List Nat):List Rec:=set.filterMap fun i=>l[i]?
theorem of_sub {l:List Rec} {a b:List Nat} (h:a.Sublist b):(ofP l a).Sublist (ofP l b):=h.filterMap _
theorem of_mem {l:List Rec} {set:List Nat}: ∀x∈ofP l set,x∈l:=by
 intro x hx
 unfold ofP at hx
 obtain⟨i,_,hi⟩:=List.mem_filterMap.1 hx
 exact List.mem_of_getElem? hi
theorem nonneg_of {l:List Rec} {set:List Nat} (h:Nonneg l):Nonneg (ofP l set):=fun x hx=>h x (of_mem x hx)
noncomputable def dispGo (l:List Rec):Nat->List Nat->Nat->List Nat
 |0,set,_=>set
 |f+1,set,i=>if i<set.length then(if contraP (ofP l (set.eraseIdx i))then dispGo l f (set.eraseIdx i) i else dispGo l f set (i+1))else set
def Minimal (l:List Rec) (set:List Nat):Prop:=contraP (ofP l set)=true/\ ∀i,i<set.length->contraP (ofP l (set.eraseIdx i))=false
theorem erase_erase {set:List Nat} {i j:Nat} (h:j<i):((set.eraseIdx i).eraseIdx j).Sublist (set.eraseIdx j):=by
 induction set generalizing i j with
 |nil=>simp
 |cons x r ih=>
  cases i with
  |zero=>omega
  |succ i=>
   cases j with
   |zero=>simp only[List.eraseIdx_cons_succ,List.eraseIdx_cons_zero];exact List.eraseIdx_sublist r i
   |succ j=>
    simp only[List.eraseIdx_cons_succ]
    exact(ih (by omega)).cons_cons x
theorem disp_min {l:List Rec} (hn:Nonneg l): ∀(f:Nat) (set:List Nat) (i:Nat),set.length-i<=f->contraP (ofP l set)=true->(∀j,j<i->j<set.length->contraP (ofP l (set.eraseIdx j))=false)->Minimal l (dispGo l f set i)/\(dispGo l f set i).Sublist set
 |0,set,i,hf,hc,hi=>by
  rw[dispGo]
  exact⟨⟨hc,fun j hj=>hi j (by omega) hj⟩,List.Sublist.refl _⟩
 |f+1,set,i,hf,hc,hi=>by
  rw[dispGo]
  split
  ·rename_i hlt
   split
   ·rename_i hcc
    have hlen:=List.length_eraseIdx_of_lt hlt
    have ih:=disp_min hn f (set.eraseIdx i) i (by omega) hcc (fun j hj hjl=>by
     rw[<-Bool.not_eq_true]
     intro h
     have:=contra_mono (of_sub (erase_erase hj)) (nonneg_of hn) h
     rw[hi j hj (by omega)]at this
     cases this)
    exact⟨ih.1,ih.2.trans (List.eraseIdx_sublist set i)⟩
   ·rename_i hcc
    exact disp_min hn f set (i+1) (by omega) hc (fun j hj hjl=>by
     by_cases e:j=i
     ·subst e;simpa using hcc
     ·exact hi j (by omega) hjl)
  ·rename_i hlt
   exact⟨⟨hc,fun j hj=>hi j (by omega) hj⟩,List.Sublist.refl _⟩
def lexB:List Nat->List Nat->Bool
 |a::x,b::y=>decide (a<b)||(a==b&&lexB x y)
 |_,_=>false
theorem lex_irr: ∀a:List Nat,lexB a a=false
 | []=>rfl
 |a::x=>by rw[lexB,lex_irr x];simp
theorem lex_trans: ∀ {a b c:List Nat},lexB a b=true->lexB b c=true->lexB a c=true
 | [],_,_,h,_=>by simp[lexB]at h
 |_::_,[],_,h,_=>by simp[lexB]at h
 |_::_,_::_,[],_,h=>by simp[lexB]at h
 |a::x,b::y,c::z,h,k=>by
  have ih:= @lex_trans x y z
  simp only[lexB,Bool.or_eq_true,decide_eq_true_eq,Bool.and_eq_true,beq_iff_eq]at h k⊢
  rcases h with h|⟨rfl,h⟩<;>rcases k with k|⟨rfl,k⟩
  ·exact .inl (by omega)
  ·exact .inl h
  ·exact .inl k
  ·exact .inr ⟨rfl,ih h k⟩
theorem lex_tri: ∀ {a b:List Nat},a.length=b.length->lexB a b=true\/a=b\/lexB b a=true
 | [],[],_=> .inr (.inl rfl)
 | [],_::_,h=>by simp at h
 |_::_,[],h=>by simp at h
 |a::x,b::y,h=>by
  have ih:= @lex_tri x y (by simpa using h)
  simp only[lexB,Bool.or_eq_true,decide_eq_true_eq,Bool.and_eq_true,beq_iff_eq,List.cons.injEq]
  rcases Nat.lt_trichotomy a b with k|k|k
  ·exact .inl (.inl k)
  ·subst k
   rcases ih with i|i|i
   ·exact .inl (.inr ⟨rfl,i⟩)
   ·exact .inr (.inl ⟨rfl,i⟩)
   ·exact .inr (.inr (.inr ⟨rfl,i⟩))
  ·exact .inr (.inr (.inl k))
def SetOf (n:Nat) (set:List Nat):Prop:=set.Pairwise (· < ·)/\ ∀i∈set,i<n
theorem SetOf.sub {n:Nat} {a b:List Nat} (h:SetOf n b) (k:a.Sublist b):SetOf n a:=⟨h.1.sublist k,fun i hi=>h.2 i (k.subset hi)⟩
structure IsLeast (l:List Rec) (s:List Nat):Prop where
 set:SetOf l.length s
 bad:contraP (ofP l s)=true
 least: ∀t,SetOf l.length t->contraP (ofP l t)=true->s.length<t.length\/(s.length=t.length/\lexB t s=false)
theorem least_unique {l:List Rec} {s t:List Nat} (h:IsLeast l s) (k:IsLeast l t):s=t:=by
 rcases h.least t k.set k.bad with a|⟨a,a2⟩
 ·rcases k.least s h.set h.bad with b|⟨b,_⟩<;>omega
 ·rcases k.least s h.set h.bad with b|⟨b,b2⟩
  ·omega
  ·rcases lex_tri a with c|c|c
   ·rw[b2]at c;cases c
   ·exact c
   ·rw[a2]at c;cases c
theorem least_min {l:List Rec} {s:List Nat} (h:IsLeast l s):Minimal l s:=by
 refine⟨h.bad,fun i hi=> ?_⟩
 rw[<-Bool.not_eq_true]
 intro hc
 have hlen:=List.length_eraseIdx_of_lt hi
 rcases h.least _ (h.set.sub (List.eraseIdx_sublist s i)) hc with k|⟨k,_⟩<;>omega
def shiftN (k i:Nat):Nat:=if i<k then i else i+1
theorem of_shift (l:List Rec) (k:Nat) (t:List Nat):ofP (l.eraseIdx k) t=ofP l (t.map (shiftN k)):=by
 unfold ofP
 rw[List.filterMap_map]
 congr 1
 funext i
 show(l.eraseIdx k)[i]?=l[shiftN k i]?
 rw[List.getElem?_eraseIdx]
 unfold shiftN
 split<;>rfl
theorem set_shift {n k:Nat} {t:List Nat} (hk:k<n) (h:SetOf (n-1) t):SetOf n (t.map (shiftN k)):=by
 refine⟨?_,fun i hi=> ?_⟩
 ·rw[List.pairwise_map]
  exact h.1.imp fun {a b} hab=>by unfold shiftN;split<;>split<;>omega
 ·obtain⟨j,hj,rfl⟩:=List.mem_map.1 hi
  have:=h.2 j hj
  unfold shiftN
  split<;>omega
theorem least_without {l:List Rec} {s t:List Nat} {k:Nat} (hk:k<l.length) (h:IsLeast l s) (ht:IsLeast (l.eraseIdx k) t):s.length<=t.length:=by
 have h1:=ht.bad
 rw[of_shift]at h1
 have h2:=ht.set
 rw[List.length_eraseIdx_of_lt hk]at h2
 rcases h.least _ (set_shift hk h2) h1 with a|⟨a,_⟩<;>(rw[List.length_map]at a;omega)
theorem tg_head {α:Type} {r:α->α->Prop} {a b:α} (h:Relation.TransGen r a b): ∃c,r a c:=by
 induction h with
 |single h=>exact⟨_,h⟩
 |tail _ _ ih=>exact ih
theorem contra_nil:contraP []=false:=by
 unfold contraP
 have h1: ¬Circle []:=by
  rintro⟨a,ha⟩
  obtain⟨b,hb⟩:=tg_head ha
  obtain⟨x,hx,_⟩:=hb
  cases hx
 have h2: ¬TooMuch []:=by
  rintro⟨p,d,h⟩
  rw[sumGo]at h
  exact absurd h (by decide)
 simp[pairP,h1,h2]
end Go.Proofs.YtkhkhnellekofaaGreatDoor
namespace Go.Proofs.YtkhkhnellekofaaGreatDoor
open Go.RowKit
theorem asc_ext: ∀ {a b:List Nat},a.Pairwise (· < ·)->b.Pairwise (· < ·)->(∀i,i∈a↔i∈b)->a=b
 | [],[],_,_,_=>rfl
 | [],y::b,_,_,h=>absurd ((h y).2 (by simp)) (by simp)
 |x::a,[],_,_,h=>absurd ((h x).1 (by simp)) (by simp)
 |x::a,y::b,ha,hb,h=>by
  have ha1:=List.pairwise_cons.1 ha
  have hb1:=List.pairwise_cons.1 hb
  have hxy:x=y:=by
   rcases List.mem_cons.1 ((h x).1 (by simp))with e|hx
   ·exact e
   ·rcases List.mem_cons.1 ((h y).2 (by simp))with e|hy
    ·exact e.symm
    ·have:=hb1.1 x hx
     have:=ha1.1 y hy
     omega
  subst hxy
  congr 1
  refine asc_ext ha1.2 hb1.2 fun i=> ?_
  constructor
  ·intro hi
   rcases List.mem_cons.1 ((h i).1 (by simp[hi]))with e|k
   ·have:=ha1.1 i hi;omega
   ·exact k
  ·intro hi
   rcases List.mem_cons.1 ((h i).2 (by simp[hi]))with e|k
   ·have:=hb1.1 i hi;omega
   ·exact k
def bitsP (n set:Nat):List Nat:=(List.range n).filter fun i=>set.testBit i
theorem bits_set (n set:Nat):SetOf n (bitsP n set):=
 ⟨List.pairwise_lt_range.sublist List.filter_sublist,fun i hi=>List.mem_range.1 (List.mem_filter.1 hi).1⟩
theorem bits_ex (f:Nat->Bool): ∀n,∃set,set<2^n/\ ∀i,i<n->set.testBit i=f i
 |0=>⟨0,by decide,fun _ h=>absurd h (Nat.not_lt_zero _)⟩
 |n+1=>by
  obtain⟨set,h1,h2⟩:=bits_ex f n
  have hp:2^(n+1)=2^n+2^n:=by rw[Nat.pow_succ];omega
  cases hf:f n with
  |false=>
   refine⟨set,by omega,fun i hi=> ?_⟩
   rcases Nat.lt_succ_iff_lt_or_eq.1 hi with hi|rfl
   ·exact h2 i hi
   ·rw[hf];exact Nat.testBit_lt_two_pow h1
  |true=>
   refine⟨2^n+set,by omega,fun i hi=> ?_⟩
   rcases Nat.lt_succ_iff_lt_or_eq.1 hi with hi|rfl
   ·rw[Nat.testBit_two_pow_add_gt hi];exact h2 i hi
   ·rw[Nat.testBit_two_pow_add_eq,Nat.testBit_lt_two_pow h1,hf];rfl
theorem bits_all {n:Nat} {t:List Nat} (h:SetOf n t): ∃set,set<2^n/\bitsP n set=t:=by
 obtain⟨set,h1,h2⟩:=bits_ex (fun i=>decide (i∈t)) n
 refine⟨set,h1,asc_ext (bits_set n _).1 h.1 fun i=> ?_⟩
 unfold bitsP
 rw[List.mem_filter,List.mem_range]
 constructor
 ·rintro⟨hi,hb⟩
  rw[h2 i hi]at hb
  simpa using hb
 ·intro hi
  have hn:=h.2 i hi
  refine⟨hn,?_⟩
  rw[h2 i hn]
  simpa using hi
noncomputable def bestStep (l:List Rec) (best:Option (List Nat)) (x:List Nat):Option (List Nat):=match best with
 |none=>if contraP (ofP l x)then some x else none
 |some b=>if decide (b.length<x.length)||(x.length==b.length&&lexB b x)then some b else if contraP (ofP l x)then some x else some b
def Best (l:List Rec) (n k:Nat):Option (List Nat)->Prop
 |none=> ∀set,set<k->contraP (ofP l (bitsP n set))=false
 |some s=>(∃set,set<k/\bitsP n set=s)/\contraP (ofP l s)=true/\ ∀set,set<k->contraP (ofP l (bitsP n set))=true->s.length<(bitsP n set).length\/(s.length=(bitsP n set).length/\lexB (bitsP n set) s=false)
theorem best_zero (l:List Rec) (n:Nat):Best l n 0 none:=fun _ h=>absurd h (Nat.not_lt_zero _)
theorem best_next {l:List Rec} {n k:Nat} {b:Option (List Nat)} (h:Best l n k b):Best l n (k+1) (bestStep l b (bitsP n k)):=by
 cases b with
 |none=>
  unfold bestStep
  dsimp only
  split
  ·rename_i hc
   refine⟨⟨k,Nat.lt_succ_self k,rfl⟩,hc,fun set hs hcs=> ?_⟩
   rcases Nat.lt_succ_iff_lt_or_eq.1 hs with hs|rfl
   ·rw[h set hs]at hcs;cases hcs
   ·exact .inr ⟨rfl,lex_irr _⟩
  ·rename_i hc
   intro set hs
   rcases Nat.lt_succ_iff_lt_or_eq.1 hs with hs|rfl
   ·exact h set hs
   ·simpa using hc
 |some s=>
  obtain⟨⟨c,hc1,hc2⟩,h2,h3⟩:=h
  unfold bestStep
  dsimp only
  split
  ·rename_i hw
   refine⟨⟨c,by omega,hc2⟩,h2,fun set hs hcs=> ?_⟩
   rcases Nat.lt_succ_iff_lt_or_eq.1 hs with hs|rfl
   ·exact h3 set hs hcs
   ·simp only[Bool.or_eq_true,decide_eq_true_eq,Bool.and_eq_true,beq_iff_eq]at hw
    rcases hw with hw|⟨hw,hl⟩
    ·exact .inl hw
    ·refine .inr ⟨hw.symm,?_⟩
     rw[<-Bool.not_eq_true]
     intro hk
     have:=lex_trans hl hk
     rw[lex_irr]at this
     cases this
  ·rename_i hw
   simp only[Bool.or_eq_true,decide_eq_true_eq,Bool.and_eq_true,beq_iff_eq,not_or,not_and,Nat.not_lt]at hw
   split
   ·rename_i hcx
    refine⟨⟨k,Nat.lt_succ_self k,rfl⟩,hcx,fun set hs hcs=> ?_⟩
    rcases Nat.lt_succ_iff_lt_or_eq.1 hs with hs|rfl
    ·rcases h3 set hs hcs with a|⟨a,a2⟩
     ·exact .inl (by omega)
     ·by_cases he:(bitsP n k).length=s.length
      ·refine .inr ⟨by omega,?_⟩
       rw[<-Bool.not_eq_true]
       intro hk
       have hns:=hw.2 he
       rcases lex_tri he with e|e|e
       ·have:=lex_trans hk e
        rw[a2]at this;cases this
       ·rw[e]at hk
        rw[a2]at hk;cases hk
       ·exact hns e
      ·exact .inl (by omega)
    ·exact .inr ⟨rfl,lex_irr _⟩
   ·rename_i hcx
    refine⟨⟨c,by omega,hc2⟩,h2,fun set hs hcs=> ?_⟩
    rcases Nat.lt_succ_iff_lt_or_eq.1 hs with hs|rfl
    ·exact h3 set hs hcs
    ·exact absurd hcs hcx
theorem best_least {l:List Rec} {b:Option (List Nat)} (h:Best l l.length (2^l.length) b):match b with
 |none=> ∀t,SetOf l.length t->contraP (ofP l t)=false
 |some s=>IsLeast l s:=by
 cases b with
 |none=>
  intro t ht
  obtain⟨set,h1,rfl⟩:=bits_all ht
  exact h set h1
 |some s=>
  obtain⟨⟨c,hc1,hc2⟩,h2,h3⟩:=h
  refine⟨by rw[<-hc2];exact bits_set _ _,h2,fun t ht hct=> ?_⟩
  obtain⟨set,h1,rfl⟩:=bits_all ht
  exact h3 set h1 hct
end Go.Proofs.YtkhkhnellekofaaGreatDoor
