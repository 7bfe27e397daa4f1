/- Walks of the reference's fractions: Gcd, Lowest, Add, Sub, Mul, quo. -/
import Derived.Test.YtkhkhnellekofaaGreatDoorE2
import Derived.Test.YtkhkhnellekofaaGreatDoorO0
import Derived.Test.YtkhkhnellekofaaGreatDoorRB
import Derived.Test.YtkhkhnellekofaaGreatDoorO9
import Derived.Test.YtkhkhnellekofaaGreatDoorJ4
set_option linter.unusedSimpArgs false
set_option linter.unusedVariables false
namespace Go.Proofs.YtkhkhnellekofaaGreatDoor
open Go.RowKit
theorem nodup_len {α:Type} [DecidableEq α]: ∀ {l m:List α},l.Nodup->(∀x∈l,x∈m)->l.length<=m.length
 | [],_,_,_=>Nat.zero_le _
 |x::l,m,hn,hm=>by
  rw[List.nodup_cons]at hn
  have hx:=hm x (by simp)
  have:=nodup_len (l:=l) (m:=m.erase x) hn.2 (fun y hy=>(List.mem_erase_of_ne (fun e=>hn.1 (by rw[<-e];exact hy))).2 (hm y (by simp[hy])))
  rw[List.length_erase_of_mem hx]at this
  have:=List.length_pos_of_mem hx
  simp
  omega
def NamesIn (out:Parts) (L:List ByteArray):Prop:= ∀p∈out,p.1∈L
theorem gives_names {out:Parts} {fl:Bool} {n:ByteArray} {f:Rat} {L:List ByteArray} (h:NamesIn out L) (hn:n∈L):NamesIn (givesF n f (out,fl)).1 L:=fun p hp=>by
 rcases set_mem hp with e|h'
 ·rw[e];exact hn
 ·exact h p h'
mutual
def LeavesIn (L:List ByteArray):List Tree->Prop
 | []=>True
 |t::l=>LeafIn L t/\LeavesIn L l
def LeafIn (L:List ByteArray):Tree->Prop
 | .leaf n=>n∈L
 | .node l=>LeavesIn L l
end
mutual
theorem lines_names {part:Rat} {L:List ByteArray}: ∀ {l:List Tree} {out:Parts} {fl:Bool},LeavesIn L l->NamesIn out L->NamesIn (linesF part l (out,fl)).1 L
 | [],out,fl,_,h=>by rw[linesF];exact h
 |t::l,out,fl,hl,h=>by
  rw[LeavesIn]at hl
  rw[linesF]
  exact lines_names (l:=l) (fl:=(treeF part t (out,fl)).2) hl.2 (tree_names hl.1 h)
theorem tree_names {part:Rat} {L:List ByteArray}: ∀ {t:Tree} {out:Parts} {fl:Bool},LeafIn L t->NamesIn out L->NamesIn (treeF part t (out,fl)).1 L
 | .leaf n,out,fl,hl,h=>by
   rw[LeafIn]at hl
   rw[treeF]
   exact gives_names h hl
 | .node l,out,fl,hl,h=>by
   rw[LeafIn]at hl
   rw[treeF]
   exact lines_names (l:=l) hl h
end
theorem leaves_of {L:List ByteArray}: ∀ {l:List Tree},(∀t∈l,LeafIn L t)->LeavesIn L l
 | [],_=>by rw[LeavesIn];trivial
 |t::l,h=>by
  rw[LeavesIn]
  exact⟨h t (by simp),leaves_of fun t' ht=>h t' (by simp[ht])⟩
theorem trees_leaves {s:St} {stems:Bool} {frm:ByteArray} {L:List ByteArray} (hL: ∀c∈s.children,c.2∈L): ∀(f:Nat) (n:ByteArray),LeavesIn L (treesP s stems frm f n)
 |0,_=>by rw[show treesP s stems frm 0 _=[]from rfl,LeavesIn];trivial
 |f+1,n=>by
  refine leaves_of fun t ht=> ?_
  rw[trees_succ]at ht
  obtain⟨c,hc,h1⟩:=List.mem_filterMap.1 ht
  unfold lineOf at h1
  split at h1
  ·simp only[Option.some.injEq]at h1
   rw[<-h1,LeafIn]
   exact hL (n,c) (mem_children.1 hc)
  ·split at h1
   ·simp only[Option.some.injEq]at h1
    rw[<-h1,LeafIn]
    exact trees_leaves hL f c
   ·cases h1
theorem will_names {s:St} {frm:ByteArray} {L:List ByteArray}: ∀ {l out:Parts} {fl:Bool} {rest:Rat},(∀p∈l,p.1∈L)->NamesIn out L->NamesIn (willF s frm l (out,fl) rest).1.1 L
 | [],_,_,_,_,h=>h
 |p::l,out,fl,rest,hl,h=>by
  rw[willF]
  split
  ·exact will_names (l:=l) (fun q hq=>hl q (by simp[hq])) (gives_names (fl:=fl) h (hl p (by simp)))
  ·exact will_names (l:=l) (fun q hq=>hl q (by simp[hq])) h
theorem heirs_len {s:St} {law:Law} {n:ByteArray} (hG:GoodParts (estateF s law n).1):(estateF s law n).1.length<=(willOf s n).length+s.children.length+1:=by
 let L:=((willOf s n).map (·.1))++(s.children.map (·.2))++[heirSpouse s n]
 have hL:NamesIn (estateF s law n).1 L:=by
  have h1: ∀p∈willOf s n,p.1∈L:=fun p hp=>List.mem_append_left _ (List.mem_append_left _ (List.mem_map.2 ⟨p,hp,rfl⟩))
  have h2: ∀c∈s.children,c.2∈L:=fun c hc=>List.mem_append_left _ (List.mem_append_right _ (List.mem_map.2 ⟨c,hc,rfl⟩))
  have h3:heirSpouse s n∈L:=List.mem_append_right _ (by simp)
  have h4:=will_names (s:=s) (frm:=n) (fl:=false) (rest:=1) h1 (show NamesIn [] L from fun p hp=>by cases hp)
  have h5:=trees_leaves (stems:=law.stems) (frm:=n) h2 (generations s) n
  unfold estateF
  generalize willF s n (willOf s n) ([],false) 1=y at*
  obtain⟨⟨o,f⟩,r⟩:=y
  simp only
  split
  ·exact gives_names h4 h3
  ·split
   ·unfold divideF;exact lines_names h5 h4
   ·unfold divideF
    exact lines_names (fl:=_) h5 (gives_names (fl:=f) h4 h3)
 have hn:((estateF s law n).1.map (·.1)).Nodup:=by
  rw[List.nodup_iff_pairwise_ne,List.pairwise_map]
  exact hG.asc.imp fun h=>lessN_ne h
 have:=nodup_len (m:=L) hn (fun x hx=>by
  obtain⟨p,hp,rfl⟩:=List.mem_map.1 hx
  exact hL p hp)
 simp only[L,List.length_append,List.length_map,List.length_singleton]at this
 exact this
end Go.Proofs.YtkhkhnellekofaaGreatDoor
namespace Go.Proofs.YtkhkhnellekofaaGreatDoor
open Go.RowKit
def toldOf (p:ByteArray) (d:Int) (l:List Rec):List ByteArray:=(l.filter fun x=>x.kind==3&&sameB x.place p&&x.day==d).map (·.name)
theorem told_iff {p:ByteArray} {d:Int} {l:List Rec} {n:ByteArray}:n∈toldOf p d l↔ ∃x∈l,x.kind=3/\x.place=p/\x.day=d/\x.name=n:=by
 unfold toldOf
 rw[List.mem_map]
 constructor
 ·rintro⟨x,hx,h⟩
  rw[List.mem_filter]at hx
  simp only[Bool.and_eq_true,beq_iff_eq,same_iff]at hx
  exact⟨x,hx.1,hx.2.1.1,hx.2.1.2,hx.2.2,h⟩
 ·rintro⟨x,hx,h1,h2,h3,h4⟩
  refine⟨x,List.mem_filter.2 ⟨hx,?_⟩,h4⟩
  simp[h1,h2,h3,same_refl]
theorem sum_snoc (p:ByteArray) (d:Int) (x:Rec): ∀(l:List Rec) (seen:List ByteArray),
 sumGo p d (l++[x]) seen=sumGo p d l seen+(if x.kind==3&&sameB x.place p&&x.day==d&&!seen.any (sameB x.name)&&!(toldOf p d l).any (sameB x.name)then Rat.divInt x.num x.den else 0)
 | [],seen=>by
   rw[List.nil_append,sumGo,sumGo,sumGo,sumGo]
   have:(toldOf p d []).any (sameB x.name)=false:=rfl
   rw[this,Bool.not_false,Bool.and_true]
   split<;>grind
 |y::l,seen=>by
  rw[List.cons_append,sumGo,sumGo]
  by_cases hc:y.kind=3/\y.place=p/\y.day=d/\y.name∉seen
  ·rw[if_pos (counted_iff.2 hc),if_pos (counted_iff.2 hc),sum_snoc p d x l (y.name::seen)]
   have e:(x.kind==3&&sameB x.place p&&x.day==d&&!(y.name::seen).any (sameB x.name)&&!(toldOf p d l).any (sameB x.name))=(x.kind==3&&sameB x.place p&&x.day==d&&!seen.any (sameB x.name)&&!(toldOf p d (y::l)).any (sameB x.name)):=by
    have ht:toldOf p d (y::l)=y.name::toldOf p d l:=by
     unfold toldOf
     rw[List.filter_cons,if_pos (by simp[hc.1,hc.2.1,hc.2.2.1,same_refl])]
     rfl
    rw[ht,List.any_cons,List.any_cons]
    cases sameB x.name y.name<;>simp
   rw[e]
   grind
  ·rw[if_neg (fun h=>hc (counted_iff.1 h)),if_neg (fun h=>hc (counted_iff.1 h)),sum_snoc p d x l seen]
   have e:(x.kind==3&&sameB x.place p&&x.day==d&&!seen.any (sameB x.name)&&!(toldOf p d l).any (sameB x.name))=(x.kind==3&&sameB x.place p&&x.day==d&&!seen.any (sameB x.name)&&!(toldOf p d (y::l)).any (sameB x.name)):=by
    by_cases hy:y.kind=3/\y.place=p/\y.day=d
    ·have hs:y.name∈seen:=by
      by_cases h:y.name∈seen
      ·exact h
      ·exact absurd ⟨hy.1,hy.2.1,hy.2.2,h⟩ hc
     have ht:toldOf p d (y::l)=y.name::toldOf p d l:=by
      unfold toldOf
      rw[List.filter_cons,if_pos (by simp[hy.1,hy.2.1,hy.2.2,same_refl])]
      rfl
     rw[ht,List.any_cons]
     cases h1:sameB x.name y.name
     ·simp
     ·have:seen.any (sameB x.name)=true:=any_same.2 (by rw[same_iff.1 h1];exact hs)
      rw[this];simp
    ·have ht:toldOf p d (y::l)=toldOf p d l:=by
      unfold toldOf
      rw[List.filter_cons,if_neg (by simp only[Bool.and_eq_true,beq_iff_eq,same_iff];exact fun h=>hy ⟨h.1.1,h.1.2,h.2⟩)]
     rw[ht]
   rw[e]
theorem sum_take_mono {p:ByteArray} {d:Int} {l:List Rec} (hn:Nonneg l): ∀ {k:Nat},sumGo p d (l.take k) []<=sumGo p d l []:=by
 intro k
 have key: ∀m,k<=m->sumGo p d (l.take k) []<=sumGo p d (l.take m) []:=by
  intro m
  induction m with
  |zero=>intro h;rw[show k=0 by omega];exact Rat.le_refl
  |succ m ih=>
   intro h
   by_cases hk:k=m+1
   ·rw[hk];exact Rat.le_refl
   ·have i:=ih (by omega)
    by_cases hm:m<l.length
    ·rw[List.take_succ_eq_append_getElem hm,sum_snoc]
     split
     ·rename_i hc
      simp only[Bool.and_eq_true,beq_iff_eq]at hc
      have:=hn l[m] (List.getElem_mem hm) hc.1.1.1.1
      grind
     ·grind
    ·rw[List.take_of_length_le (show l.length<=m+1 by omega)]
     rw[List.take_of_length_le (show l.length<=m by omega)]at i
     exact i
 by_cases hk:k<=l.length
 ·have:=key l.length hk
  rwa [List.take_length]at this
 ·rw[List.take_of_length_le (by omega)];exact Rat.le_refl
structure Searched {α:Type} (r:α->α->Prop) (n:α) (queue seen:List α):Prop where
 reach: ∀x,x∈queue\/x∈seen->Relation.TransGen r n x
 first: ∀y,r n y->y∈seen\/y∈queue
 closed: ∀x∈seen,∀y,r x y->y∈seen\/y∈queue
theorem Searched.done {α:Type} {r:α->α->Prop} {n:α} {seen:List α} (h:Searched r n [] seen): ∀x,Relation.TransGen r n x↔x∈seen:=by
 intro x
 constructor
 ·intro hx
  induction hx with
  |single h1=>exact(h.first _ h1).elim id fun h=>by cases h
  |tail _ h1 ih=>exact(h.closed _ ih _ h1).elim id fun h=>by cases h
 ·intro hx
  exact h.reach x (.inr hx)
end Go.Proofs.YtkhkhnellekofaaGreatDoor
namespace Go.Proofs.YtkhkhnellekofaaGreatDoor
open Go.RowKit
def parR (l:List Rec) (n:ByteArray):List ByteArray:=(l.filter fun x=>x.kind==2&&sameB x.name n).map (·.other)
theorem mem_parR {l:List Rec} {n y:ByteArray}:y∈parR l n↔Edge l n y:=by
 unfold parR Edge
 rw[List.mem_map]
 constructor
 ·rintro⟨x,hx,h⟩
  rw[List.mem_filter]at hx
  simp only[Bool.and_eq_true,beq_iff_eq,same_iff]at hx
  exact⟨x,hx.1,hx.2.1,hx.2.2,h⟩
 ·rintro⟨x,hx,h1,h2,h3⟩
  exact⟨x,List.mem_filter.2 ⟨hx,by simp[h1,h2,same_refl]⟩,h3⟩
theorem parR_snoc (l:List Rec) (x:Rec) (n:ByteArray):parR (l++[x]) n=parR l n++if x.kind==2&&sameB x.name n then[x.other]else[]:=by
 unfold parR
 simp only[List.filter_append,List.map_append,List.filter_cons,List.filter_nil]
 cases x.kind==2&&sameB x.name n<;>simp
theorem parR_skip {l:List Rec} {x:Rec} (h: ¬x.kind=2):parR (l++[x])=parR l:=by
 funext n
 rw[parR_snoc,if_neg (by simp[h]),List.append_nil]
theorem parR_put {l:List Rec} {x:Rec} (h:x.kind=2):parR (l++[x]) x.name=parR l x.name++[x.other]:=by
 rw[parR_snoc,if_pos (by simp[h,same_refl])]
theorem parR_other {l:List Rec} {x:Rec} {n:ByteArray} (h:sameB n x.name=false):parR (l++[x]) n=parR l n:=by
 rw[parR_snoc,if_neg,List.append_nil]
 intro hc
 simp only[Bool.and_eq_true,same_iff]at hc
 rw[hc.2,same_refl]at h
 cases h
theorem parR_len (l:List Rec) (n:ByteArray):(parR l n).length<=l.length:=by
 unfold parR
 rw[List.length_map]
 exact List.length_filter_le _ _
def leftR (l:List Rec) (seen:List ByteArray):Nat:=(l.filter fun x=>x.kind==2&&!seen.any (sameB x.name)).length
theorem leftR_le (l:List Rec) (seen:List ByteArray):leftR l seen<=l.length:=List.length_filter_le _ _
theorem leftR_new {seen:List ByteArray} {n:ByteArray} (h:seen.any (sameB n)=false): ∀l:List Rec,leftR l (seen++[n])+(parR l n).length=leftR l seen
 | []=>rfl
 |x::l=>by
  have ih:=leftR_new h l
  unfold leftR parR at ih⊢
  rw[List.length_map]at ih⊢
  simp only[List.filter_cons]
  by_cases hk:x.kind=2
  ·have e:(x.kind==2)=true:=by simpa using hk
   rw[e]
   simp only[Bool.true_and,List.any_append,List.any_cons,List.any_nil,Bool.or_false]
   cases hn:sameB x.name n
   ·cases hs:seen.any (sameB x.name)
    ·simp only[Bool.or_false,Bool.not_false,if_true,Bool.false_eq_true,if_false,List.length_cons]at ih⊢
     simp only[List.any_append,List.any_cons,List.any_nil,Bool.or_false]at ih
     omega
    ·simp only[Bool.or_false,Bool.not_true,Bool.false_eq_true,if_false]at ih⊢
     simp only[List.any_append,List.any_cons,List.any_nil,Bool.or_false]at ih
     omega
   ·have e2:x.name=n:=same_iff.1 hn
    rw[e2,h]
    simp only[Bool.or_true,Bool.not_true,Bool.false_eq_true,if_false,Bool.not_false,if_true,List.length_cons]at ih⊢
    simp only[List.any_append,List.any_cons,List.any_nil,Bool.or_false]at ih
    omega
  ·have e:(x.kind==2)=false:=by simpa using hk
   rw[e]
   simp only[Bool.false_and,Bool.false_eq_true,if_false]
   simp only[List.any_append,List.any_cons,List.any_nil,Bool.or_false]at ih⊢
   exact ih
theorem search_start (l:List Rec) (n:ByteArray):Searched (Edge l) n (parR l n) []:=
 ⟨fun x hx=>hx.elim (fun h=>Relation.TransGen.single (mem_parR.1 h)) (fun h=>absurd h (by simp)),fun y hy=> .inr (mem_parR.2 hy),fun x hx=>absurd hx (by simp)⟩
theorem search_old {l:List Rec} {n x:ByteArray} {q seen:List ByteArray} (h:Searched (Edge l) n (x::q) seen) (hx:x∈seen):Searched (Edge l) n q seen:=by
 refine⟨fun y hy=>h.reach y (hy.imp (List.mem_cons_of_mem x) id),fun y hy=> ?_,fun z hz y hy=> ?_⟩
 ·rcases h.first y hy with h1|h1
  ·exact .inl h1
  ·rcases List.mem_cons.1 h1 with rfl|h1
   ·exact .inl hx
   ·exact .inr h1
 ·rcases h.closed z hz y hy with h1|h1
  ·exact .inl h1
  ·rcases List.mem_cons.1 h1 with rfl|h1
   ·exact .inl hx
   ·exact .inr h1
theorem search_new {l:List Rec} {n x:ByteArray} {q seen:List ByteArray} (h:Searched (Edge l) n (x::q) seen):Searched (Edge l) n (q++parR l x) (seen++[x]):=by
 have hxr:=h.reach x (.inl (by simp))
 refine⟨fun y hy=> ?_,fun y hy=> ?_,fun z hz y hy=> ?_⟩
 ·simp only[List.mem_append,List.mem_singleton]at hy
  rcases hy with(hy|hy)|(hy|hy)
  ·exact h.reach y (.inl (by simp[hy]))
  ·exact Relation.TransGen.tail hxr (mem_parR.1 hy)
  ·exact h.reach y (.inr hy)
  ·rw[hy];exact hxr
 ·rcases h.first y hy with h1|h1
  ·exact .inl (by simp[h1])
  ·rcases List.mem_cons.1 h1 with rfl|h1
   ·exact .inl (by simp)
   ·exact .inr (by simp[h1])
 ·simp only[List.mem_append,List.mem_singleton]at hz
  rcases hz with hz|hz
  ·rcases h.closed z hz y hy with h1|h1
   ·exact .inl (by simp[h1])
   ·rcases List.mem_cons.1 h1 with rfl|h1
    ·exact .inl (by simp)
    ·exact .inr (by simp[h1])
  ·rw[hz]at hy
   exact .inr (by simp[mem_parR.2 hy])
theorem circle_found {l:List Rec} {n:ByteArray} {q seen:List ByteArray} (h:Searched (Edge l) n (n::q) seen):Circle l:=⟨n,h.reach n (.inl (by simp))⟩
def Free5 (l:List Rec) (n:ByteArray):Prop:= ¬Relation.TransGen (Edge l) n n
theorem free_of {l:List Rec} {n:ByteArray} {seen:List ByteArray} (h:Searched (Edge l) n [] seen) (hn:n∉seen):Free5 l n:=fun hc=>hn ((h.done n).1 hc)
theorem no_circle {l:List Rec} (h: ∀n,parR l n≠[]->Free5 l n): ¬Circle l:=fun hc=>by
 obtain⟨x,hx,hk,h1⟩:=circle_records.1 hc
 have he:Edge l x.name x.other:=⟨x,hx,hk,rfl,rfl⟩
 refine h x.name (fun e=> ?_) ?_
 ·have:=mem_parR.2 he
  rw[e]at this
  cases this
 ·rcases h1 with h1|h1
  ·rw[h1]at he
   exact Relation.TransGen.single he
  ·have key: ∀ {c:ByteArray},Relation.TransGen (Edge l) x.other c->Relation.TransGen (Edge l) x.name c:=by
    intro c hc
    induction hc with
    |single h=>exact Relation.TransGen.tail (Relation.TransGen.single he) h
    |tail _ h ih=>exact Relation.TransGen.tail ih h
   exact key h1
end Go.Proofs.YtkhkhnellekofaaGreatDoor
namespace Go.Proofs.YtkhkhnellekofaaGreatDoor
open Go.RowKit Go.Shelf
attribute [local go_sem] World.cell?_alloc_mark ext_size ext_cell ext_frozen lt_add_r lt_add_r2 lt_add_r3 lt_add_r4 lt_add_r5 lt_add_r6 lt_add_r7 lt_add_r8
attribute [local go_sem] ext_setCell alloc_setCell_lt
def pairAt:List Rec->List Rec->Bool
 |_,[]=>false
 |pre,a::r=>pre.any (fun b=>againstP a b)||pairAt (pre++[a]) r
theorem pairAt_eq: ∀(l pre:List Rec),pairAt pre l=((l.any fun a=>pre.any fun b=>againstP a b)||pairP l)
 | [],pre=>by simp[pairAt,pairP]
 |a::r,pre=>by
  rw[pairAt,pairAt_eq r (pre++[a]),pairP,List.any_cons]
  have h:(r.any fun a'=>(pre++[a]).any fun b=>againstP a' b)=((r.any fun a'=>pre.any fun b=>againstP a' b)||r.any fun y=>againstP y a):=by
   induction r with
   |nil=>rfl
   |cons x r ih=>
    rw[List.any_cons,List.any_cons,List.any_cons,ih,List.any_append,List.any_cons,List.any_nil,Bool.or_false]
    cases pre.any (fun b=>againstP x b)<;>cases againstP x a<;>cases(r.any fun a'=>pre.any fun b=>againstP a' b)<;>rfl
  rw[h]
  cases pre.any (fun b=>againstP a b)<;>cases(r.any fun a'=>pre.any fun b=>againstP a' b)<;>cases(r.any fun y=>againstP y a)<;>simp
theorem sl_take5 {α:Type} {w:World} {size:Nat} {f:α->List Value} {A:Option Addr} {xs:List α} (h:Sl w size f A xs) (k:Nat):Sl w size f A (xs.take k):=fun hl=>by
 obtain⟨b,off,hA,hb,hc⟩:=h (by rw[List.length_take]at hl;omega)
 refine⟨b,off,hA,hb,fun j x hx=>hc j x ?_⟩
 rw[List.getElem?_take]at hx
 split at hx
 ·exact hx
 ·cases hx
set_option maxRecDepth 100000 in
set_option maxHeartbeats 2000000 in
theorem conC_any (a b:Rec) (P:Nat) (w:World) (ha:0<=a.kind/\a.kind<=4) (hb:0<=b.kind/\b.kind<=4) (hP:w.heap[P]?=some (recO a)):Calls Tryz.prog 68 #[b.v, .pointer (some ⟨P,0,none⟩)] w (Ret w (.bool (againstP a b))):=by
 have HA:=Lib.hid (fun W=>against_any a b W ha hb)
 generalize againstP a b=r at*
 obtain⟨kd,nm,ot,pl,dy,tl,nu,de⟩:=a
 obtain⟨kd2,nm2,ot2,pl2,dy2,tl2,nu2,de2⟩:=b
 have hl:=blk_lt hP
 have hn:P≠w.heap.size:=by omega
 unfold recO at hP
 have c0:w.cell? ⟨P,0,none⟩=some (.int .i64 kd):=by simp only[World.cell?,hP];rfl
 have c1:w.cell? ⟨P,1,none⟩=some (.string nm):=by simp only[World.cell?,hP];rfl
 have c2:w.cell? ⟨P,2,none⟩=some (.string ot):=by simp only[World.cell?,hP];rfl
 have c3:w.cell? ⟨P,3,none⟩=some (.string pl):=by simp only[World.cell?,hP];rfl
 have c4:w.cell? ⟨P,4,none⟩=some (.int .i64 dy):=by simp only[World.cell?,hP];rfl
 have c5:w.cell? ⟨P,5,none⟩=some (.int .i64 tl):=by simp only[World.cell?,hP];rfl
 have c6:w.cell? ⟨P,6,none⟩=some (.int .i64 nu):=by simp only[World.cell?,hP];rfl
 have c7:w.cell? ⟨P,7,none⟩=some (.int .i64 de):=by simp only[World.cell?,hP];rfl
 clear hP ha hb
 unfold Rec.v at HA⊢
 go_enter Tryz.func68,Tryz.ntmps68
 go_wp2_with (go_at_call 69;go_must(refine(HA.out _).mono ?_);rintro e wq ⟨rfl,z,rfl⟩)
 go_ret
 exact Ret.of rfl Bw
set_option maxRecDepth 100000 in
set_option maxHeartbeats 2000000 in
theorem contradicts_of (l:List Rec) (A:Option Addr) (c:Nat) (ci tm:Bool) (w:World) (hc:l.length<=c) (hl:l.length<=1000) (hk: ∀x∈l,0<=x.kind/\x.kind<=4) (hS:Sl w 8 Rec.cells A l)
 (hci: ∀W,Below w.heap.size w W->Calls Tryz.prog 70 #[.slice A l.length c] W (Ret W (.bool ci))) (htm: ∀W,Below w.heap.size w W->Calls Tryz.prog 71 #[.slice A l.length c] W (Ret W (.bool tm))):
 Calls Tryz.prog 38 #[.slice A l.length c] w (Ret w (.bool (pairP l||ci||tm))):=by
 have eg: ∀args w,(callFunc 68 args).run Tryz.prog w= .ok (.enter 68 args) w:=enters_of Tryz.func68 (by kernel_rfl) rfl
 have HEG:=Lib.hid eg
 have HS:=Lib.hid hS
 have HK:=Lib.hid hk
 have HCI:=Lib.hid hci
 have HTM:=Lib.hid htm
 have hp0:pairP l=pairAt (l.take 0) (l.drop 0):=by rw[List.take_zero,List.drop_zero,pairAt_eq];simp
 generalize pairP l=R at*
 have HP:=Lib.hid hp0
 clear hS hk hci htm eg hp0
 go_enter Tryz.func38,Tryz.ntmps38
 go_wp2_with fail
 go_loopw [7] (fun i wr=> ∃k:Nat,k<=l.length/\i= .int .i64 k/\Hid (R=pairAt (l.take k) (l.drop k))/\Below w.heap.size w wr) (fun i _=>l.length-(intOf i).toNat)
 case atStart=>exact⟨0,Nat.zero_le _,rfl,HP.out,Below.refl _ _⟩
 case round=>
  obtain⟨k,hk,rfl,HX,hB⟩:=hrel
  have HB:=Lib.hid hB
  have hbs:=hB.size
  by_cases hlt:k<l.length
  ·have hx:=HX.out
   rw[List.drop_eq_getElem_cons hlt,pairAt,<-List.take_succ_eq_append_getElem hlt]at hx
   have hcf: ∀W,Below wr.heap.size wr W->W.heap[wr.heap.size]?=some (recO l[k])->Calls Tryz.prog 67 #[.slice A k c, .func (.func 68) #[] #[.pointer (some ⟨wr.heap.size,0,none⟩)]] W (Ret W (.bool ((l.take k).any fun b=>againstP l[k] b))):=fun W hW hP=>by
    refine cfRec_any 68 _ HEG.out _ A k c (l.take k) W (by rw[List.length_take];omega) (by rw[List.length_take];omega) ((sl_take5 HS.out k).keep (HB.out.trans (hW.mono hbs))) fun x hx W' hW'=> ?_
    refine(conC_any l[k] x wr.heap.size W' (HK.out _ (List.getElem_mem hlt)) (HK.out x (List.mem_of_mem_take hx)) ((hW'.block _ (blk_lt hP)).trans hP)).mono ?_
    rintro e wq ⟨rfl,z,rfl⟩
    exact⟨rfl,hW'.trans ((below_ext W' z).mono hW'.size)⟩
   obtain⟨b,off,hA,hb,hcc⟩:=(HS.out.keep hB).at hlt
   have HX2:=Lib.hid hx
   have HCF:=Lib.hid hcf
   have HLT:=Lib.hid hlt
   generalize l[k]=x at*
   generalize((l.take k).any fun b=>againstP x b)=an at*
   obtain⟨kd,nm,ot,pl,dy,tl,nu,de⟩:=x
   have i0:wr.cell? ⟨b,off+k*8,none⟩=some (.int .i64 kd):=hcc 0 _ rfl
   have i1:wr.cell? ⟨b,off+k*8+1,none⟩=some (.string nm):=hcc 1 _ rfl
   have i2:wr.cell? ⟨b,off+k*8+2,none⟩=some (.string ot):=hcc 2 _ rfl
   have i3:wr.cell? ⟨b,off+k*8+3,none⟩=some (.string pl):=hcc 3 _ rfl
   have i4:wr.cell? ⟨b,off+k*8+4,none⟩=some (.int .i64 dy):=hcc 4 _ rfl
   have i5:wr.cell? ⟨b,off+k*8+5,none⟩=some (.int .i64 tl):=hcc 5 _ rfl
   have i6:wr.cell? ⟨b,off+k*8+6,none⟩=some (.int .i64 nu):=hcc 6 _ rfl
   have i7:wr.cell? ⟨b,off+k*8+7,none⟩=some (.int .i64 de):=hcc 7 _ rfl
   have hki:(k:Int)<(l.length:Int):=by omega
   have hk0:(0:Int)<=(k:Int):=by omega
   have hkc:(k:Int)<=(c:Int):=by omega
   subst hA
   clear hcc hx hcf HX hB
   cases an
   ·go_wp2_with (go_at_call 67;go_must(refine(HCF.out _ Bw (J_new _ _ _ rfl)).mono ?_);rintro e wq ⟨rfl,z,rfl⟩)
    go_round
    case rel=>exact⟨k+1,HLT.out,by go_num,by show _=_;rw[HX2.out,Bool.false_or],HB.out.trans (Below.mono (B:=wr.heap.size) Bw hbs)⟩
    case measure=>have:=HLT.out;simp only[intOf];omega
   ·have HRX:Hid (R=true):=by show _=_;rw[HX2.out,Bool.true_or]
    go_wp2_with (go_at_call 67;go_must(refine(HCF.out _ Bw (J_new _ _ _ rfl)).mono ?_);rintro e wq ⟨rfl,z,rfl⟩)
    go_ret
    exact Ret.of (bool_eq (by rw[HRX.out];rfl)) (HB.out.trans (Below.mono (B:=wr.heap.size) Bw hbs))
  ·have hki: ¬(k:Int)<(l.length:Int):=by omega
   have hx:=HX.out
   rw[List.drop_eq_nil_of_le (by omega),pairAt]at hx
   have HRX:Hid (R=false):=hx
   clear hx
   have hci:=fun W (hW:Below wr.heap.size wr W)=>HCI.out W (hB.trans (hW.mono hbs))
   have htm:=fun W (hW:Below wr.heap.size wr W)=>HTM.out W (hB.trans (hW.mono hbs))
   have HC2:=Lib.hid hci
   have HT2:=Lib.hid htm
   clear hci htm hB HCI HTM
   cases ci
   ·go_wp2_with (first
     |(go_at_call 70;go_must(refine(HC2.out _ Bw).mono ?_);rintro e wq ⟨rfl,z,rfl⟩)
     |(go_at_call 71;go_must(refine(HT2.out _ Bw).mono ?_);rintro e wq2 ⟨rfl,z2,rfl⟩))
    go_ret
    exact Ret.of (bool_eq (by rw[HRX.out];rfl)) (HB.out.trans (Below.mono (B:=wr.heap.size) Bw hbs))
   ·go_wp2_with (go_at_call 70;go_must(refine(HC2.out _ Bw).mono ?_);rintro e wq ⟨rfl,z,rfl⟩)
    go_ret
    exact Ret.of (bool_eq (by rw[HRX.out];rfl)) (HB.out.trans (Below.mono (B:=wr.heap.size) Bw hbs))
end Go.Proofs.YtkhkhnellekofaaGreatDoor
namespace Go.Proofs.YtkhkhnellekofaaGreatDoor
open Go.RowKit
attribute [local go_sem] World.cell?_alloc_mark ext_size ext_cell ext_frozen lt_add_r lt_add_r2 lt_add_r3 lt_add_r4 lt_add_r5 lt_add_r6 lt_add_r7 lt_add_r8
attribute [local go_sem] ext_setCell alloc_setCell_lt
set_option maxRecDepth 100000 in
set_option maxHeartbeats 2000000 in
theorem rAbs_any (n:Int) (w:World) (h:n.natAbs<=4611686018427387904):Calls Tryz.prog 105 #[.int .i64 n] w (Ret0 w (.int .i64 (n.natAbs:Int))):=by
 have h0: -4611686018427387904<=n:=by omega
 have h1:n<=4611686018427387904:=by omega
 have hw:IntKind.i64.wrap (-n)= -n:=by rw[IntKind.wrap_i64];omega
 clear h
 go_enter Tryz.func105,Tryz.ntmps105
 by_cases h:n<0
 ·go_wp2_with fail
  go_ret
  exact⟨by rw[show((n.natAbs:Nat):Int)= -n by omega];first|rfl|(show Ending.returned (Value.int .i64 (max n (-n)))=_;rw[show max n (-n)= -n by omega]),rfl⟩
 ·by_cases h2:n=0
  ·subst h2
   go_wp2_with fail
   go_ret
   exact⟨rfl,rfl⟩
  ·go_wp2_with fail
   go_ret
   exact⟨by rw[show((n.natAbs:Nat):Int)=n by omega];first|rfl|(show Ending.returned (Value.int .i64 (max n (-n)))=_;rw[show max n (-n)=n by omega]),rfl⟩
set_option maxRecDepth 100000 in
set_option maxHeartbeats 2000000 in
theorem rGcd_any (a b:Int) (w:World) (ha:a.natAbs<=4611686018427387904) (hb:b.natAbs<=4611686018427387904):Calls Tryz.prog 85 #[.int .i64 a, .int .i64 b] w (Ret w (.int .i64 (Int.gcd a b))):=by
 go_enter Tryz.func85,Tryz.ntmps85
 go_wp2_with fail
 go_loopw [0,1] (fun x y wr=> ∃p q:Int,x= .int .i64 p/\y= .int .i64 q/\p.natAbs<=4611686018427387904/\q.natAbs<=4611686018427387904/\Hid (Int.gcd a b=Int.gcd p q)/\ ∃z,wr=w.ext z) (fun _ y _=>(intOf y).natAbs)
 case atStart=>exact⟨a,b,rfl,rfl,ha,hb,rfl,ext_below (Below.refl _ _)⟩
 case round=>
  obtain⟨p,q,rfl,rfl,hp,hq,HG,z,rfl⟩:=hrel
  by_cases hz:q=0
  ·subst hz
   have HP:=Lib.hid hp
   clear hp hq
   go_wp2_with (go_at_call 105;go_must(refine(rAbs_any _ _ HP.out).mono ?_);rintro e wq ⟨rfl,rfl⟩)
   go_ret
   exact Ret.of (int_eq (by rw[HG.out];simp[Int.gcd])) Bw
  ·have hq2:(q==0)=false:=by simp[hz]
   have hm:=tmod_lt p q hz
   have hG:=Lib.hid (gcd_tmod p q)
   have hwr:IntKind.i64.wrap (p.tmod q)=p.tmod q:=IntWalk.i64_in _ (by omega)
   go_wp2_with fail
   go_quiet (fail)
   go_wp2_with fail
   all_goals(first
    |(go_round
      case rel=>exact⟨q,p.tmod q,rfl,rfl,hq,by omega,by show _=_;rw[HG.out,hG.out],ext_below Bw⟩
      case measure=>simp only[intOf];omega))
set_option maxRecDepth 100000 in
set_option maxHeartbeats 2000000 in
theorem rLowest_any (a b:Int) (w:World) (ha:a.natAbs<=4611686018427387904) (hb0:0<b) (hb:b<=4611686018427387904):Calls Tryz.prog 99 #[.int .i64 a, .int .i64 b] w (Ret w (fracV (Rat.divInt a b))):=by
 have hg:=gcd_pos5 (a:=a) hb0
 obtain⟨g,HG⟩: ∃g:Int,g=(Int.gcd a b:Int):=⟨_,rfl⟩
 have hg0:0<g:=by omega
 have hgz:(g==0)=false:=by simp;omega
 have e1:a.tdiv g=(Rat.divInt a b).num:=by rw[divInt_num hb0,HG,tdiv_exact (Int.gcd_dvd_left ..)]
 have e2:b.tdiv g=((Rat.divInt a b).den:Int):=by rw[divInt_den hb0,HG,tdiv_exact (Int.gcd_dvd_right ..)]
 have n1:(a.tdiv g).natAbs<=4611686018427387904:=Nat.le_trans (Int.natAbs_tdiv_le_natAbs _ _) ha
 have n2:(b.tdiv g).natAbs<=4611686018427387904:=Nat.le_trans (Int.natAbs_tdiv_le_natAbs _ _) (by omega)
 have w1:wrap64 (a.tdiv g)=a.tdiv g:=by unfold wrap64;omega
 have w2:wrap64 (b.tdiv g)=b.tdiv g:=by unfold wrap64;omega
 have HA:=Lib.hid ha
 have hbn:b.natAbs<=4611686018427387904:=by omega
 have hbp: ¬b<0:=by omega
 have HB:=Lib.hid hbn
 have E1:=Lib.hid e1
 have E2:=Lib.hid e2
 clear ha hb hb0 hg e1 e2 n1 n2 hbn
 go_enter Tryz.func99,Tryz.ntmps99
 go_wp2_with (go_at_call 85;refine(rGcd_any _ _ _ HA.out HB.out).mono ?_;rintro e w1 ⟨rfl,z1,rfl⟩;rw[<-HG])
 go_region
 go_wp2_with fail
 refine bodyPost_ret (v:=fracV (Rat.divInt a b)) ?_ rfl ?_
 ·refine results_frac rfl _ _ w.heap.size _ _ rfl ?_ ?_
  ·rw[<-E1.out];simp[go_sem];rw[<-HG];exact w1
  ·rw[<-E2.out];simp[go_sem];rw[<-HG];exact w2
 ·exact Ret.of rfl Bw
set_option maxRecDepth 100000 in
set_option maxHeartbeats 2000000 in
theorem rAddI (a b c d:Int) (w:World) (ha:a.natAbs<=1000000000) (hb:b.natAbs<=1000000000) (hc:c.natAbs<=1000000000) (hd:d.natAbs<=1000000000) (hb0:0<b) (hd0:0<d) (_h:True):Calls Tryz.prog 74 #[.agg #[.int .i64 a, .int .i64 b], .agg #[.int .i64 c, .int .i64 d]] w (Ret w (fracV (Rat.divInt (a*d+c*b) (b*d)))):=by
 have m1:=mul_small ha hd
 have m2:=mul_small hc hb
 have m3:=mul_small hb hd
 have m4:0<b*d:=Int.mul_pos hb0 hd0
 obtain⟨m1,n1⟩:=m1
 obtain⟨m2,n2⟩:=m2
 obtain⟨m3,n3⟩:=m3
 have w1:IntKind.i64.wrap (a*d)=a*d:=IntWalk.i64_in _ (by omega)
 have w2:IntKind.i64.wrap (c*b)=c*b:=IntWalk.i64_in _ (by omega)
 have w3:IntKind.i64.wrap (b*d)=b*d:=IntWalk.i64_in _ (by omega)
 have m5:=mul_small ha hc
 obtain⟨m5,n5⟩:=m5
 have m6:=mul_small hb hc
 obtain⟨m6,n6⟩:=m6
 have w5:IntKind.i64.wrap (a*c)=a*c:=IntWalk.i64_in _ (by omega)
 have w6:IntKind.i64.wrap (b*c)=b*c:=IntWalk.i64_in _ (by omega)
 have hs:(a*d+c*b).natAbs<=4611686018427387904:=by omega
 have hl:(b*d)<=4611686018427387904:=by omega
 have h4:0<(b*d):=m4
 have HS:=Lib.hid hs
 have HL:=Lib.hid hl
 have H4:=Lib.hid h4
 clear hs hl m4 h4 ha hb hc hd
 go_enter Tryz.func74,Tryz.ntmps74
 go_wp2_with (go_at_call 99;go_must(refine(rLowest_any _ _ _ HS.out H4.out HL.out).mono ?_);rintro e w1 ⟨rfl,z1,rfl⟩;simp only[fracV])
 refine bodyPost_ret (v:=fracV (Rat.divInt (a*d+c*b) (b*d))) ?_ rfl ?_
 ·refine results_frac rfl _ _ _ _ _ rfl ?_ ?_
  ·simp[go_sem]
  ·simp[go_sem]
 ·exact Ret.of rfl Bw
theorem rAdd_any (p q:Rat) (w:World) (hsp:small5 p) (hsq:small5 q):Calls Tryz.prog 74 #[fracV p,fracV q] w (Ret w (fracV (p+q))):=by
 rw[add_divInt]
 exact rAddI _ _ _ _ _ hsp.1 (by have:=hsp.2;omega) hsq.1 (by have:=hsq.2;omega) (den_pos' p) (den_pos' q) trivial
set_option maxRecDepth 100000 in
set_option maxHeartbeats 2000000 in
theorem rZero_any (w:World):Calls Tryz.prog 54 #[] w (Ret w (.agg #[.int .i64 0, .int .i64 1])):=by
 go_enter Tryz.func54,Tryz.ntmps54
 go_wp2_with fail
 refine bodyPost_ret (v:= .agg #[.int .i64 0, .int .i64 1]) ?_ rfl ?_
 ·refine results_frac rfl _ _ w.heap.size _ _ rfl ?_ ?_
  ·simp[go_sem]
  ·simp[go_sem]
 ·exact Ret.of rfl Bw
end Go.Proofs.YtkhkhnellekofaaGreatDoor
