/- Walk of chapter 5's some: the records with some numbers. -/
import Derived.Test.YtmaidggpbihlgaaGreatDoorN9
import Derived.Test.YtmaidggpbihlgaaGreatDoorJ7
import Derived.Test.YtmaidggpbihlgaaGreatDoorDK
import Derived.Test.YtmaidggpbihlgaaGreatDoorNH
import Derived.Test.YtmaidggpbihlgaaGreatDoorJS
import Derived.Test.YtmaidggpbihlgaaGreatDoorJN
set_option linter.unusedSimpArgs false
set_option linter.unusedVariables false
namespace Go.Proofs.YtmaidggpbihlgaaGreatDoor
open Go.RowKit
theorem same_comm5 (a b:ByteArray):sameB a b=sameB b a:=by
 rw[Bool.eq_iff_iff,same_iff,same_iff]
 exact⟨Eq.symm,Eq.symm⟩
theorem partsGo_eq (fb sh:Bool) (frm:ByteArray): ∀(l seen:List RPart) (L:List ByteArray) (s:Rat),(∀n,L.any (sameB n)=seen.any (fun q=>sameB q.name n))->
 partsGo fb sh frm l seen s=if(firstsP l L&&l.all (fun p=>!(sameB p.name frm&&fb)))&&(if sh then l.all (fun p=>isShareP 16 p.num p.den&&p.num != 0)else l.all (fun p=>p.num==0&&p.den==0))then some (if sh then s+sumQ (ratParts l)else s)else none
 | [],seen,L,s,h=>by
   rw[partsGo]
   cases sh
   ·simp[firstsP]
   ·simp[firstsP,ratParts,sumQ,Rat.add_zero]
 |p::l,seen,L,s,h=>by
  have ih:=fun t=>partsGo_eq fb sh frm l (seen++[p]) (p.name::L) t (fun n=>by
   rw[List.any_cons,List.any_append,h n,List.any_cons,List.any_nil,Bool.or_false,Bool.or_comm,same_comm5 n])
  have hs:sumQ (ratParts (p::l))=p.rat+sumQ (ratParts l):=rfl
  rw[partsGo,firstsP,h p.name,List.all_cons,List.all_cons,List.all_cons,hs,ih,ih]
  cases h1:seen.any (fun q=>sameB q.name p.name)
  ·cases h2:(sameB p.name frm&&fb)
   ·simp only[Bool.or_self,Bool.false_eq_true,if_false,Bool.not_false,Bool.true_and]
    cases sh
    ·simp only[Bool.not_false,if_true,Bool.false_eq_true,if_false]
     by_cases hz:p.num=0
     ·by_cases hy:p.den=0
      ·simp[hz,hy]
      ·simp[hz,hy]
     ·simp[hz]
    ·simp only[Bool.not_true,if_true,Bool.false_eq_true,if_false]
     cases h3:isShareP 16 p.num p.den
     ·simp
     ·by_cases hz:p.num=0
      ·simp[hz]
      ·have e:s+p.rat+sumQ (ratParts l)=s+(p.rat+sumQ (ratParts l)):=by grind
       simp[hz,e]
   ·simp
  ·simp
theorem rat_num_le (s:Rat):decide (s.num<=(s.den:Int))=decide (s<=1):=by
 rw[Bool.eq_iff_iff,decide_eq_true_eq,decide_eq_true_eq,Rat.le_iff]
 simp
theorem rat_num_one (s:Rat):(s.num==(s.den:Int))=(s==1):=by
 rw[Bool.eq_iff_iff,beq_iff_eq,beq_iff_eq]
 constructor
 ·intro h
  have h1:=Rat.num_divInt_den s
  rw[h]at h1
  rw[<-h1]
  have:=s.den_pos
  rw[Rat.divInt_self']
  omega
 ·intro h
  rw[h]
  rfl
theorem sumOk_eq (fb sh al:Bool) (frm:ByteArray) (l:List RPart) (hf:fb=true\/ ∀p∈l,sameB p.name frm=false):sumOk sh al (partsGo fb sh frm l [] 0)=partsOk sh al frm l:=by
 have h0: ∀n:ByteArray,([]:List ByteArray).any (sameB n)=([]:List RPart).any (fun q=>sameB q.name n):=fun n=>rfl
 rw[partsGo_eq fb sh frm l [] [] 0 h0]
 have hfa:l.all (fun p=>!(sameB p.name frm&&fb))=l.all (fun p=>!sameB p.name frm):=by
  rcases hf with hf|hf
  ·subst hf;simp
  ·rw[Bool.eq_iff_iff,List.all_eq_true,List.all_eq_true]
   exact⟨fun _ p hp=>by rw[hf p hp];rfl,fun _ p hp=>by rw[hf p hp];rfl⟩
 rw[hfa]
 unfold partsOk
 cases sh
 ·simp only[Bool.false_eq_true,if_false]
  split
  ·rename_i h;rw[h];rfl
  ·rename_i h
   rw[Bool.not_eq_true]at h
   rw[h];rfl
 ·simp only[if_true]
  split
  ·rename_i h
   rw[Bool.and_eq_true,Bool.and_eq_true]at h
   rw[h.1.1,h.1.2,h.2]
   simp only[sumOk,Bool.not_true,Bool.false_or,Bool.true_and,Rat.zero_add,rat_num_le,rat_num_one]
  ·rename_i h
   rw[Bool.not_eq_true]at h
   simp only[sumOk]
   cases h1:firstsP l []<;>cases h2:l.all (fun p=>!sameB p.name frm)<;>cases h3:l.all (fun p=>isShareP 16 p.num p.den&&p.num != 0)<;>simp_all
theorem noB_same {a b:ByteArray} (ha:noB a=false) (hb:noB b=true):sameB a b=false:=by
 unfold noB at ha hb
 unfold sameB
 cases h:(a.toList==b.toList)
 ·rfl
 ·rw[beq_iff_eq]at h
  rw[h,hb]at ha
  cases ha
theorem right_eq {f:Form} {frm:ByteArray} {l:List RPart} (hf:f.frm=true\/ ∀p∈l,sameB p.name frm=false):rightF f frm l=if f.parts then(!l.isEmpty&&(f.shares||l.length==1))&&partsOk f.shares f.all frm l else l.isEmpty:=by
 unfold rightF
 rw[sumOk_eq _ _ _ _ _ hf]
 cases f.parts
 ·simp
 ·cases l.isEmpty
  ·cases f.shares
   ·by_cases h:l.length=1
    ·simp[h]
    ·simp[h]
   ·simp
  ·simp
theorem checkDeedQ_eq (d:Deed):checkDeedQ d=checkDeedP d:=by
 obtain⟨kd,dy,pl,fr,ps,cl,yr⟩:=d
 unfold checkDeedQ checkDeedP
 simp only
 split
 ·rfl
 rename_i h1
 split
 ·rfl
 rename_i h2
 split
 ·rfl
 rename_i h3
 have e4:(ps.any fun p=>!isNameP p.name)=!ps.all fun p=>isNameP p.name:=by rw[List.not_all_eq_any_not]
 rw[e4]
 split
 ·rfl
 rename_i h4
 have hn: ∀p∈ps,noB p.name=false:=fun p hp=>by
  cases ha:(ps.all fun p=>isNameP p.name)
  ·rw[ha]at h4;simp at h4
  ·exact name_not (List.all_eq_true.1 ha p hp)
 simp only[Bool.not_eq_true',Bool.not_eq_false,inR_iff5]at h1
 have hk:kd=0\/kd=1\/kd=2\/kd=3\/kd=4\/kd=5\/kd=6\/kd=7\/kd=8:=by omega
 have hg:noB fr=true-> ∀p∈ps,sameB p.name fr=false:=fun hb p hp=>noB_same (hn p hp) hb
 clear h1 h2 h3 h4 hn e4
 have h10:(0:Int)=0:=rfl
 rcases hk with rfl|rfl|rfl|rfl|rfl|rfl|rfl|rfl|rfl
 all_goals
  simp only[formsL,formedP,Int.toNat_zero,Int.toNat_one,List.getD_cons_zero,show(2:Int).toNat=2 from rfl,show(3:Int).toNat=3 from rfl,show(4:Int).toNat=4 from rfl,show(5:Int).toNat=5 from rfl,show(6:Int).toNat=6 from rfl,show(7:Int).toNat=7 from rfl,show(8:Int).toNat=8 from rfl,List.getD_cons_succ]
 ·cases hb:noB fr
  ·simp
  ·rw[right_eq (f:=⟨_,_,_,_,_,_,_,_⟩) (.inr (hg hb))]
   cases noB pl<;>cases hy:(yr==0)<;>cases hc:(cl==2)<;>simp
 ·rw[right_eq (f:=⟨_,_,_,_,_,_,_,_⟩) (.inl rfl)]
  cases noB fr<;>cases noB pl<;>cases hy:(yr==0)<;>cases hc:(cl==0)<;>simp_all
 ·rw[right_eq (f:=⟨_,_,_,_,_,_,_,_⟩) (.inl rfl)]
  cases noB fr<;>cases noB pl<;>cases hy:(yr==0)<;>cases hc:(cl==0)<;>simp_all
 ·cases hb:noB fr
  ·simp
  ·rw[right_eq (f:=⟨_,_,_,_,_,_,_,_⟩) (.inr (hg hb))]
   cases noB pl<;>cases hy:(yr==0)<;>cases hc:(cl==0)<;>simp_all
 ·rw[right_eq (f:=⟨_,_,_,_,_,_,_,_⟩) (.inl rfl)]
  cases noB fr<;>cases noB pl<;>cases hy:(yr==0)<;>cases hc:(cl==0)<;>simp_all
 ·rw[right_eq (f:=⟨_,_,_,_,_,_,_,_⟩) (.inl rfl)]
  cases noB fr<;>cases noB pl<;>cases hy:(yr==0)<;>cases hc:(cl==0)<;>cases ps<;>simp_all
 ·rw[right_eq (f:=⟨_,_,_,_,_,_,_,_⟩) (.inl rfl)]
  cases noB fr<;>cases noB pl<;>cases hy:(yr==0)<;>cases hc:(cl==0)<;>cases ps<;>simp_all
 ·rw[right_eq (f:=⟨_,_,_,_,_,_,_,_⟩) (.inl rfl)]
  cases noB fr<;>cases noB pl<;>cases hy:(yr==0)<;>cases hc:(cl==0)<;>cases ps<;>simp_all
 ·rw[right_eq (f:=⟨_,_,_,_,_,_,_,_⟩) (.inl rfl)]
  cases noB fr<;>cases noB pl<;>cases hy:(yr==0)<;>cases hc:(cl==0)<;>simp_all
end Go.Proofs.YtmaidggpbihlgaaGreatDoor
namespace Go.Proofs.YtmaidggpbihlgaaGreatDoor
open Go.RowKit
def toldOf (p:ByteArray) (d:Int) (l:List Rec):List ByteArray:=(l.filter fun x=>x.kind==3&&sameB x.place p&&x.day==d).map (·.name)
theorem told_iff {p:ByteArray} {d:Int} {l:List Rec} {n:ByteArray}:n∈toldOf p d l↔ ∃x∈l,x.kind=3/\x.place=p/\x.day=d/\x.name=n:=by
 unfold toldOf
 rw[List.mem_map]
 constructor
 ·rintro⟨x,hx,h⟩
  rw[List.mem_filter]at hx
  simp only[Bool.and_eq_true,beq_iff_eq,same_iff]at hx
  exact⟨x,hx.1,hx.2.1.1,hx.2.1.2,hx.2.2,h⟩
 ·rintro⟨x,hx,h1,h2,h3,h4⟩
  refine⟨x,List.mem_filter.2 ⟨hx,?_⟩,h4⟩
  simp[h1,h2,h3,same_refl]
theorem sum_snoc (p:ByteArray) (d:Int) (x:Rec): ∀(l:List Rec) (seen:List ByteArray),
 sumGo p d (l++[x]) seen=sumGo p d l seen+(if x.kind==3&&sameB x.place p&&x.day==d&&!seen.any (sameB x.name)&&!(toldOf p d l).any (sameB x.name)then Rat.divInt x.num x.den else 0)
 | [],seen=>by
   rw[List.nil_append,sumGo,sumGo,sumGo,sumGo]
   have:(toldOf p d []).any (sameB x.name)=false:=rfl
   rw[this,Bool.not_false,Bool.and_true]
   split<;>grind
 |y::l,seen=>by
  rw[List.cons_append,sumGo,sumGo]
  by_cases hc:y.kind=3/\y.place=p/\y.day=d/\y.name∉seen
  ·rw[if_pos (counted_iff.2 hc),if_pos (counted_iff.2 hc),sum_snoc p d x l (y.name::seen)]
   have e:(x.kind==3&&sameB x.place p&&x.day==d&&!(y.name::seen).any (sameB x.name)&&!(toldOf p d l).any (sameB x.name))=(x.kind==3&&sameB x.place p&&x.day==d&&!seen.any (sameB x.name)&&!(toldOf p d (y::l)).any (sameB x.name)):=by
    have ht:toldOf p d (y::l)=y.name::toldOf p d l:=by
     unfold toldOf
     rw[List.filter_cons,if_pos (by simp[hc.1,hc.2.1,hc.2.2.1,same_refl])]
     rfl
    rw[ht,List.any_cons,List.any_cons]
    cases sameB x.name y.name<;>simp
   rw[e]
   grind
  ·rw[if_neg (fun h=>hc (counted_iff.1 h)),if_neg (fun h=>hc (counted_iff.1 h)),sum_snoc p d x l seen]
   have e:(x.kind==3&&sameB x.place p&&x.day==d&&!seen.any (sameB x.name)&&!(toldOf p d l).any (sameB x.name))=(x.kind==3&&sameB x.place p&&x.day==d&&!seen.any (sameB x.name)&&!(toldOf p d (y::l)).any (sameB x.name)):=by
    by_cases hy:y.kind=3/\y.place=p/\y.day=d
    ·have hs:y.name∈seen:=by
      by_cases h:y.name∈seen
      ·exact h
      ·exact absurd ⟨hy.1,hy.2.1,hy.2.2,h⟩ hc
     have ht:toldOf p d (y::l)=y.name::toldOf p d l:=by
      unfold toldOf
      rw[List.filter_cons,if_pos (by simp[hy.1,hy.2.1,hy.2.2,same_refl])]
      rfl
     rw[ht,List.any_cons]
     cases h1:sameB x.name y.name
     ·simp
     ·have:seen.any (sameB x.name)=true:=any_same.2 (by rw[same_iff.1 h1];exact hs)
      rw[this];simp
    ·have ht:toldOf p d (y::l)=toldOf p d l:=by
      unfold toldOf
      rw[List.filter_cons,if_neg (by simp only[Bool.and_eq_true,beq_iff_eq,same_iff];exact fun h=>hy ⟨h.1.1,h.1.2,h.2⟩)]
     rw[ht]
   rw[e]
theorem sum_take_mono {p:ByteArray} {d:Int} {l:List Rec} (hn:Nonneg l): ∀ {k:Nat},sumGo p d (l.take k) []<=sumGo p d l []:=by
 intro k
 have key: ∀m,k<=m->sumGo p d (l.take k) []<=sumGo p d (l.take m) []:=by
  intro m
  induction m with
  |zero=>intro h;rw[show k=0 by omega];exact Rat.le_refl
  |succ m ih=>
   intro h
   by_cases hk:k=m+1
   ·rw[hk];exact Rat.le_refl
   ·have i:=ih (by omega)
    by_cases hm:m<l.length
    ·rw[List.take_succ_eq_append_getElem hm,sum_snoc]
     split
     ·rename_i hc
      simp only[Bool.and_eq_true,beq_iff_eq]at hc
      have:=hn l[m] (List.getElem_mem hm) hc.1.1.1.1
      grind
     ·grind
    ·rw[List.take_of_length_le (show l.length<=m+1 by omega)]
     rw[List.take_of_length_le (show l.length<=m by omega)]at i
     exact i
 by_cases hk:k<=l.length
 ·have:=key l.length hk
  rwa [List.take_length]at this
 ·rw[List.take_of_length_le (by omega)];exact Rat.le_refl
theorem much_iff {l:List Rec} (hn:Nonneg l):TooMuch l↔ ∃(k:Nat) (x:Rec),l[k]?=some x/\x.kind=3/\x.name∉toldOf x.place x.day (l.take k)/\1<sumGo x.place x.day (l.take (k+1)) []:=by
 constructor
 ·rintro⟨p,d,h⟩
  have key: ∀m,m<=l.length->1<sumGo p d (l.take m) []-> ∃(k:Nat) (x:Rec),l[k]?=some x/\x.kind=3/\x.name∉toldOf x.place x.day (l.take k)/\1<sumGo x.place x.day (l.take (k+1)) []:=by
   intro m
   induction m with
   |zero=>intro _ h;rw[List.take_zero,sumGo]at h;exact absurd h (by decide)
   |succ m ih=>
    intro hm hs
    by_cases h1:1<sumGo p d (l.take m) []
    ·exact ih (by omega) h1
    ·have hlt:m<l.length:=by omega
     have hs2:=hs
     rw[List.take_succ_eq_append_getElem hlt,sum_snoc]at hs
     split at hs
     ·rename_i hc
      simp only[Bool.and_eq_true,beq_iff_eq,same_iff,Bool.not_eq_true',<-Bool.not_eq_true,any_same]at hc
      obtain⟨⟨⟨⟨c1,c2⟩,c3⟩,_⟩,c5⟩:=hc
      exact⟨m,l[m],List.getElem?_eq_getElem hlt,c1,by rw[c2,c3];exact c5,by rw[c2,c3];exact hs2⟩
     ·grind
  have:=key l.length (Nat.le_refl _) (by rw[List.take_length];exact h)
  exact this
 ·rintro⟨k,x,_,_,_,h⟩
  have:=sum_take_mono (p:=x.place) (d:=x.day) hn (k:=k+1)
  exact⟨x.place,x.day,by grind⟩
structure Searched {α:Type} (r:α->α->Prop) (n:α) (queue seen:List α):Prop where
 reach: ∀x,x∈queue\/x∈seen->Relation.TransGen r n x
 first: ∀y,r n y->y∈seen\/y∈queue
 closed: ∀x∈seen,∀y,r x y->y∈seen\/y∈queue
theorem Searched.done {α:Type} {r:α->α->Prop} {n:α} {seen:List α} (h:Searched r n [] seen): ∀x,Relation.TransGen r n x↔x∈seen:=by
 intro x
 constructor
 ·intro hx
  induction hx with
  |single h1=>exact(h.first _ h1).elim id fun h=>by cases h
  |tail _ h1 ih=>exact(h.closed _ ih _ h1).elim id fun h=>by cases h
 ·intro hx
  exact h.reach x (.inr hx)
end Go.Proofs.YtmaidggpbihlgaaGreatDoor
namespace Go.Proofs.YtmaidggpbihlgaaGreatDoor
open Go.RowKit
def parR (l:List Rec) (n:ByteArray):List ByteArray:=(l.filter fun x=>x.kind==2&&sameB x.name n).map (·.other)
theorem mem_parR {l:List Rec} {n y:ByteArray}:y∈parR l n↔Edge l n y:=by
 unfold parR Edge
 rw[List.mem_map]
 constructor
 ·rintro⟨x,hx,h⟩
  rw[List.mem_filter]at hx
  simp only[Bool.and_eq_true,beq_iff_eq,same_iff]at hx
  exact⟨x,hx.1,hx.2.1,hx.2.2,h⟩
 ·rintro⟨x,hx,h1,h2,h3⟩
  exact⟨x,List.mem_filter.2 ⟨hx,by simp[h1,h2,same_refl]⟩,h3⟩
theorem parR_snoc (l:List Rec) (x:Rec) (n:ByteArray):parR (l++[x]) n=parR l n++if x.kind==2&&sameB x.name n then[x.other]else[]:=by
 unfold parR
 simp only[List.filter_append,List.map_append,List.filter_cons,List.filter_nil]
 cases x.kind==2&&sameB x.name n<;>simp
theorem parR_skip {l:List Rec} {x:Rec} (h: ¬x.kind=2):parR (l++[x])=parR l:=by
 funext n
 rw[parR_snoc,if_neg (by simp[h]),List.append_nil]
theorem parR_put {l:List Rec} {x:Rec} (h:x.kind=2):parR (l++[x]) x.name=parR l x.name++[x.other]:=by
 rw[parR_snoc,if_pos (by simp[h,same_refl])]
theorem parR_other {l:List Rec} {x:Rec} {n:ByteArray} (h:sameB n x.name=false):parR (l++[x]) n=parR l n:=by
 rw[parR_snoc,if_neg,List.append_nil]
 intro hc
 simp only[Bool.and_eq_true,same_iff]at hc
 rw[hc.2,same_refl]at h
 cases h
theorem parR_len (l:List Rec) (n:ByteArray):(parR l n).length<=l.length:=by
 unfold parR
 rw[List.length_map]
 exact List.length_filter_le _ _
def leftR (l:List Rec) (seen:List ByteArray):Nat:=(l.filter fun x=>x.kind==2&&!seen.any (sameB x.name)).length
theorem leftR_le (l:List Rec) (seen:List ByteArray):leftR l seen<=l.length:=List.length_filter_le _ _
theorem leftR_new {seen:List ByteArray} {n:ByteArray} (h:seen.any (sameB n)=false): ∀l:List Rec,leftR l (seen++[n])+(parR l n).length=leftR l seen
 | []=>rfl
 |x::l=>by
  have ih:=leftR_new h l
  unfold leftR parR at ih⊢
  rw[List.length_map]at ih⊢
  simp only[List.filter_cons]
  by_cases hk:x.kind=2
  ·have e:(x.kind==2)=true:=by simpa using hk
   rw[e]
   simp only[Bool.true_and,List.any_append,List.any_cons,List.any_nil,Bool.or_false]
   cases hn:sameB x.name n
   ·cases hs:seen.any (sameB x.name)
    ·simp only[Bool.or_false,Bool.not_false,if_true,Bool.false_eq_true,if_false,List.length_cons]at ih⊢
     simp only[List.any_append,List.any_cons,List.any_nil,Bool.or_false]at ih
     omega
    ·simp only[Bool.or_false,Bool.not_true,Bool.false_eq_true,if_false]at ih⊢
     simp only[List.any_append,List.any_cons,List.any_nil,Bool.or_false]at ih
     omega
   ·have e2:x.name=n:=same_iff.1 hn
    rw[e2,h]
    simp only[Bool.or_true,Bool.not_true,Bool.false_eq_true,if_false,Bool.not_false,if_true,List.length_cons]at ih⊢
    simp only[List.any_append,List.any_cons,List.any_nil,Bool.or_false]at ih
    omega
  ·have e:(x.kind==2)=false:=by simpa using hk
   rw[e]
   simp only[Bool.false_and,Bool.false_eq_true,if_false]
   simp only[List.any_append,List.any_cons,List.any_nil,Bool.or_false]at ih⊢
   exact ih
theorem search_start (l:List Rec) (n:ByteArray):Searched (Edge l) n (parR l n) []:=
 ⟨fun x hx=>hx.elim (fun h=>Relation.TransGen.single (mem_parR.1 h)) (fun h=>absurd h (by simp)),fun y hy=> .inr (mem_parR.2 hy),fun x hx=>absurd hx (by simp)⟩
theorem search_old {l:List Rec} {n x:ByteArray} {q seen:List ByteArray} (h:Searched (Edge l) n (x::q) seen) (hx:x∈seen):Searched (Edge l) n q seen:=by
 refine⟨fun y hy=>h.reach y (hy.imp (List.mem_cons_of_mem x) id),fun y hy=> ?_,fun z hz y hy=> ?_⟩
 ·rcases h.first y hy with h1|h1
  ·exact .inl h1
  ·rcases List.mem_cons.1 h1 with rfl|h1
   ·exact .inl hx
   ·exact .inr h1
 ·rcases h.closed z hz y hy with h1|h1
  ·exact .inl h1
  ·rcases List.mem_cons.1 h1 with rfl|h1
   ·exact .inl hx
   ·exact .inr h1
theorem search_new {l:List Rec} {n x:ByteArray} {q seen:List ByteArray} (h:Searched (Edge l) n (x::q) seen):Searched (Edge l) n (q++parR l x) (seen++[x]):=by
 have hxr:=h.reach x (.inl (by simp))
 refine⟨fun y hy=> ?_,fun y hy=> ?_,fun z hz y hy=> ?_⟩
 ·simp only[List.mem_append,List.mem_singleton]at hy
  rcases hy with(hy|hy)|(hy|hy)
  ·exact h.reach y (.inl (by simp[hy]))
  ·exact Relation.TransGen.tail hxr (mem_parR.1 hy)
  ·exact h.reach y (.inr hy)
  ·rw[hy];exact hxr
 ·rcases h.first y hy with h1|h1
  ·exact .inl (by simp[h1])
  ·rcases List.mem_cons.1 h1 with rfl|h1
   ·exact .inl (by simp)
   ·exact .inr (by simp[h1])
 ·simp only[List.mem_append,List.mem_singleton]at hz
  rcases hz with hz|hz
  ·rcases h.closed z hz y hy with h1|h1
   ·exact .inl (by simp[h1])
   ·rcases List.mem_cons.1 h1 with rfl|h1
    ·exact .inl (by simp)
    ·exact .inr (by simp[h1])
  ·rw[hz]at hy
   exact .inr (by simp[mem_parR.2 hy])
theorem circle_found {l:List Rec} {n:ByteArray} {q seen:List ByteArray} (h:Searched (Edge l) n (n::q) seen):Circle l:=⟨n,h.reach n (.inl (by simp))⟩
def Free5 (l:List Rec) (n:ByteArray):Prop:= ¬Relation.TransGen (Edge l) n n
theorem free_of {l:List Rec} {n:ByteArray} {seen:List ByteArray} (h:Searched (Edge l) n [] seen) (hn:n∉seen):Free5 l n:=fun hc=>hn ((h.done n).1 hc)
theorem no_circle {l:List Rec} (h: ∀n,parR l n≠[]->Free5 l n): ¬Circle l:=fun hc=>by
 obtain⟨x,hx,hk,h1⟩:=circle_records.1 hc
 have he:Edge l x.name x.other:=⟨x,hx,hk,rfl,rfl⟩
 refine h x.name (fun e=> ?_) ?_
 ·have:=mem_parR.2 he
  rw[e]at this
  cases this
 ·rcases h1 with h1|h1
  ·rw[h1]at he
   exact Relation.TransGen.single he
  ·have key: ∀ {c:ByteArray},Relation.TransGen (Edge l) x.other c->Relation.TransGen (Edge l) x.name c:=by
    intro c hc
    induction hc with
    |single h=>exact Relation.TransGen.tail (Relation.TransGen.single he) h
    |tail _ h ih=>exact Relation.TransGen.tail ih h
   exact key h1
end Go.Proofs.YtmaidggpbihlgaaGreatDoor
namespace Go.Proofs.YtmaidggpbihlgaaGreatDoor
open Go.RowKit Go.Shelf
attribute [local go_sem] World.cell?_alloc_mark ext_size ext_cell ext_frozen lt_add_r lt_add_r2 lt_add_r3 lt_add_r4 lt_add_r5 lt_add_r6 lt_add_r7 lt_add_r8
attribute [local go_sem] ext_setCell alloc_setCell_lt
def intC (n:Nat):List Value:=[.int .i64 (n:Int)]
theorem intC_len (n:Nat):(intC n).length=1:=rfl
theorem intC_one (n:Nat): ∀u∈intC n,u.oneCell'=true:=by simp[intC,Value.oneCell']
theorem recC_len (x:Rec):(Rec.cells x).length=8:=rfl
theorem recC_one (x:Rec): ∀u∈Rec.cells x,u.oneCell'=true:=by simp[Rec.cells,Value.oneCell']
theorem elRec:ElTy Tryz.prog 68 67 8 88:=elTy_of (z:= .agg #[.int .i64 0, .string ⟨#[]⟩, .string ⟨#[]⟩, .string ⟨#[]⟩, .int .i64 0, .int .i64 0, .int .i64 0, .int .i64 0]) (by kernel_rfl) (by kernel_rfl) rfl (by decide)
theorem of_snoc {l:List Rec} {set:List Nat} {k:Nat} (hk:k<set.length) (hl:set[k]<l.length):ofP l (set.take (k+1))=ofP l (set.take k)++[l[set[k]]]:=by
 unfold ofP
 rw[List.take_succ_eq_append_getElem hk,List.filterMap_append]
 simp[List.getElem?_eq_getElem hl]
theorem of_len (l:List Rec) (set:List Nat):(ofP l set).length<=set.length:=List.length_filterMap_le _ _
theorem sl_rec {w:World} {b:Nat} {x:Rec} {t:TypeId} {fr:Nat×Nat} (h:w.heap[b]?=some (.cells (Rec.cells x).toArray t fr)):Sl w 8 Rec.cells (some ⟨b,0,none⟩) [x]:=fun _=>⟨b,0,rfl,blk_lt h,fun k y hy j u hu=>by
 have hk:k=0:=by have:=(List.getElem?_eq_some_iff.1 hy).1;simp at this;omega
 subst hk
 simp only[List.getElem?_cons_zero,Option.some.injEq]at hy
 subst hy
 simp only[World.cell?,h,Nat.zero_mul,Nat.zero_add,Nat.add_zero]
 simpa using hu⟩
set_option maxRecDepth 100000 in
set_option maxHeartbeats 2000000 in
theorem some_any (l:List Rec) (set:List Nat) (A:Option Addr) (c:Nat) (SA:Option Addr) (sc:Nat) (w:World) (hc:l.length<=c) (hsc:set.length<=sc) (hsl:set.length<=1000) (hin: ∀i∈set,i<l.length) (hS:Sl w 8 Rec.cells A l) (hT:Sl w 1 intC SA set):
 Calls Tryz.prog 54 #[.slice A l.length c, .slice SA set.length sc] w (fun e w'=> ∃v,e= .returned v/\OwnS w' w.heap.size 67 8 Rec.cells v (ofP l set)/\Below w.heap.size w w'):=by
 have HS:=Lib.hid hS
 have HT:=Lib.hid hT
 have HIN:=Lib.hid hin
 clear hS hT hin
 go_enter Tryz.func54,Tryz.ntmps54
 go_wp2_with fail
 go_loopw [5,10] (fun v i wr=> ∃k:Nat,k<=set.length/\i= .int .i64 k/\OwnS wr w.heap.size 67 8 Rec.cells v (ofP l (set.take k))/\Below w.heap.size w wr) (fun _ i _=>set.length-(intOf i).toNat)
 case atStart=>exact⟨0,Nat.zero_le _,rfl,OwnS.nil,Below.refl _ _⟩
 case round=>
  obtain⟨k,hk,rfl,hown,hB⟩:=hrel
  obtain⟨VA,vc,rfl,_,hvc⟩:=hown.sl recC_len
  have HO:=Lib.hid hown
  have HB:=Lib.hid hB
  have hbs:=hB.size
  by_cases hlt:k<set.length
  ·obtain⟨b,off,rfl,hb,hcc⟩:=(HT.out.keep hB).at hlt
   have hi:=HIN.out set[k] (List.getElem_mem hlt)
   have hsn:=of_snoc hlt hi
   have i0:wr.cell? ⟨b,off+k,none⟩=some (.int .i64 (set[k]:Int)):=by have:=hcc 0 _ rfl;simpa using this
   have hol:=of_len l (set.take k)
   rw[List.length_take]at hol
   have HSN:=Lib.hid hsn
   clear hsn hcc
   generalize set[k]=m at*
   obtain⟨rb,roff,rfl,hrb,hrc⟩:=(HS.out.keep hB).at hi
   have HLT:=Lib.hid hlt
   generalize l[m]=x at*
   generalize ofP l (set.take k)=acc at*
   obtain⟨kd,nm,ot,pl,dy,tl,nu,de⟩:=x
   have j0:wr.cell? ⟨rb,roff+m*8,none⟩=some (.int .i64 kd):=hrc 0 _ rfl
   have j1:wr.cell? ⟨rb,roff+m*8+1,none⟩=some (.string nm):=hrc 1 _ rfl
   have j2:wr.cell? ⟨rb,roff+m*8+2,none⟩=some (.string ot):=hrc 2 _ rfl
   have j3:wr.cell? ⟨rb,roff+m*8+3,none⟩=some (.string pl):=hrc 3 _ rfl
   have j4:wr.cell? ⟨rb,roff+m*8+4,none⟩=some (.int .i64 dy):=hrc 4 _ rfl
   have j5:wr.cell? ⟨rb,roff+m*8+5,none⟩=some (.int .i64 tl):=hrc 5 _ rfl
   have j6:wr.cell? ⟨rb,roff+m*8+6,none⟩=some (.int .i64 nu):=hrc 6 _ rfl
   have j7:wr.cell? ⟨rb,roff+m*8+7,none⟩=some (.int .i64 de):=hrc 7 _ rfl
   have hki:(k:Int)<(set.length:Int):=by omega
   have hk0:(0:Int)<=(k:Int):=by omega
   have hkc:(k:Int)<=(sc:Int):=by omega
   have hmi:(m:Int)<(l.length:Int):=by omega
   have hm0:(0:Int)<=(m:Int):=by omega
   have hmc:(m:Int)<=(c:Int):=by omega
   have hal:acc.length<=1000:=by omega
   clear hrc hown hB hol
   go_wp2_with (at_builtin
                go_loud(refine wpList_append_S (v:= .slice VA acc.length vc) (n:=acc.length) (m:=1) rfl _ _ rfl elRec recC_len recC_one rfl (xs:=acc) (ys:=[⟨kd,nm,ot,pl,dy,tl,nu,de⟩]) (HO.out.keep (n:=wr.heap.size) Bw) rfl rfl rfl (sl_rec (J_new _ _ _ rfl)) (by simp[maxLen];omega) (by omega) (by simp;omega) ?_)
                intro v3 w3 h1 h2 h3
                have hb3:=Below.grown (B:=w.heap.size) (a:=w) (HB.out.trans (Below.mono (B:=wr.heap.size) (B_alloc (Below.refl _ _) _) hbs)) h2 (by simp;omega) (fun j hj=>(HO.out.ge j hj).1)
                have H1:=Lib.hid h1
                have HB3:=Lib.hid hb3
                clear h1 h2 h3 hb3)
   go_round
   case rel=>exact⟨k+1,HLT.out,by go_num,by rw[HSN.out];exact H1.out,HB3.out⟩
   case measure=>have:=HLT.out;simp only[intOf];omega
  ·have hki: ¬(k:Int)<(set.length:Int):=by omega
   have hkt:set.take k=set:=List.take_of_length_le (by omega)
   clear hown
   generalize hxs:ofP l (set.take k)=xs at*
   rw[hkt]at hxs
   subst hxs
   clear hkt
   go_wp2_with fail
   go_ret
   exact⟨_,rfl,HO.out,HB.out⟩
end Go.Proofs.YtmaidggpbihlgaaGreatDoor
