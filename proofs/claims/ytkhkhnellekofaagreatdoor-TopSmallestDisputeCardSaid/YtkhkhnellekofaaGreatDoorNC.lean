/- Plain law of records: fewer records never contradict each other more. -/
import Derived.Test.YtkhkhnellekofaaGreatDoorN3
import Derived.Laws.Strings
import Derived.Shelf.SlSortCmp.WholeK
import Derived.Shelf.SlSortCmp.NoneTotal
import Derived.Test.YtkhkhnellekofaaGreatDoorU0
set_option linter.unusedSimpArgs false
set_option linter.unusedVariables false
namespace Go.Proofs.YtkhkhnellekofaaGreatDoor
open Go.RowKit
theorem same_iff {a b:ByteArray}:sameB a b=true↔a=b:=by
 unfold sameB
 rw[beq_iff_eq,ByteArray.toList_eq,ByteArray.toList_eq]
 constructor
 ·intro h
  exact ByteArray.ext (Array.ext' h)
 ·intro h
  rw[h]
theorem same_refl (a:ByteArray):sameB a a=true:=same_iff.2 rfl
theorem same_ne {a b:ByteArray}:sameB a b=false↔a≠b:=by rw[<-Bool.not_eq_true,same_iff]
theorem any_same {l:List ByteArray} {n:ByteArray}:l.any (sameB n)=true↔n∈l:=by
 rw[List.any_eq_true]
 constructor
 ·rintro⟨x,hx,h⟩
  rw[same_iff.1 h]
  exact hx
 ·intro h
  exact⟨n,h,same_refl n⟩
theorem mem_children {s:St} {n c:ByteArray}:c∈childrenP s n↔(n,c)∈s.children:=by
 unfold childrenP
 rw[List.mem_map]
 constructor
 ·rintro⟨p,hp,rfl⟩
  rw[List.mem_filter,same_iff]at hp
  rw[<-hp.2]
  exact hp.1
 ·intro h
  exact⟨(n,c),List.mem_filter.2 ⟨h,same_refl n⟩,rfl⟩
theorem desc_closed {s:St} {n:ByteArray} {out:ByteArray->Prop} (h0: ∀c∈childrenP s n,out c) (h1: ∀x,out x-> ∀c∈childrenP s x,out c) {x:ByteArray} (h:Desc s n x):out x:=by
 unfold Desc at h
 induction h with
 |single h=>exact h0 _ h
 |tail _ h ih=>exact h1 _ ih _ h
theorem desc_step {s:St} {n x c:ByteArray} (h:Desc s n x) (hc:c∈childrenP s x):Desc s n c:=Relation.TransGen.tail h hc
theorem desc_child {s:St} {n c:ByteArray} (hc:c∈childrenP s n):Desc s n c:=Relation.TransGen.single hc
theorem desc_trans {s:St} {a b c:ByteArray} (h:Desc s a b) (k:Desc s b c):Desc s a c:=by
 unfold Desc at*
 induction k with
 |single h'=>exact Relation.TransGen.tail h h'
 |tail _ h' ih=>exact Relation.TransGen.tail ih h'
theorem desc_none {s:St} {n x:ByteArray} (h0:childrenP s n=[]): ¬Desc s n x:=fun h=>desc_closed (out:=fun _=>False) (by rw[h0];simp) (fun _ h=>h.elim) h
end Go.Proofs.YtkhkhnellekofaaGreatDoor
namespace Go.Proofs.YtkhkhnellekofaaGreatDoor
open Go.RowKit Go.Shelf
def sortPart_ren:Go.Shelf.Ren:=⟨fun|6=>145|15=>154|14=>153|28=>166|29=>167|20=>158|21=>159|22=>160|23=>161|24=>162|25=>163|26=>164|27=>165|46=>170|47=>171|48=>172|49=>173|50=>174|57=>175|n=>n,fun|22=>53|24=>63|25=>178|3=>3|39=>95|0=>0|53=>124|55=>126|4=>4|46=>192|45=>191|50=>91|5=>5|9=>9|66=>198|70=>202|76=>204|77=>205|n=>n,fun|n=>n⟩
theorem sortPart:Go.Proofs.SlLaysF0.n6 Tryz.prog sortPart_ren:= {
 mixed:=by kernel_rfl
 f6:=⟨Tryz.f145.name,by decide,Tryz.func145.trans (congrArg some (by kernel_rfl))⟩
 f14:=⟨Tryz.f153.name,by decide,Tryz.func153.trans (congrArg some (by kernel_rfl))⟩
 f15:=Tryz.func154.trans (congrArg some (by kernel_rfl))
 f20:=⟨Tryz.f158.name,by decide,Tryz.func158.trans (congrArg some (by kernel_rfl))⟩
 f21:=⟨Tryz.f159.name,by decide,Tryz.func159.trans (congrArg some (by kernel_rfl))⟩
 f22:=⟨Tryz.f160.name,by decide,Tryz.func160.trans (congrArg some (by kernel_rfl))⟩
 f23:=⟨Tryz.f161.name,by decide,Tryz.func161.trans (congrArg some (by kernel_rfl))⟩
 f24:=⟨Tryz.f162.name,by decide,Tryz.func162.trans (congrArg some (by kernel_rfl))⟩
 f25:=⟨Tryz.f163.name,by decide,Tryz.func163.trans (congrArg some (by kernel_rfl))⟩
 f26:=⟨Tryz.f164.name,by decide,Tryz.func164.trans (congrArg some (by kernel_rfl))⟩
 f27:=⟨Tryz.f165.name,by decide,Tryz.func165.trans (congrArg some (by kernel_rfl))⟩
 f28:=Tryz.func166.trans (congrArg some (by kernel_rfl))
 f29:=Tryz.func167.trans (congrArg some (by kernel_rfl))
 f46:=⟨Tryz.f170.name,by decide,Tryz.func170.trans (congrArg some (by kernel_rfl))⟩
 f47:=Tryz.func171.trans (congrArg some (by kernel_rfl))
 f48:=Tryz.func172.trans (congrArg some (by kernel_rfl))
 f49:=⟨Tryz.f173.name,by decide,Tryz.func173.trans (congrArg some (by kernel_rfl))⟩
 f50:=⟨Tryz.f174.name,by decide,Tryz.func174.trans (congrArg some (by kernel_rfl))⟩
 f57:=⟨Tryz.f175.name,by decide,Tryz.func175.trans (congrArg some (by kernel_rfl))⟩
 t0:=Tryz.underlying0
 a0:=Tryz.isAgg0
 z0:=Tryz.sizeOf0
 v0:=Tryz.zeroValue0
 t3:=Tryz.underlying3
 a3:=Tryz.isAgg3
 z3:=Tryz.sizeOf3
 v3:=Tryz.zeroValue3
 t4:=Tryz.underlying4
 a4:=Tryz.isAgg4
 z4:=Tryz.sizeOf4
 v4:=Tryz.zeroValue4
 t5:=Tryz.underlying5
 a5:=Tryz.isAgg5
 z5:=Tryz.sizeOf5
 v5:=Tryz.zeroValue5
 t9:=Tryz.underlying9
 a9:=Tryz.isAgg9
 z9:=Tryz.sizeOf9
 v9:=Tryz.zeroValue9
 t22:=Tryz.underlying53
 a22:=Tryz.isAgg53
 z22:=Tryz.sizeOf53
 v22:=Tryz.zeroValue53
 t25:=Tryz.underlying178
 a25:=Tryz.isAgg178
 z25:=Tryz.sizeOf178
 v25:=Tryz.zeroValue178
 t39:=Tryz.underlying95
 a39:=Tryz.isAgg95
 z39:=Tryz.sizeOf95
 v39:=Tryz.zeroValue95
 t45:=Tryz.underlying191
 a45:=Tryz.isAgg191
 z45:=Tryz.sizeOf191
 v45:=Tryz.zeroValue191
 t46:=Tryz.underlying192
 a46:=Tryz.isAgg192
 z46:=Tryz.sizeOf192
 v46:=Tryz.zeroValue192
 t50:=Tryz.underlying91
 a50:=Tryz.isAgg91
 z50:=Tryz.sizeOf91
 v50:=Tryz.zeroValue91
 t53:=Tryz.underlying124
 a53:=Tryz.isAgg124
 z53:=Tryz.sizeOf124
 v53:=Tryz.zeroValue124
 t55:=Tryz.underlying126
 a55:=Tryz.isAgg126
 z55:=Tryz.sizeOf126
 v55:=Tryz.zeroValue126
 t66:=Tryz.underlying198
 a66:=Tryz.isAgg198
 z66:=Tryz.sizeOf198
 v66:=Tryz.zeroValue198
 t70:=Tryz.underlying202
 a70:=Tryz.isAgg202
 z70:=Tryz.sizeOf202
 v70:=Tryz.zeroValue202
 t76:=Tryz.underlying204
 a76:=Tryz.isAgg204
 z76:=Tryz.sizeOf204
 v76:=Tryz.zeroValue204
 t77:=Tryz.underlying205
 a77:=Tryz.isAgg205
 z77:=Tryz.sizeOf205
 v77:=Tryz.zeroValue205}
end Go.Proofs.YtkhkhnellekofaaGreatDoor
namespace Go.Proofs.YtkhkhnellekofaaGreatDoor
open Go.RowKit
theorem pair_mono {l m:List Rec} (h:l.Sublist m):pairP l=true->pairP m=true:=by
 induction h with
 |slnil=>exact id
 |cons x h ih=>
  intro hp
  rw[pairP,ih hp,Bool.or_true]
 |cons_cons x h ih=>
  intro hp
  rw[pairP,Bool.or_eq_true]at hp⊢
  rcases hp with hp|hp
  ·rw[List.any_eq_true]at hp⊢
   obtain⟨y,hy,hyx⟩:=hp
   exact .inl ⟨y,h.subset hy,hyx⟩
  ·exact .inr (ih hp)
theorem transGen_mono {α:Type} {r t:α->α->Prop} (h: ∀a b,r a b->t a b) {a b:α} (k:Relation.TransGen r a b):Relation.TransGen t a b:=by
 induction k with
 |single h'=>exact Relation.TransGen.single (h _ _ h')
 |tail _ h' ih=>exact Relation.TransGen.tail ih (h _ _ h')
theorem circle_mono {l m:List Rec} (h: ∀x∈l,x∈m) (hc:Circle l):Circle m:=by
 obtain⟨a,ha⟩:=hc
 exact⟨a,transGen_mono (fun x y ⟨r,hr,hk⟩=>⟨r,h r hr,hk⟩) ha⟩
theorem sum_congr {p:ByteArray} {d:Int}: ∀ {l:List Rec} {a b:List ByteArray},(∀n,n∈a↔n∈b)->sumGo p d l a=sumGo p d l b
 | [],_,_,_=>rfl
 |x::l,a,b,h=>by
  have e:a.any (sameB x.name)=b.any (sameB x.name):=by
   rw[Bool.eq_iff_iff,any_same,any_same]
   exact h x.name
  unfold sumGo
  rw[e,sum_congr (l:=l) h,sum_congr (l:=l) (a:=x.name::a) (b:=x.name::b) (fun n=>by simp[h n])]
def Even (p:ByteArray) (d:Int) (n:ByteArray) (s:Rat) (l:List Rec):Prop:= ∀y∈l,y.kind=3->y.place=p->y.day=d->y.name=n->Rat.divInt y.num y.den=s
theorem counted_iff {p:ByteArray} {d:Int} {x:Rec} {seen:List ByteArray}:(x.kind==3&&sameB x.place p&&x.day==d&&!seen.any (sameB x.name))=true↔x.kind=3/\x.place=p/\x.day=d/\x.name∉seen:=by
 simp only[Bool.and_eq_true,beq_iff_eq,same_iff,Bool.not_eq_true',<-Bool.not_eq_true,any_same]
 constructor
 ·rintro⟨⟨⟨h1,h2⟩,h3⟩,h4⟩;exact⟨h1,h2,h3,h4⟩
 ·rintro⟨h1,h2,h3,h4⟩;exact⟨⟨⟨h1,h2⟩,h3⟩,h4⟩
theorem sum_drop {p:ByteArray} {d:Int} {n:ByteArray} {s:Rat} (hs:0<=s): ∀ {m:List Rec} {seen:List ByteArray},Even p d n s m->sumGo p d m seen<=s+sumGo p d m (n::seen)
 | [],seen,_=>by rw[sumGo,sumGo];grind
 |y::m,seen,he=>by
  have hm:Even p d n s m:=fun z hz=>he z (by simp[hz])
  unfold sumGo
  by_cases hc:y.kind=3/\y.place=p/\y.day=d/\y.name∉seen
  ·rw[if_pos (counted_iff.2 hc)]
   by_cases hn:y.name=n
   ·rw[if_neg (fun h=>(counted_iff.1 h).2.2.2 (by simp[hn])),hn,he y (by simp) hc.1 hc.2.1 hc.2.2.1 hn]
    exact Rat.le_refl
   ·rw[if_pos (counted_iff.2 ⟨hc.1,hc.2.1,hc.2.2.1,by simp only[List.mem_cons,not_or];exact⟨hn,hc.2.2.2⟩⟩)]
    have ih:=sum_drop hs (seen:=y.name::seen) hm
    rw[sum_congr (l:=m) (a:=y.name::n::seen) (b:=n::y.name::seen) (fun z=>by simp only[List.mem_cons];constructor<;>(rintro(h|h|h)<;>simp[h]))]
    grind
  ·rw[if_neg (fun h=>hc (counted_iff.1 h)),if_neg (fun h=>hc ⟨(counted_iff.1 h).1,(counted_iff.1 h).2.1,(counted_iff.1 h).2.2.1,fun hh=>(counted_iff.1 h).2.2.2 (by simp[hh])⟩)]
   exact sum_drop hs hm
theorem even_of {x:Rec} {l:List Rec} (hp:l.any (fun y=>againstP y x)=false) (hk:x.kind=3):Even x.place x.day x.name (Rat.divInt x.num x.den) l:=by
 intro y hy h1 h2 h3 h4
 rw[List.any_eq_false]at hp
 have:=hp y hy
 unfold againstP at this
 rw[if_neg (by simp[h1,hk])]at this
 unfold againstQ at this
 simp[h1,hk,h2,h3,h4,same_refl]at this
 rw[this.1,this.2]
def Nonneg (l:List Rec):Prop:= ∀x∈l,x.kind=3->0<=Rat.divInt x.num x.den
theorem sum_mono {p:ByteArray} {d:Int} {l m:List Rec} (h:l.Sublist m):pairP m=false->Nonneg m-> ∀seen,sumGo p d l seen<=sumGo p d m seen:=by
 induction h with
 |slnil=>exact fun _ _ _=>Rat.le_refl
 | @cons a b x h ih=>
   intro hp hn seen
   rw[pairP,Bool.or_eq_false_iff]at hp
   have i:=ih hp.2 (fun y hy=>hn y (by simp[hy])) seen
   conv=>rhs;unfold sumGo
   by_cases hc:x.kind=3/\x.place=p/\x.day=d/\x.name∉seen
   ·rw[if_pos (counted_iff.2 hc)]
    have he:=even_of hp.1 hc.1
    rw[hc.2.1,hc.2.2.1]at he
    have:=sum_drop (hn x (by simp) hc.1) (seen:=seen) he
    grind
   ·rw[if_neg (fun h=>hc (counted_iff.1 h))]
    exact i
 | @cons_cons a b x h ih=>
   intro hp hn seen
   rw[pairP,Bool.or_eq_false_iff]at hp
   have i:=ih hp.2 (fun y hy=>hn y (by simp[hy]))
   unfold sumGo
   split
   ·have:=i (x.name::seen);grind
   ·exact i seen
theorem contra_mono {l m:List Rec} (h:l.Sublist m) (hn:Nonneg m) (hc:contraP l=true):contraP m=true:=by
 unfold contraP at*
 simp only[Bool.or_eq_true,decide_eq_true_eq]at hc⊢
 by_cases hp:pairP m=true
 ·exact .inl (.inl hp)
 ·rcases hc with(hc|hc)|hc
  ·exact .inl (.inl (pair_mono h hc))
  ·exact .inl (.inr (circle_mono (fun x hx=>h.subset hx) hc))
  ·obtain⟨p,d,hs⟩:=hc
   have:=sum_mono (p:=p) (d:=d) h (by simpa using hp) hn []
   exact .inr ⟨p,d,by grind⟩
end Go.Proofs.YtkhkhnellekofaaGreatDoor
