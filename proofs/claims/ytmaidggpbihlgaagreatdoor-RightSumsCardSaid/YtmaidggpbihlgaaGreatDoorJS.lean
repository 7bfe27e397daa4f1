/- Plain: the law's sum of shares. -/
import Derived.Shelf.SlicesQ.IndexFunc
import Derived.Shelf.SlicesE.IndexFunc
import Derived.Test.YtmaidggpbihlgaaGreatDoorJ0
import Derived.Test.YtmaidggpbihlgaaGreatDoorNC
import Derived.Test.YtmaidggpbihlgaaGreatDoorN9
import Derived.Test.YtmaidggpbihlgaaGreatDoorJ2
set_option linter.unusedSimpArgs false
set_option linter.unusedVariables false
namespace Go.Proofs.YtmaidggpbihlgaaGreatDoor
open Go.RowKit Go.Shelf
def cfPart_ren:Go.Shelf.Ren:=⟨fun|8=>78|6=>126|n=>n,fun|22=>41|23=>49|25=>142|4=>4|3=>3|0=>0|n=>n,fun|n=>n⟩
theorem cfPart:Go.Proofs.SlLaysH0.n8 Tryz.prog cfPart_ren:= {
 mixed:=by kernel_rfl
 f6:=⟨Tryz.f126.name,by decide,Tryz.func126.trans (congrArg some (by kernel_rfl))⟩
 f8:=⟨Tryz.f78.name,by decide,Tryz.func78.trans (congrArg some (by kernel_rfl))⟩
 t0:=Tryz.underlying0
 a0:=Tryz.isAgg0
 z0:=Tryz.sizeOf0
 v0:=Tryz.zeroValue0
 t3:=Tryz.underlying3
 a3:=Tryz.isAgg3
 z3:=Tryz.sizeOf3
 v3:=Tryz.zeroValue3
 t4:=Tryz.underlying4
 a4:=Tryz.isAgg4
 z4:=Tryz.sizeOf4
 v4:=Tryz.zeroValue4
 t22:=Tryz.underlying41
 a22:=Tryz.isAgg41
 z22:=Tryz.sizeOf41
 v22:=Tryz.zeroValue41
 t25:=Tryz.underlying142
 a25:=Tryz.isAgg142
 z25:=Tryz.sizeOf142
 v25:=Tryz.zeroValue142}
def cfRec_ren:Go.Shelf.Ren:=⟨fun|8=>96|6=>140|n=>n,fun|22=>68|23=>67|25=>157|4=>4|3=>3|0=>0|n=>n,fun|n=>n⟩
theorem cfRec:Go.Proofs.SlLaysH0.n8 Tryz.prog cfRec_ren:= {
 mixed:=by kernel_rfl
 f6:=⟨Tryz.f140.name,by decide,Tryz.func140.trans (congrArg some (by kernel_rfl))⟩
 f8:=⟨Tryz.f96.name,by decide,Tryz.func96.trans (congrArg some (by kernel_rfl))⟩
 t0:=Tryz.underlying0
 a0:=Tryz.isAgg0
 z0:=Tryz.sizeOf0
 v0:=Tryz.zeroValue0
 t3:=Tryz.underlying3
 a3:=Tryz.isAgg3
 z3:=Tryz.sizeOf3
 v3:=Tryz.zeroValue3
 t4:=Tryz.underlying4
 a4:=Tryz.isAgg4
 z4:=Tryz.sizeOf4
 v4:=Tryz.zeroValue4
 t22:=Tryz.underlying68
 a22:=Tryz.isAgg68
 z22:=Tryz.sizeOf68
 v22:=Tryz.zeroValue68
 t25:=Tryz.underlying157
 a25:=Tryz.isAgg157
 z25:=Tryz.sizeOf157
 v25:=Tryz.zeroValue157}
def cfStr_ren:Go.Shelf.Ren:=⟨fun|8=>62|6=>118|n=>n,fun|22=>33|23=>9|25=>116|4=>4|3=>3|0=>0|n=>n,fun|n=>n⟩
theorem cfStr:Go.Proofs.SlLaysH.n8 Tryz.prog cfStr_ren:= {
 mixed:=by kernel_rfl
 f6:=⟨Tryz.f118.name,by decide,Tryz.func118.trans (congrArg some (by kernel_rfl))⟩
 f8:=⟨Tryz.f62.name,by decide,Tryz.func62.trans (congrArg some (by kernel_rfl))⟩
 t0:=Tryz.underlying0
 a0:=Tryz.isAgg0
 z0:=Tryz.sizeOf0
 v0:=Tryz.zeroValue0
 t3:=Tryz.underlying3
 a3:=Tryz.isAgg3
 z3:=Tryz.sizeOf3
 v3:=Tryz.zeroValue3
 t4:=Tryz.underlying4
 a4:=Tryz.isAgg4
 z4:=Tryz.sizeOf4
 v4:=Tryz.zeroValue4
 t22:=Tryz.underlying33
 a22:=Tryz.isAgg33
 z22:=Tryz.sizeOf33
 v22:=Tryz.zeroValue33
 a23:=Tryz.isAgg9
 z23:=Tryz.sizeOf9
 t25:=Tryz.underlying116
 a25:=Tryz.isAgg116
 z25:=Tryz.sizeOf116
 v25:=Tryz.zeroValue116}
end Go.Proofs.YtmaidggpbihlgaaGreatDoor
namespace Go.Proofs.YtmaidggpbihlgaaGreatDoor
open Go.RowKit
def ofP (l:List Rec) (set:List Nat):List Rec:=set.filterMap fun i=>l[i]?
theorem of_sub {l:List Rec} {a b:List Nat} (h:a.Sublist b):(ofP l a).Sublist (ofP l b):=h.filterMap _
theorem of_mem {l:List Rec} {set:List Nat}: ∀x∈ofP l set,x∈l:=by
 intro x hx
 unfold ofP at hx
 obtain⟨i,_,hi⟩:=List.mem_filterMap.1 hx
 exact List.mem_of_getElem? hi
theorem nonneg_of {l:List Rec} {set:List Nat} (h:Nonneg l):Nonneg (ofP l set):=fun x hx=>h x (of_mem x hx)
noncomputable def dispGo (l:List Rec):Nat->List Nat->Nat->List Nat
 |0,set,_=>set
 |f+1,set,i=>if i<set.length then(if contraP (ofP l (set.eraseIdx i))then dispGo l f (set.eraseIdx i) i else dispGo l f set (i+1))else set
def Minimal (l:List Rec) (set:List Nat):Prop:=contraP (ofP l set)=true/\ ∀i,i<set.length->contraP (ofP l (set.eraseIdx i))=false
theorem erase_erase {set:List Nat} {i j:Nat} (h:j<i):((set.eraseIdx i).eraseIdx j).Sublist (set.eraseIdx j):=by
 induction set generalizing i j with
 |nil=>simp
 |cons x r ih=>
  cases i with
  |zero=>omega
  |succ i=>
   cases j with
   |zero=>simp only[List.eraseIdx_cons_succ,List.eraseIdx_cons_zero];exact List.eraseIdx_sublist r i
   |succ j=>
    simp only[List.eraseIdx_cons_succ]
    exact(ih (by omega)).cons_cons x
theorem disp_min {l:List Rec} (hn:Nonneg l): ∀(f:Nat) (set:List Nat) (i:Nat),set.length-i<=f->contraP (ofP l set)=true->(∀j,j<i->j<set.length->contraP (ofP l (set.eraseIdx j))=false)->Minimal l (dispGo l f set i)/\(dispGo l f set i).Sublist set
 |0,set,i,hf,hc,hi=>by
  rw[dispGo]
  exact⟨⟨hc,fun j hj=>hi j (by omega) hj⟩,List.Sublist.refl _⟩
 |f+1,set,i,hf,hc,hi=>by
  rw[dispGo]
  split
  ·rename_i hlt
   split
   ·rename_i hcc
    have hlen:=List.length_eraseIdx_of_lt hlt
    have ih:=disp_min hn f (set.eraseIdx i) i (by omega) hcc (fun j hj hjl=>by
     rw[<-Bool.not_eq_true]
     intro h
     have:=contra_mono (of_sub (erase_erase hj)) (nonneg_of hn) h
     rw[hi j hj (by omega)]at this
     cases this)
    exact⟨ih.1,ih.2.trans (List.eraseIdx_sublist set i)⟩
   ·rename_i hcc
    exact disp_min hn f set (i+1) (by omega) hc (fun j hj hjl=>by
     by_cases e:j=i
     ·subst e;simpa using hcc
     ·exact hi j (by omega) hjl)
  ·rename_i hlt
   exact⟨⟨hc,fun j hj=>hi j (by omega) hj⟩,List.Sublist.refl _⟩
def lexB:List Nat->List Nat->Bool
 |a::x,b::y=>decide (a<b)||(a==b&&lexB x y)
 |_,_=>false
theorem lex_irr: ∀a:List Nat,lexB a a=false
 | []=>rfl
 |a::x=>by rw[lexB,lex_irr x];simp
theorem lex_trans: ∀ {a b c:List Nat},lexB a b=true->lexB b c=true->lexB a c=true
 | [],_,_,h,_=>by simp[lexB]at h
 |_::_,[],_,h,_=>by simp[lexB]at h
 |_::_,_::_,[],_,h=>by simp[lexB]at h
 |a::x,b::y,c::z,h,k=>by
  have ih:= @lex_trans x y z
  simp only[lexB,Bool.or_eq_true,decide_eq_true_eq,Bool.and_eq_true,beq_iff_eq]at h k⊢
  rcases h with h|⟨rfl,h⟩<;>rcases k with k|⟨rfl,k⟩
  ·exact .inl (by omega)
  ·exact .inl h
  ·exact .inl k
  ·exact .inr ⟨rfl,ih h k⟩
theorem lex_tri: ∀ {a b:List Nat},a.length=b.length->lexB a b=true\/a=b\/lexB b a=true
 | [],[],_=> .inr (.inl rfl)
 | [],_::_,h=>by simp at h
 |_::_,[],h=>by simp at h
 |a::x,b::y,h=>by
  have ih:= @lex_tri x y (by simpa using h)
  simp only[lexB,Bool.or_eq_true,decide_eq_true_eq,Bool.and_eq_true,beq_iff_eq,List.cons.injEq]
  rcases Nat.lt_trichotomy a b with k|k|k
  ·exact .inl (.inl k)
  ·subst k
   rcases ih with i|i|i
   ·exact .inl (.inr ⟨rfl,i⟩)
   ·exact .inr (.inl ⟨rfl,i⟩)
   ·exact .inr (.inr (.inr ⟨rfl,i⟩))
  ·exact .inr (.inr (.inl k))
def SetOf (n:Nat) (set:List Nat):Prop:=set.Pairwise (· < ·)/\ ∀i∈set,i<n
theorem SetOf.sub {n:Nat} {a b:List Nat} (h:SetOf n b) (k:a.Sublist b):SetOf n a:=⟨h.1.sublist k,fun i hi=>h.2 i (k.subset hi)⟩
structure IsLeast (l:List Rec) (s:List Nat):Prop where
 set:SetOf l.length s
 bad:contraP (ofP l s)=true
 least: ∀t,SetOf l.length t->contraP (ofP l t)=true->s.length<t.length\/(s.length=t.length/\lexB t s=false)
theorem least_unique {l:List Rec} {s t:List Nat} (h:IsLeast l s) (k:IsLeast l t):s=t:=by
 rcases h.least t k.set k.bad with a|⟨a,a2⟩
 ·rcases k.least s h.set h.bad with b|⟨b,_⟩<;>omega
 ·rcases k.least s h.set h.bad with b|⟨b,b2⟩
  ·omega
  ·rcases lex_tri a with c|c|c
   ·rw[b2]at c;cases c
   ·exact c
   ·rw[a2]at c;cases c
theorem least_min {l:List Rec} {s:List Nat} (h:IsLeast l s):Minimal l s:=by
 refine⟨h.bad,fun i hi=> ?_⟩
 rw[<-Bool.not_eq_true]
 intro hc
 have hlen:=List.length_eraseIdx_of_lt hi
 rcases h.least _ (h.set.sub (List.eraseIdx_sublist s i)) hc with k|⟨k,_⟩<;>omega
def shiftN (k i:Nat):Nat:=if i<k then i else i+1
theorem of_shift (l:List Rec) (k:Nat) (t:List Nat):ofP (l.eraseIdx k) t=ofP l (t.map (shiftN k)):=by
 unfold ofP
 rw[List.filterMap_map]
 congr 1
 funext i
 show(l.eraseIdx k)[i]?=l[shiftN k i]?
 rw[List.getElem?_eraseIdx]
 unfold shiftN
 split<;>rfl
theorem set_shift {n k:Nat} {t:List Nat} (hk:k<n) (h:SetOf (n-1) t):SetOf n (t.map (shiftN k)):=by
 refine⟨?_,fun i hi=> ?_⟩
 ·rw[List.pairwise_map]
  exact h.1.imp fun {a b} hab=>by unfold shiftN;split<;>split<;>omega
 ·obtain⟨j,hj,rfl⟩:=List.mem_map.1 hi
  have:=h.2 j hj
  unfold shiftN
  split<;>omega
theorem least_without {l:List Rec} {s t:List Nat} {k:Nat} (hk:k<l.length) (h:IsLeast l s) (ht:IsLeast (l.eraseIdx k) t):s.length<=t.length:=by
 have h1:=ht.bad
 rw[of_shift]at h1
 have h2:=ht.set
 rw[List.length_eraseIdx_of_lt hk]at h2
 rcases h.least _ (set_shift hk h2) h1 with a|⟨a,_⟩<;>(rw[List.length_map]at a;omega)
theorem tg_head {α:Type} {r:α->α->Prop} {a b:α} (h:Relation.TransGen r a b): ∃c,r a c:=by
 induction h with
 |single h=>exact⟨_,h⟩
 |tail _ _ ih=>exact ih
theorem contra_nil:contraP []=false:=by
 unfold contraP
 have h1: ¬Circle []:=by
  rintro⟨a,ha⟩
  obtain⟨b,hb⟩:=tg_head ha
  obtain⟨x,hx,_⟩:=hb
  cases hx
 have h2: ¬TooMuch []:=by
  rintro⟨p,d,h⟩
  rw[sumGo]at h
  exact absurd h (by decide)
 simp[pairP,h1,h2]
end Go.Proofs.YtmaidggpbihlgaaGreatDoor
namespace Go.Proofs.YtmaidggpbihlgaaGreatDoor
open Go.RowKit
def stopS (q out:Rat):Bool:=decide (q.num<1)||!inR q.den 1 1000000000||decide ((q.den:Int)<q.num)||decide (1000000000<(out.den:Int))
def sumLaw:Parts->Rat->Rat×Bool
 | [],out=>(out,true)
 |p::l,out=>if stopS p.2 out then(out,false)else sumLaw l (out+p.2)
theorem part_le {l:Parts} (h: ∀p∈l,0<p.2) (hs:sumQ l<=1): ∀p∈l,p.2<=1:=fun p hp=>by
 have:=mem_le_sum (fun p hp=>by have:=h p hp;grind) p hp
 grind
theorem num_pos {q:Rat} (h:0<q):1<=q.num:=by
 have hq:0<q.num:=by have:=(Rat.lt_iff 0 q).1 h;simpa using this
 omega
theorem num_le {q:Rat} (h:q<=1):q.num<=q.den:=by
 have h1:=Rat.le_iff q 1
 have:=h1.1 h
 simpa using this
theorem stop_big {q out:Rat} (h0:0<q) (h1:q<=1) (hd:(q.den:Int)<=1000000000):stopS q out=decide (1000000000<(out.den:Int)):=by
 unfold stopS inR
 have a:=num_pos h0
 have b:=num_le h1
 have c:=q.den_pos
 have e1:decide (q.num<1)=false:=by simpa using(by omega:1<=q.num)
 have e2:decide ((q.den:Int)<q.num)=false:=by simpa using b
 have e3:decide ((1:Int)<=q.den)=true:=by simpa using(by omega:(1:Int)<=q.den)
 have e4:decide ((q.den:Int)<=1000000000)=true:=by simpa using hd
 rw[e1,e2,e3,e4]
 rfl
theorem sum_law: ∀(l:Parts) (out:Rat),(∀p∈l,0<p.2/\p.2<=1/\(p.2.den:Int)<=1000000000)->((sumLaw l out).2=false->1000000000<((sumLaw l out).1.den:Int))/\((sumLaw l out).2=true->(sumLaw l out).1=out+sumQ l)
 | [],out,_=>⟨fun h=>by simp[sumLaw]at h,fun _=>by simp[sumLaw,sumQ];grind⟩
 |p::l,out,h=>by
  have h1:=h p List.mem_cons_self
  have e:=stop_big (out:=out) h1.1 h1.2.1 h1.2.2
  have ih:=sum_law l (out+p.2) fun q hq=>h q (List.mem_cons_of_mem _ hq)
  rw[sumLaw,e,sumQ]
  by_cases hd:1000000000<(out.den:Int)
  ·rw[if_pos (by simpa using hd)]
   exact⟨fun _=>hd,fun h=>by simp at h⟩
  ·rw[if_neg (by simpa using hd)]
   exact⟨ih.1,fun h=>(ih.2 h).trans (by grind)⟩
theorem not_large {l:Parts} (h:largeP l=false): ∀p∈l,(p.2.den:Int)<=1000000000:=fun p hp=>by
 unfold largeP at h
 rw[List.any_eq_false]at h
 have:=h p hp
 unfold bigQ at this
 simpa using this
theorem sum_right {l:Parts} (hg:GoodParts l) (hl:largeP l=false) (h1:l=[]\/sumQ l=1):
 (!(sumLaw l 0).2&&decide (((sumLaw l 0).1.den:Int)<=1000000000)||(sumLaw l 0).2&&(decide (0<l.length)&&(decide (((sumLaw l 0).1.den:Int)<=1000000000)&&!decide ((sumLaw l 0).1=1))))=false:=by
 have hs:sumQ l<=1:=by
  rcases h1 with rfl|h
  ·rw[sumQ];decide
  ·rw[h];exact Rat.le_refl
 have hp:=part_le hg.pos hs
 have hd:=not_large hl
 have k:=sum_law l 0 fun p hm=>⟨hg.pos p hm,hp p hm,hd p hm⟩
 cases hx:(sumLaw l 0).2
 ·have:=k.1 hx
  simp
  omega
 ·have:=k.2 hx
  rcases h1 with rfl|h
  ·simp
  ·have e:(0:Rat)+1=1:=by grind
   rw[this,h,e]
   simp
end Go.Proofs.YtmaidggpbihlgaaGreatDoor
