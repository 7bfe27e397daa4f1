/- Plain: the reference's records: errors, contradictions, circles, sums. -/
import Derived.Test.YtmaidggpbihlgaaGreatDoorE2
import Derived.Test.YtmaidggpbihlgaaGreatDoorN9
import Derived.Test.YtmaidggpbihlgaaGreatDoorRD
import Derived.Test.YtmaidggpbihlgaaGreatDoorM0
import Derived.Test.YtmaidggpbihlgaaGreatDoorJX
import Derived.Test.YtmaidggpbihlgaaGreatDoorE4
import Derived.Test.YtmaidggpbihlgaaGreatDoorJE
import Derived.Test.YtmaidggpbihlgaaGreatDoorJT
set_option linter.unusedSimpArgs false
set_option linter.unusedVariables false
namespace Go.Proofs.YtmaidggpbihlgaaGreatDoor
open Go.RowKit
def heldQ (n:ByteArray) (day:Int) (g:Grave):Bool:=inForceP g day&&decide (0<(shareP g.holders n).num)
theorem num_pos7 {q:Rat}:0<q↔0<q.num:=by rw[Rat.lt_iff];simp
theorem held_same {s:St} {last day:Int} {n:ByteArray} {i:Nat} {g:Grave} (hG:GoodSt s last) (hl:last<=day) (hi:s.graves[i]?=some g):heldP s n day i g=heldQ n day g:=by
 have hgg:=hG.graves g (List.mem_of_getElem? hi)
 have hn:=share_nonneg hgg.good n
 have h1:(shareP g.holders n != 0)=decide (0<(shareP g.holders n).num):=by
  rw[Bool.eq_iff_iff,bne_iff_ne,decide_eq_true_eq,<-num_pos7]
  constructor
  ·intro h
   exact Rat.lt_of_le_of_ne hn (fun e=>h e.symm)
  ·intro h e
   rw[e]at h
   exact absurd h (by decide)
 have h2:(graveIx s g.place day==some i)=inForceP g day:=by
  cases hf:inForceP g day
  ·cases hx:graveIx s g.place day with
   |none=>rfl
   |some j=>
    obtain⟨gj,h3,h4,h5⟩:=graveIx_some hx
    cases hji:(some j==some i)
    ·rfl
    ·have e:j=i:=by simpa using hji
     subst e
     rw[h3]at hi
     simp only[Option.some.injEq]at hi
     rw[hi,hf]at h5
     cases h5
  ·cases hx:graveIx s g.place day with
   |none=>
    have:=graveIx_none hx g (List.mem_of_getElem? hi) rfl
    rw[hf]at this
    cases this
   |some j=>
    obtain⟨gj,h3,h4,h5⟩:=graveIx_some hx
    have:=hG.force j i gj g h3 hi h4 day hl h5 hf
    simp[this]
 unfold heldP heldQ
 rw[h1,h2,Bool.and_comm]
def heirOf (n:ByteArray) (h:Parts) (g:Grave) (f:Bool):Parts×Bool:=gainF (shareP g.holders n) h (setP g.holders n 0,f)
def diesQ (n:ByteArray) (day:Int) (h:Parts):List Grave->Bool->List Grave×Bool
 | [],f=>([],f)
 |g::l,f=>if heldQ n day g then(⟨g.place,g.cls,g.fin,(heirOf n h g f).1,g.died++[n]⟩::(diesQ n day h l (heirOf n h g f).2).1,(diesQ n day h l (heirOf n h g f).2).2)else(g::(diesQ n day h l f).1,(diesQ n day h l f).2)
theorem dies_mark {n:ByteArray} {day:Int} {h:Parts}: ∀ {l:List Grave} {f:Bool},f=true->(diesQ n day h l f).2=true
 | [],_,hf=>hf
 |g::l,f,hf=>by
  rw[diesQ]
  split
  ·exact dies_mark (gain_mark (by exact hf))
  ·exact dies_mark hf
theorem dies_some {s:St} {n:ByteArray} {day:Int} {h:Parts} (hh: ∀p∈h,0<=p.2): ∀ {l:List Grave} {i:Nat},(∀j g,l[j]?=some g->heldP s n day (i+j) g=heldQ n day g)->(∀g∈l,GoodG g)->
 (∀gs,diesGo s n day (some h) i l=some gs->diesQ n day h l false=(gs,false))/\(diesGo s n day (some h) i l=none->(diesQ n day h l false).2=true)
 | [],i,_,_=>by
   rw[diesGo,diesQ]
   exact⟨fun gs e=>by cases e;rfl,fun e=>by cases e⟩
 |g::l,i,hq,hg=>by
  have ih:=dies_some (s:=s) (n:=n) (day:=day) hh (l:=l) (i:=i+1) (fun j g' hj=>by
   have:=hq (j+1) g' (by simpa using hj)
   rw[show i+1+j=i+(j+1) by omega]
   exact this) (fun g' h'=>hg g' (by simp[h']))
  have h0:=hq 0 g rfl
  rw[Nat.add_zero]at h0
  rw[diesGo,diesQ,h0]
  have hgg:=hg g (by simp)
  cases hh2:heldQ n day g
  ·simp only[Bool.false_eq_true,if_false]
   refine⟨fun gs e=> ?_,fun e=> ?_⟩
   ·cases hd:diesGo s n day (some h) (i+1) l with
    |none=>rw[hd]at e;cases e
    |some r=>
     rw[hd]at e
     simp only[Option.map_some,Option.some.injEq]at e
     rw[ih.1 r hd,<-e]
   ·cases hd:diesGo s n day (some h) (i+1) l with
    |none=>exact ih.2 hd
    |some r=>rw[hd]at e;cases e
  ·simp only[if_true]
   have hz:setP g.holders n 0=withoutP g.holders n:=set_zero hgg.good.asc n
   obtain⟨g1,g2⟩:=gain_same (share_nonneg hgg.good n) hh (without_good hgg.good (n:=n)) (by
    have h1:largeP (setP g.holders n 0)=false:=small_set hgg.small (by decide)
    rw[<-hz]
    exact h1)
   have hy:heirOf n h g false=gainF (shareP g.holders n) h (withoutP g.holders n,false):=by unfold heirOf;rw[hz]
   rw[hy]
   cases hgo:gainGo (shareP g.holders n) h (withoutP g.holders n)with
   |none=>
    have h3:=g2 hgo
    refine⟨fun gs e=>by simp at e,fun _=> ?_⟩
    exact dies_mark h3
   |some o=>
    have h3:=g1 o hgo
    rw[h3]
    refine⟨fun gs e=> ?_,fun e=> ?_⟩
    ·cases hd:diesGo s n day (some h) (i+1) l with
     |none=>rw[hd]at e;cases e
     |some r=>
      rw[hd]at e
      simp only[Option.bind_some,Option.map_some,Option.some.injEq]at e
      rw[ih.1 r hd,<-e]
    ·cases hd:diesGo s n day (some h) (i+1) l with
     |none=>exact ih.2 hd
     |some r=>rw[hd]at e;cases e
theorem dies_none {s:St} {n:ByteArray} {day:Int} {h:Option Parts}: ∀ {l:List Grave} {i:Nat},(∀j g,l[j]?=some g->heldP s n day (i+j) g=heldQ n day g)->(l.any (heldQ n day)=false->diesGo s n day h i l=some l)/\(h=none->l.any (heldQ n day)=true->diesGo s n day h i l=none)
 | [],i,_=>by
   have e:diesGo s n day h i []=some []:=by simp[diesGo]
   rw[e]
   exact⟨fun _=>rfl,fun _ e=>by cases e⟩
 |g::l,i,hq=>by
  have ih:=dies_none (s:=s) (n:=n) (day:=day) (h:=h) (l:=l) (i:=i+1) (fun j g' hj=>by
   have:=hq (j+1) g' (by simpa using hj)
   rw[show i+1+j=i+(j+1) by omega]
   exact this)
  have h0:=hq 0 g rfl
  rw[Nat.add_zero]at h0
  unfold diesGo
  rw[h0,List.any_cons]
  cases hh2:heldQ n day g
  ·simp only[Bool.false_eq_true,if_false,Bool.false_or]
   exact⟨fun e=>by rw[ih.1 e];rfl,fun e1 e2=>by rw[ih.2 e1 e2];rfl⟩
  ·simp only[if_true,Bool.true_or]
   refine⟨fun e=>(by cases e),fun e _=> ?_⟩
   subst e
   rfl
theorem deathP_eq {laws:List Law} {s:St} {d:Deed} {last:Int} (hG:GoodSt s last) (hl:last<=d.day) (hw:isShareP 16 (lawOnP laws d.day).num (lawOnP laws d.day).den=true):
 deathP laws s d=if isDeadP s d.frm then(s,28)else if s.graves.any (heldQ d.frm d.day)then
  (if(diesQ d.frm d.day (estateF s (lawOnP laws d.day) d.frm).1 s.graves (estateF s (lawOnP laws d.day) d.frm).2).2 then(s,8)else
    ({s with graves:=(diesQ d.frm d.day (estateF s (lawOnP laws d.day) d.frm).1 s.graves (estateF s (lawOnP laws d.day) d.frm).2).1,dead:=s.dead++[d.frm]},0))
  else({s with dead:=s.dead++[d.frm]},0):=by
 have hq: ∀j g,s.graves[j]?=some g->heldP s d.frm d.day (0+j) g=heldQ d.frm d.day g:=fun j g hj=>by rw[Nat.zero_add];exact held_same hG hl hj
 obtain⟨e1,e2⟩:=estate_same (s:=s) (n:=d.frm) (hG.wills d.frm) hw
 have hn:=dies_none (s:=s) (n:=d.frm) (day:=d.day) (h:=estateP s (lawOnP laws d.day) d.frm) hq
 unfold deathP
 cases hd:isDeadP s d.frm
 ·simp only[Bool.false_eq_true,if_false]
  cases ha:s.graves.any (heldQ d.frm d.day)
  ·rw[hn.1 ha]
   simp
  ·simp only[if_true]
   cases he:estateP s (lawOnP laws d.day) d.frm with
   |none=>
    rw[he]at hn
    rw[hn.2 rfl ha,if_pos (dies_mark (e2 he))]
   |some h=>
    have hgd:=estate_good (hG.wills d.frm) hw he
    obtain⟨f1,f2⟩:=dies_some (s:=s) (n:=d.frm) (day:=d.day) (h:=h) (fun p hp=>by have:=hgd.1.pos p hp;grind) hq hG.graves
    rw[e1 h he]
    cases hx:diesGo s d.frm d.day (some h) 0 s.graves with
    |none=>
     simp only
     rw[if_pos (f2 hx)]
    |some gs=>
     simp only
     rw[f1 gs hx]
     simp
 ·simp
def heldFrom (n:ByteArray) (day:Int):Nat->List Grave->List Nat
 |_,[]=>[]
 |k,g::l=>if heldQ n day g then k::heldFrom n day (k+1) l else heldFrom n day (k+1) l
theorem held_append (n:ByteArray) (day:Int): ∀(k:Nat) (a b:List Grave),heldFrom n day k (a++b)=heldFrom n day k a++heldFrom n day (k+a.length) b
 |k,[],b=>by simp[heldFrom]
 |k,g::a,b=>by
  rw[List.cons_append,heldFrom,heldFrom,held_append n day (k+1) a b,List.length_cons]
  rw[show k+1+a.length=k+(a.length+1) by omega]
  split<;>simp
theorem held_snoc (n:ByteArray) (day:Int) (gs:List Grave) {k:Nat} (h:k<gs.length):heldFrom n day 0 (gs.take (k+1))=heldFrom n day 0 (gs.take k)++if heldQ n day gs[k]then[k]else[]:=by
 rw[List.take_succ_eq_append_getElem h,held_append,Nat.zero_add,List.length_take,Nat.min_eq_left (by omega),heldFrom,heldFrom]
theorem held_len (n:ByteArray) (day:Int): ∀(k:Nat) (l:List Grave),(heldFrom n day k l).length=(l.filter (heldQ n day)).length
 |_,[]=>rfl
 |k,g::l=>by
  rw[heldFrom,List.filter_cons]
  split<;>simp[held_len n day (k+1) l]
theorem held_get (n:ByteArray) (day:Int): ∀(l:List Grave) (k j i:Nat),(heldFrom n day k l)[j]?=some i->k<=i/\ ∃g,l[i-k]?=some g/\(l.filter (heldQ n day))[j]?=some g
 | [],k,j,i,h=>by simp[heldFrom]at h
 |g::l,k,j,i,h=>by
  rw[heldFrom]at h
  rw[List.filter_cons]
  cases hq:heldQ n day g
  ·rw[hq]at h
   simp only[Bool.false_eq_true,if_false]at h⊢
   obtain⟨h1,g',h2,h3⟩:=held_get n day l (k+1) j i h
   refine⟨by omega,g',?_,h3⟩
   rw[show i-k=(i-(k+1))+1 by omega,List.getElem?_cons_succ]
   exact h2
  ·rw[hq]at h
   simp only[if_true]at h⊢
   cases j with
   |zero=>
    simp only[List.getElem?_cons_zero,Option.some.injEq]at h
    subst h
    exact⟨Nat.le_refl _,g,by simp,by simp⟩
   |succ j=>
    simp only[List.getElem?_cons_succ]at h⊢
    obtain⟨h1,g',h2,h3⟩:=held_get n day l (k+1) j i h
    refine⟨by omega,g',?_,h3⟩
    rw[show i-k=(i-(k+1))+1 by omega,List.getElem?_cons_succ]
    exact h2
def nextF (n:ByteArray) (h:Parts):List Grave->Bool->List Grave×Bool
 | [],f=>([],f)
 |g::l,f=>(⟨g.place,g.cls,g.fin,(heirOf n h g f).1,g.died++[n]⟩::(nextF n h l (heirOf n h g f).2).1,(nextF n h l (heirOf n h g f).2).2)
theorem next_append (n:ByteArray) (h:Parts): ∀(a b:List Grave) (f:Bool),nextF n h (a++b) f=((nextF n h a f).1++(nextF n h b (nextF n h a f).2).1,(nextF n h b (nextF n h a f).2).2)
 | [],b,f=>by simp[nextF]
 |g::a,b,f=>by
  rw[List.cons_append,nextF,next_append n h a b,nextF]
  simp
theorem next_snoc (n:ByteArray) (h:Parts) (l:List Grave) (f:Bool) {k:Nat} (hk:k<l.length):nextF n h (l.take (k+1)) f=((nextF n h (l.take k) f).1++[⟨l[k].place,l[k].cls,l[k].fin,(heirOf n h l[k] (nextF n h (l.take k) f).2).1,l[k].died++[n]⟩],(heirOf n h l[k] (nextF n h (l.take k) f).2).2):=by
 rw[List.take_succ_eq_append_getElem hk,next_append,nextF,nextF]
theorem next_len (n:ByteArray) (h:Parts): ∀(l:List Grave) (f:Bool),(nextF n h l f).1.length=l.length
 | [],_=>rfl
 |g::l,f=>by rw[nextF];simp[next_len n h l]
def setAll:List Grave->List Nat->List Grave->List Grave
 |gs,i::H,x::X=>setAll (gs.set i x) H X
 |gs,_,_=>gs
theorem setAll_snoc: ∀(H:List Nat) (X:List Grave) (gs:List Grave) (i:Nat) (x:Grave),H.length=X.length->setAll gs (H++[i]) (X++[x])=(setAll gs H X).set i x
 | [],[],gs,i,x,_=>rfl
 | [],_::_,_,_,_,h=>by cases h
 |_::_,[],_,_,_,h=>by cases h
 |j::H,y::X,gs,i,x,h=>by
  rw[List.cons_append,List.cons_append,setAll,setAll]
  exact setAll_snoc H X _ i x (by simpa using h)
theorem setAll_len: ∀(H:List Nat) (X gs:List Grave),(setAll gs H X).length=gs.length
 | [],_,_=>by simp[setAll]
 |_::_,[],_=>by simp[setAll]
 |j::H,y::X,gs=>by rw[setAll,setAll_len H X];simp
theorem setAll_dies (n:ByteArray) (day:Int) (h:Parts): ∀(l A:List Grave) (f:Bool),setAll (A++l) (heldFrom n day A.length l) (nextF n h (l.filter (heldQ n day)) f).1=A++(diesQ n day h l f).1/\(nextF n h (l.filter (heldQ n day)) f).2=(diesQ n day h l f).2
 | [],A,f=>by simp[heldFrom,nextF,diesQ,setAll]
 |g::l,A,f=>by
  rw[heldFrom,List.filter_cons,diesQ]
  cases hq:heldQ n day g
  ·simp only[Bool.false_eq_true,if_false]
   have:=setAll_dies n day h l (A++[g]) f
   rw[List.length_append,List.length_singleton,List.append_assoc,List.singleton_append]at this
   exact⟨by rw[this.1];simp,this.2⟩
  ·simp only[if_true]
   rw[nextF,setAll]
   have:=setAll_dies n day h l (A++[⟨g.place,g.cls,g.fin,(heirOf n h g f).1,g.died++[n]⟩]) (heirOf n h g f).2
   rw[List.length_append,List.length_singleton,List.append_assoc,List.singleton_append]at this
   have e:(A++g::l).set A.length ⟨g.place,g.cls,g.fin,(heirOf n h g f).1,g.died++[n]⟩=A++⟨g.place,g.cls,g.fin,(heirOf n h g f).1,g.died++[n]⟩::l:=by
    rw[List.set_append_right _ _ (Nat.le_refl _),Nat.sub_self,List.set_cons_zero]
   exact⟨by rw[e,this.1];simp,this.2⟩
end Go.Proofs.YtmaidggpbihlgaaGreatDoor
namespace Go.Proofs.YtmaidggpbihlgaaGreatDoor
open Go.RowKit
def unitR (x:Rec):Int:=x.num*(27720/x.den)
structure ShareOk (x:Rec):Prop where
 d1:1<=x.den
 d2:x.den<=12
 n1:1<=x.num
 n2:x.num<=x.den
theorem share_ok {x:Rec} (h:checkRecP x=0) (hk:x.kind=3):ShareOk x:=by
 unfold checkRecP at h
 by_cases hc:(x.kind==3&&(!inR x.den 1 12||!inR x.num 1 x.den||Int.gcd x.num x.den != 1))=true
 ·exfalso
  rw[if_pos hc]at h
  repeat(split at h;·simp at h)
  simp at h
 ·simp only[hk,Bool.and_eq_true,beq_self_eq_true,Bool.or_eq_true,Bool.not_eq_true',true_and,not_or,Bool.not_eq_false]at hc
  obtain⟨⟨h1,h2⟩,_⟩:=hc
  unfold inR at h1 h2
  simp at h1 h2
  exact⟨h1.1,h1.2,h2.1,h2.2⟩
theorem unit_den {d:Int} (h1:1<=d) (h2:d<=12):27720/d*d=27720/\0<27720/d:=by
 have:d=1\/d=2\/d=3\/d=4\/d=5\/d=6\/d=7\/d=8\/d=9\/d=10\/d=11\/d=12:=by omega
 rcases this with rfl|rfl|rfl|rfl|rfl|rfl|rfl|rfl|rfl|rfl|rfl|rfl<;>decide
theorem unit_rat {x:Rec} (h:ShareOk x):((unitR x:Int):Rat)=27720*Rat.divInt x.num x.den:=by
 have h1:=unit_den h.d1 h.d2
 unfold unitR
 generalize 27720/x.den=q at*
 have hd:(x.den:Rat)≠0:=by
  intro e
  have:x.den=0:=by exact_mod_cast e
  have:=h.d1
  omega
 have h3:(q:Rat)*(x.den:Rat)=27720:=by
  have:=congrArg (fun z:Int=>(z:Rat)) h1.1
  simpa using this
 rw[Rat.divInt_eq_div,Rat.intCast_mul]
 grind
theorem unit_bd {x:Rec} (h:ShareOk x):1<=unitR x/\unitR x<=27720:=by
 have h1:=unit_den h.d1 h.d2
 unfold unitR
 generalize 27720/x.den=q at*
 have hn:=h.n1
 have hm:=h.n2
 refine⟨?_,?_⟩
 ·have:=Int.mul_pos (show 0<x.num by omega) h1.2
  omega
 ·have:=Int.mul_le_mul_of_nonneg_right hm (show 0<=q by omega)
  rw[Int.mul_comm x.den q,h1.1]at this
  exact this
abbrev Spot:=ByteArray×Int
def eqSp (a b:Spot):Bool:=sameB a.1 b.1&&a.2==b.2
theorem eqSp_iff {a b:Spot}:eqSp a b=true↔a=b:=by
 obtain⟨a1,a2⟩:=a
 obtain⟨b1,b2⟩:=b
 simp[eqSp,same_iff]
theorem eqSp_refl (a:Spot):eqSp a a=true:=eqSp_iff.2 rfl
theorem eqSp_ne {a b:Spot}:eqSp a b=false↔a≠b:=by rw[<-Bool.not_eq_true,Ne,eqSp_iff]
theorem eqSp_sym (a b:Spot):eqSp a b=eqSp b a:=by rw[Bool.eq_iff_iff,eqSp_iff,eqSp_iff];exact⟨Eq.symm,Eq.symm⟩
def spotR (x:Rec):Spot:=(x.place,x.day)
def toldS (s:Spot) (l:List Rec):List ByteArray:=toldOf s.1 s.2 l
noncomputable def sumS (s:Spot) (l:List Rec):Rat:=sumGo s.1 s.2 l []
theorem told_snoc (s:Spot) (x:Rec) (l:List Rec):toldS s (l++[x])=toldS s l++if x.kind==3&&sameB x.place s.1&&x.day==s.2 then[x.name]else[]:=by
 unfold toldS toldOf
 simp only[List.filter_append,List.map_append,List.filter_cons,List.filter_nil]
 cases x.kind==3&&sameB x.place s.1&&x.day==s.2<;>simp
theorem spot_is {x:Rec} {s:Spot}:(sameB x.place s.1&&x.day==s.2)=true↔s=spotR x:=by
 obtain⟨p,d⟩:=s
 simp only[spotR,Bool.and_eq_true,same_iff,beq_iff_eq,Prod.mk.injEq]
 exact⟨fun h=>⟨h.1.symm,h.2.symm⟩,fun h=>⟨h.1.symm,h.2.symm⟩⟩
theorem told_skip {l:List Rec} {x:Rec} (h:x.kind≠3) (s:Spot):toldS s (l++[x])=toldS s l:=by
 rw[told_snoc,if_neg (by simp[h]),List.append_nil]
theorem told_other {l:List Rec} {x:Rec} {s:Spot} (h:s≠spotR x):toldS s (l++[x])=toldS s l:=by
 rw[told_snoc,if_neg,List.append_nil]
 intro hc
 rw[Bool.and_assoc,Bool.and_eq_true]at hc
 exact h (spot_is.1 hc.2)
theorem told_put {l:List Rec} {x:Rec} (h:x.kind=3):toldS (spotR x) (l++[x])=toldS (spotR x) l++[x.name]:=by
 rw[told_snoc,if_pos (by simp[h,spotR,same_refl])]
theorem sum_skip {l:List Rec} {x:Rec} (h:x.kind≠3) (s:Spot):sumS s (l++[x])=sumS s l:=by
 unfold sumS
 rw[sum_snoc,if_neg (by simp[h])]
 grind
theorem sum_old {l:List Rec} {x:Rec} (h:x.name∈toldS (spotR x) l) (s:Spot):sumS s (l++[x])=sumS s l:=by
 unfold sumS
 rw[sum_snoc,if_neg]
 ·grind
 ·intro hc
  simp only[List.any_nil,Bool.not_false,Bool.and_true]at hc
  rw[Bool.and_eq_true,Bool.and_assoc,Bool.and_eq_true]at hc
  have e:=spot_is.1 hc.1.2
  subst e
  have:=hc.2
  rw[Bool.not_eq_true',<-Bool.not_eq_true,any_same]at this
  exact this h
theorem sum_other {l:List Rec} {x:Rec} {s:Spot} (h:s≠spotR x):sumS s (l++[x])=sumS s l:=by
 unfold sumS
 rw[sum_snoc,if_neg]
 ·grind
 ·intro hc
  simp only[List.any_nil,Bool.not_false,Bool.and_true]at hc
  rw[Bool.and_eq_true,Bool.and_assoc,Bool.and_eq_true]at hc
  exact h (spot_is.1 hc.1.2)
theorem sum_put {l:List Rec} {x:Rec} (hk:x.kind=3) (h:x.name∉toldS (spotR x) l):sumS (spotR x) (l++[x])=sumS (spotR x) l+Rat.divInt x.num x.den:=by
 unfold sumS
 rw[sum_snoc,if_pos]
 simp only[List.any_nil,Bool.not_false,Bool.and_true]
 rw[Bool.and_eq_true,Bool.and_assoc,Bool.and_eq_true]
 refine⟨⟨by simp[hk],spot_is.2 rfl⟩,?_⟩
 rw[Bool.not_eq_true',<-Bool.not_eq_true,any_same]
 exact h
def SumsOk (ms:List (Spot×Int)) (l:List Rec):Prop:= ∀s,((((mget eqSp s ms).getD 0:Int)):Rat)=27720*sumS s l
def SmallOk (l:List Rec):Prop:= ∀s,sumS s l<=1
theorem sums_nil:SumsOk [] []:=fun s=>by
 show((0:Int):Rat)=27720*sumS s []
 unfold sumS sumGo
 simp
theorem small_nil:SmallOk []:=fun s=>by
 unfold sumS sumGo
 decide
theorem small_end {l:List Rec} (h:SmallOk l): ¬TooMuch l:=fun⟨p,d,hc⟩=>by
 have:=h (p,d)
 unfold sumS at this
 grind
theorem mget_mputSp {V:Type} {k n:Spot} {v:V}: ∀ {m:List (Spot×V)},mget eqSp n (mput eqSp k v m)=if eqSp n k then some v else mget eqSp n m
 | []=>rfl
 |x::m=>by
  rw[mput]
  cases hk:eqSp k x.1
  ·simp only[Bool.false_eq_true,if_false]
   rw[mget,mget,mget_mputSp (m:=m)]
   cases hn:eqSp n x.1
   ·simp
   ·have e:=eqSp_iff.1 hn
    subst e
    rw[eqSp_sym,hk]
    simp
  ·simp only[if_true]
   have e:=eqSp_iff.1 hk
   rw[mget,mget,<-e]
   cases hn:eqSp n k<;>simp
theorem sums_put {ms:List (Spot×Int)} {l:List Rec} {x:Rec} (h:SumsOk ms l) (hx:ShareOk x) (hk:x.kind=3) (hn:x.name∉toldS (spotR x) l):SumsOk (mput eqSp (spotR x) ((mget eqSp (spotR x) ms).getD 0+unitR x) ms) (l++[x]):=fun s=>by
 rw[mget_mputSp]
 by_cases hs:s=spotR x
 ·subst hs
  rw[eqSp_refl,if_pos rfl,Option.getD_some,sum_put hk hn,Rat.intCast_add,h,unit_rat hx]
  grind
 ·rw[eqSp_ne.2 hs,if_neg (by simp),sum_other hs]
  exact h s
theorem sums_bd {ms:List (Spot×Int)} {l:List Rec} (h:SumsOk ms l) (hs:SmallOk l) (hn:Nonneg l) (s:Spot):0<=(mget eqSp s ms).getD 0/\(mget eqSp s ms).getD 0<=27720:=by
 have h1:=h s
 have h2:=hs s
 have h3:0<=sumS s l:=by
  have:=sum_take_mono (p:=s.1) (d:=s.2) hn (k:=0)
  rw[List.take_zero]at this
  unfold sumS
  exact this
 generalize(mget eqSp s ms).getD 0=v at*
 constructor
 ·have:((0:Int):Rat)<=(v:Rat):=by grind
  exact Rat.intCast_le_intCast.1 this
 ·have:(v:Rat)<=((27720:Int):Rat):=by
   have e:((27720:Int):Rat)=27720:=rfl
   grind
  exact Rat.intCast_le_intCast.1 this
theorem small_put {ms:List (Spot×Int)} {l:List Rec} {x:Rec} (h:SumsOk ms l) (hs:SmallOk l) (hx:ShareOk x) (hk:x.kind=3) (hn:x.name∉toldS (spotR x) l) (hv:(mget eqSp (spotR x) ms).getD 0+unitR x<=27720):SmallOk (l++[x]):=fun s=>by
 by_cases e:s=spotR x
 ·subst e
  have h1:=h (spotR x)
  rw[sum_put hk hn]
  have h2:=unit_rat hx
  generalize(mget eqSp (spotR x) ms).getD 0=v at*
  have h3:((v+unitR x:Int):Rat)<=((27720:Int):Rat):=Rat.intCast_le_intCast.2 hv
  rw[Rat.intCast_add]at h3
  have e:((27720:Int):Rat)=27720:=rfl
  grind
 ·rw[sum_other e];exact hs s
theorem much_put {ms:List (Spot×Int)} {l r:List Rec} {x:Rec} (h:SumsOk ms l) (hx:ShareOk x) (hk:x.kind=3) (hn:x.name∉toldS (spotR x) l) (hN:Nonneg (l++x::r)) (hv:27720<(mget eqSp (spotR x) ms).getD 0+unitR x):TooMuch (l++x::r):=by
 have h1:=sum_take_mono (p:=x.place) (d:=x.day) hN (k:=l.length+1)
 have e:(l++x::r).take (l.length+1)=l++[x]:=by
  rw[show l++x::r=(l++[x])++r by simp]
  exact List.take_left' (by simp)
 rw[e]at h1
 refine⟨x.place,x.day,?_⟩
 have h2:=sum_put hk hn
 unfold sumS at h2
 have h3:=h (spotR x)
 unfold sumS at h3
 have h4:=unit_rat hx
 generalize(mget eqSp (spotR x) ms).getD 0=v at*
 have h5:((27720:Int):Rat)<((v+unitR x:Int):Rat):=Rat.intCast_lt_intCast.2 hv
 rw[Rat.intCast_add]at h5
 have e:((27720:Int):Rat)=27720:=rfl
 simp only[spotR]at h2 h3
 grind
theorem sums_skip {ms:List (Spot×Int)} {l:List Rec} {x:Rec} (h:SumsOk ms l) (hc:x.kind≠3\/x.name∈toldS (spotR x) l):SumsOk ms (l++[x]):=fun s=>by
 rw[h s]
 rcases hc with hc|hc
 ·rw[sum_skip hc]
 ·rw[sum_old hc]
theorem small_skip {l:List Rec} {x:Rec} (h:SmallOk l) (hc:x.kind≠3\/x.name∈toldS (spotR x) l):SmallOk (l++[x]):=fun s=>by
 rcases hc with hc|hc
 ·rw[sum_skip hc];exact h s
 ·rw[sum_old hc];exact h s
theorem told_old {l:List Rec} {x:Rec} (hc:x.kind≠3\/x.name∈toldS (spotR x) l) (s:Spot) (n:ByteArray):n∈toldS s (l++[x])↔n∈toldS s l:=by
 rcases hc with hc|hc
 ·rw[told_skip hc]
 ·by_cases hs:s=spotR x
  ·subst hs
   by_cases hk:x.kind=3
   ·rw[told_put hk,List.mem_append,List.mem_singleton]
    exact⟨fun h=>h.elim id fun e=>e▸hc, .inl⟩
   ·rw[told_skip hk]
  ·rw[told_other hs]
end Go.Proofs.YtmaidggpbihlgaaGreatDoor
namespace Go.Proofs.YtmaidggpbihlgaaGreatDoor
open Go.RowKit
attribute [local go_sem] World.cell?_alloc_mark ext_size ext_cell ext_frozen lt_add_r lt_add_r2 lt_add_r3 lt_add_r4 lt_add_r5 lt_add_r6 lt_add_r7 lt_add_r8
def ekSp (s:Spot):Value:= .agg #[.string s.1, .int .i64 s.2]
set_option maxRecDepth 100000 in
theorem equal_sp (a:ByteArray) (c:Int) (a':ByteArray) (c':Int) (w:World):(Op.equal 187 (.agg #[.string a, .int .i64 c]) (.agg #[.string a', .int .i64 c'])).run Tryz.prog w= .ok (sameB a a'&&c==c') w:=by
 simp only[Op.equal,Op.maxDepth]
 go_simp
 unfold sameB
 by_cases h1:a.toList=a'.toList<;>by_cases h2:c=c'<;>simp[h1,h2]
theorem findNow_sp (v:Value) (e:MapEntry) (es:List MapEntry) (fs:Array Field) (i:Nat):Instr.findNow (.struct fs) v (e::es) i=none:=by
 unfold Instr.findNow
 cases v<;>simp[Instr.sameNow]
theorem findAsking_sp {V:Type} (ev:V->Value) (p:Spot) (w:World): ∀(es:List MapEntry) (m:List (Spot×V)),es.map (fun e=>(e.key,e.val))=m.map (fun p=>(ekSp p.1,ev p.2))-> ∀i,
 (Instr.findAsking 187 (ekSp p) es i).run Tryz.prog w= .ok ((locate eqSp p m i).map fun p=>(p.1,ev p.2)) w
 | [],[],_,_=>by simp[Instr.findAsking,locate]
 | [],_::_,h,_=>by simp at h
 |_::_,[],h,_=>by simp at h
 |e::es,q::m,h,i=>by
  simp only[List.map_cons,List.cons.injEq,Prod.mk.injEq]at h
  obtain⟨⟨hk,hv⟩,ht⟩:=h
  unfold Instr.findAsking locate
  have h1:=equal_sp p.1 p.2 q.1.1 q.1.2 w
  have h2:=findAsking_sp ev p w es m ht (i+1)
  rw[hk,hv]
  simp only[ekSp]at h1 h2⊢
  simp only[Sem.run_bind,h1,Result.andThen_ok]
  change Sem.run _ (if(eqSp p q.1)=true then _ else _) w=_
  cases hq:eqSp p q.1
  ·simpa using h2
  ·simp
theorem checkKey_sp (e:Bool) (p:Spot) (w:World):(Instr.checkKey e 10000 187 (ekSp p)).run Tryz.prog w= .ok () w:=by
 obtain⟨a,c⟩:=p
 cases e<;>kernel_rfl
theorem sameBits_sp (a:ByteArray) (c:Int):Instr.sameBits 10000 (.agg #[.string a, .int .i64 c]) (.agg #[.string a, .int .i64 c])=true:=by
 have h2: ∀n,Instr.sameBits (n+1) (.agg #[.string a, .int .i64 c]) (.agg #[.string a, .int .i64 c])=true:=fun n=>by
  have h: ∀n (k:IntKind) (x:Int),Instr.sameBits n (.int k x) (.int k x)=true:=fun n k x=>by cases n<;>simp[Instr.sameBits]
  simp[Instr.sameBits,sameBits_s,beq_toListBytes,h]
 exact h2 9999
theorem mapSp_of {V:Type} {t et:TypeId} {ev:V->Value} {z:V} (ht:Tryz.prog.underlying t=some (.map 187 et)) (hz: ∀w,(zeroValue et).run Tryz.prog w= .ok (ev z) w):MapTy Tryz.prog t 187 et ekSp ev z eqSp where
 ht:=ht
 hz:=hz
 hck:=checkKey_sp
 hfind:=fun k es m h w=>by
  have hu: ∃fs,Tryz.prog.underlying 187=some (.struct fs):=⟨_,Tryz.underlying187⟩
  obtain⟨fs,hu⟩:=hu
  match es,m,h with
  | [],[],_=>simp[Instr.findKey,run_underlying hu,Instr.findNow,locate]
  | [],_::_,h=>simp at h
  |e::es,m,h=>
   simp only[Instr.findKey,Sem.run_bind,run_underlying hu,Result.andThen_ok,findNow_sp]
   exact findAsking_sp ev k w (e::es) m h 0
 hsame:=fun k k' h=>by
  have e:=eqSp_iff.1 h
  subst e
  exact sameBits_sp k.1 k.2
theorem mapPI:MapTy Tryz.prog 184 187 3 ekSp evI (0:Int) eqSp:=mapSp_of Tryz.underlying184 (fun w=>by kernel_rfl)
theorem mapPV:MapTy Tryz.prog 184 187 3 ekSp (fun v:Value=>v) (.int .i64 0) eqSp:=mapSp_of Tryz.underlying184 (fun w=>by kernel_rfl)
theorem mapPM:MapTy Tryz.prog 185 187 87 ekSp (fun v:Value=>v) (.map none) eqSp:=mapSp_of Tryz.underlying185 (fun w=>by kernel_rfl)
theorem lookup_none (n:ByteArray) (w:World):(Instr.lookup 87 (.map none) (.string n) false).run Tryz.prog w= .ok (.bool false) w:=by
 kernel_rfl
theorem mapS_val {W:World} {b:Nat} {ms:List (Spot×Int)}:MapS W b ekSp evI ms↔MapS W b ekSp (fun v:Value=>v) (ms.map fun p=>(p.1,evI p.2)):=by
 unfold MapS
 simp only[List.map_map,Function.comp_def]
theorem mput_val (k:Spot) (v:Int): ∀ms:List (Spot×Int),(mput eqSp k v ms).map (fun p=>(p.1,evI p.2))=mput eqSp k (evI v) (ms.map fun p=>(p.1,evI p.2))
 | []=>rfl
 |x::ms=>by
  rw[mput,List.map_cons,mput]
  cases eqSp k x.1
  ·simp[mput_val k v ms]
  ·simp
theorem locate_val {K V:Type} {eq:K->K->Bool} {k:K}: ∀ {m:List (K×V)} {i j:Nat} {v:V},locate eq k m i=some (j,v)->(m[j-i]?).map (·.2)=some v
 | [],_,_,_,h=>by cases h
 |p::l,i,j,v,h=>by
  unfold locate at h
  split at h
  ·simp only[Option.some.injEq,Prod.mk.injEq]at h
   obtain⟨rfl,rfl⟩:=h
   simp
  ·obtain⟨h1,_⟩:=locate_some h
   have e:j-i=(j-(i+1))+1:=by omega
   rw[e]
   simpa using locate_val h
theorem run_mapEntryX {P:Program} {t kt et:TypeId} {K:Type} {ek:K->Value} {z:Value} {eq:K->K->Bool} {w:World} {b:Nat} {m:List (K×Value)} (T:MapTy P t kt et ek (fun v:Value=>v) z eq) (h:MapS w b ek (fun v:Value=>v) m) (k:K):
 ∃w' st j,(Instr.mapEntry t (.map (some b)) (ek k)).run P w= .ok (.tuple #[(mget eq k m).getD z, .int .i64 (st:Nat)]) w'/\StampAt w' b ek (mput eq k ((mget eq k m).getD z) m) j st/\(∀v,(mput eq k ((mget eq k m).getD z) m).set j (k,v)=mput eq k v m)/\((mput eq k ((mget eq k m).getD z) m)[j]?).map (·.1)=some k/\w.grownBy w' (some b)/\w'.heap.size=w.heap.size:=by
 obtain⟨es,c,hh,hm,hb,hn⟩:=h
 have h1:=T.hfind k es.toList m hm w
 have hlt:=(Array.getElem?_eq_some_iff.1 hh).1
 have hgt:=locate_get eq k m 0
 cases hl:locate eq k m 0 with
 |none=>
  rw[hl]at hgt
  rw[<-hgt]
  have hp:=fun v'=>locate_none hl v'
  refine⟨_,c,m.length,?_,?_,?_,by rw[hp];simp,set_heap w b (.map (es.push {key:=ek k,val:=z,born:=c}) (c+1)),by simp⟩
  ·simp[Instr.mapEntry,run_underlying T.ht,run_getObj_map hh,T.hck,h1,hl,T.hz,run_setObj hh,Result.andThen]
   rfl
  ·refine⟨es.push {key:=ek k,val:=z,born:=c},c+1,by simp[Array.getElem?_setIfInBounds,hlt],?_,?_,?_,?_⟩
   ·rw[hp];simp[hm]
   ·intro e he
    rw[Array.toList_push]at he
    rcases List.mem_append.1 he with he|he
    ·have:=hb e he;omega
    ·rw[List.mem_singleton.1 he];exact Nat.lt_succ_self c
   ·rw[Array.toList_push,List.map_append,List.nodup_append]
    refine⟨hn,by simp,?_⟩
    intro x hx y hy
    obtain⟨e,he,rfl⟩:=List.mem_map.1 hx
    simp only[List.map_cons,List.map_nil,List.mem_singleton]at hy
    have:=hb e he
    omega
   ·have hlen:es.size=m.length:=by simpa using congrArg List.length hm
    rw[<-hlen]
    simp
  ·intro v
   rw[hp,hp,List.set_append_right _ _ (Nat.le_refl _)]
   simp
 |some p=>
  obtain⟨j,u⟩:=p
  rw[hl]at hgt
  rw[<-hgt]
  have hlv:=locate_val hl
  obtain⟨_,q,hq,he,hput⟩:=locate_some hl
  simp only[Nat.sub_zero]at hq hput hlv
  rw[hq]at hlv
  simp only[Option.map_some,Option.some.injEq]at hlv
  have hj:j<m.length:=(List.getElem?_eq_some_iff.1 hq).1
  have hlen:es.toList.length=m.length:=by simpa using congrArg List.length hm
  have hje:j<es.size:=by
   have h0:es.size=m.length:=by simpa using hlen
   omega
  have hkey:(es[j]).key=ek q.1:=by
   have:=congrArg (fun l=>l[j]?) hm
   simp[List.getElem?_map,hq,hje]at this
   exact this.1
  have hval:(es[j]).val=u:=by
   have:=congrArg (fun l=>l[j]?) hm
   simp[List.getElem?_map,hq,hje]at this
   rw[<-hlv]
   exact this.2
  have hborn:(es.modify j fun e=> {e with key:=ek k}).toList.map (·.born)=es.toList.map (·.born):=by
   apply List.ext_getElem?
   intro i
   simp only[List.getElem?_map,Array.getElem?_toList,Array.getElem?_modify]
   by_cases hij:j=i
   ·subst hij
    simp[hje,Array.getElem?_eq_getElem hje]
   ·simp[hij]
  refine⟨_,(es[j]).born,j,?_,?_,?_,by rw[hput];simp[hj],set_heap w b (.map (es.modify j fun e=> {e with key:=ek k}) c),by simp⟩
  ·simp[Instr.mapEntry,run_underlying T.ht,run_getObj_map hh,T.hck,h1,hl,Instr.keyThatStays,Array.getElem?_eq_getElem hje,hkey,T.hsame _ _ he,run_setObj hh,Result.andThen]
   rfl
  ·rw[Option.map_some,Option.getD_some,hput]
   refine⟨es.modify j fun e=> {e with key:=ek k},c,by simp[Array.getElem?_setIfInBounds,hlt],?_,?_,by rw[hborn];exact hn,?_⟩
   ·apply List.ext_getElem?
    intro i
    have hmi:=congrArg (fun l=>l[i]?) hm
    simp only[List.getElem?_map,Array.getElem?_toList]at hmi
    simp only[List.getElem?_map,Array.getElem?_toList,Array.getElem?_modify,List.getElem?_set]
    by_cases hij:j=i
    ·subst hij
     simp[hje,hj,Array.getElem?_eq_getElem hje,hval]
    ·simp[hij,hmi]
   ·intro e he
    have h2:e.born∈(es.modify j fun e=> {e with key:=ek k}).toList.map (·.born):=List.mem_map.2 ⟨e,he,rfl⟩
    rw[hborn]at h2
    obtain⟨e',he',hbb⟩:=List.mem_map.1 h2
    rw[<-hbb]
    exact hb e' he'
   ·simp[Array.getElem?_modify,Array.getElem?_eq_getElem hje]
  ·intro v
   rw[Option.map_some,Option.getD_some,hput,hput,List.set_set]
theorem StampAt.mapAt {w:World} {b:Nat} {K:Type} {ek:K->Value} {m:List (K×Value)} {j st:Nat} (h:StampAt w b ek m j st):MapAt w b ek (fun v:Value=>v) m:=by
 obtain⟨es,c,h1,h2,_⟩:=h
 exact⟨es,c,h1,h2⟩
theorem mem_erase5 {α:Type} {p0 p:α}: ∀ {l:List α} {i:Nat},l[i]?=some p0->p∈l->p=p0\/p∈l.eraseIdx i
 | [],_,_,h=>by cases h
 |x::l,0,h,hp=>by
  simp only[List.getElem?_cons_zero,Option.some.injEq]at h
  rcases List.mem_cons.1 hp with e|hp
  ·exact .inl (e.trans h)
  ·exact .inr hp
 |x::l,i+1,h,hp=>by
  simp only[List.getElem?_cons_succ]at h
  rw[List.eraseIdx_cons_succ]
  rcases List.mem_cons.1 hp with e|hp
  ·exact .inr (by simp[e])
  ·rcases mem_erase5 h hp with k|k
   ·exact .inl k
   ·exact .inr (by simp[k])
theorem take_snoc5 {α:Type} {l:List α} {k:Nat} (h:k<l.length):l.take (k+1)=l.take k++[l[k]]:=List.take_succ_eq_append_getElem h
theorem step_update {P:Program} {ops:Array Oper} {o:Oper} {a:Act} {w:World} {K:Act->World->Prop} {Q:Exit->Act->World->Prop} {E:Prop} {T:TypeId} (hgd:o.guard=none) (x i u:Operand) (ho:o.op= .mapUpdate T x i u) (vx vi vu:Value) (hx:a.eval x=vx) (hi:a.eval i=vi) (hu:a.eval u=vu) (w':World)
 (hrun:(Instr.mapUpdate T vx vi vu).run P w= .ok () w') (h:K (a.put o.dst undef) w'):if Region.wanted o (yielded ops a.tmps)=true then Oper.wp P o a w K Q else E:=by
 have hw:Region.wanted o (yielded ops a.tmps)=true:=by simp[Region.wanted,hgd]
 rw[if_pos hw]
 unfold Oper.wp
 simp[execOp,ho,hx,hi,hu,hrun,Result.andThen]
 exact h
def CountAt (W:World) (base b:Nat) (l:List Rec):Prop:=
 ∃mc,MapS W b ekSp (fun v:Value=>v) mc/\(∀s,(mget eqSp s mc=none/\toldS s l=[])\/ ∃k T,mget eqSp s mc=some (.map (some k))/\base<=k/\MapS W k ekS evB (outM T)/\ ∀n,n∈T↔n∈toldS s l)/\
  ∀s s' k,mget eqSp s mc=some (.map (some k))->mget eqSp s' mc=some (.map (some k))->s=s'
theorem count_new {W:World} {base b:Nat} (h:MapS W b ekSp (fun v:Value=>v) ([]:List (Spot×Value))):CountAt W base b []:=
 ⟨[],h,fun s=> .inl ⟨rfl,rfl⟩,fun s s' k h=>by cases h⟩
theorem count_look {W:World} {base b:Nat} {l:List Rec} (h:CountAt W base b l) (s:Spot): ∃v,(∀W',(∀j,j<W.heap.size->W'.heap[j]?=W.heap[j]?)->(Instr.lookup 185 (.map (some b)) (ekSp s) false).run Tryz.prog W'= .ok v W')/\
 ((v= .map none/\toldS s l=[])\/ ∃k T,v= .map (some k)/\base<=k/\MapS W k ekS evB (outM T)/\ ∀n,n∈T↔n∈toldS s l):=by
 obtain⟨mc,h1,h2,h3⟩:=h
 refine⟨(mget eqSp s mc).getD (.map none),fun W' hW=>run_lookup mapPM (h1.keep (hW b h1.at.lt)).at s,?_⟩
 rcases h2 s with⟨e,h⟩|⟨k,T,e,hb,hm,hT⟩
 ·exact .inl ⟨by rw[e];rfl,h⟩
 ·exact .inr ⟨k,T,by rw[e];rfl,hb,hm,hT⟩
end Go.Proofs.YtmaidggpbihlgaaGreatDoor
namespace Go.Proofs.YtmaidggpbihlgaaGreatDoor
open Go.RowKit
def livesP (x:Rec):Bool:=x.kind==0||x.kind==3||x.kind==4
def rAgainstP (x y:Rec):Bool:=
 if x.kind==1&&y.kind==1 then sameB x.name y.name&&x.day != y.day else
 if x.kind==1&&livesP y then sameB x.name y.name&&decide (x.day<y.day)else
 if y.kind==1&&livesP x then sameB y.name x.name&&decide (y.day<x.day)else
 if x.kind==3&&y.kind==3 then sameB x.name y.name&&sameB x.place y.place&&x.day==y.day&&(x.num != y.num||x.den != y.den)else
 if x.kind==4&&y.kind==4 then sameB x.place y.place&&!sameB x.name y.name&&decide (x.day<y.til)&&decide (y.day<x.til)else false
theorem rec_kind5 {x:Rec} (h:checkRecP x=0):x.kind=0\/x.kind=1\/x.kind=2\/x.kind=3\/x.kind=4:=by
 unfold checkRecP at h
 split at h
 ·simp at h
 ·rename_i hc
  unfold inR at hc
  simp at hc
  omega
theorem rec_til {x:Rec} (h:checkRecP x=0) (hk:x.kind=4):x.day<x.til:=by
 unfold checkRecP at h
 by_cases hc:(x.kind==4&&decide (x.til<=x.day))=true
 ·exfalso
  rw[if_pos hc]at h
  repeat(split at h;·simp at h)
  simp at h
 ·simp[hk]at hc
  exact hc
theorem sameB_sym (a b:ByteArray):sameB a b=sameB b a:=by rw[Bool.eq_iff_iff,same_iff,same_iff];exact⟨Eq.symm,Eq.symm⟩
theorem rAgainst_eq {x y:Rec} (hx:checkRecP x=0) (hy:checkRecP y=0):rAgainstP x y=againstP x y:=by
 have kx:=rec_kind5 hx
 have ky:=rec_kind5 hy
 have tx:=rec_til hx
 have ty:=rec_til hy
 have e1:=sameB_sym x.name y.name
 have e2:=sameB_sym x.place y.place
 unfold rAgainstP againstP againstQ livesP
 rcases kx with k|k|k|k|k<;>rcases ky with q|q|q|q|q<;>simp[k,q,e1,e2]
 have h1:=tx k
 have h2:=ty q
 cases sameB y.name x.name<;>cases sameB y.place x.place<;>simp
 rw[Bool.eq_iff_iff]
 simp
 omega
def fewRP (a b:Int):Bool:=isShareP 16 a b&&decide (0<a)&&decide (b<=12)
def rightRP (x:Rec):Bool:=
 if noB x.name||(!noB x.other) != (x.kind==2)||(!noB x.place) != (x.kind==3||x.kind==4)then false else
 if(x.kind==2&&x.day != 0)||(x.kind != 4&&x.til != 0)then false else
 if x.kind==3 then fewRP x.num x.den else x.num==0&&x.den==0
def rRecP (x:Rec):Int:=
 if !inR x.kind 0 4 then 15 else
 if !isDayP x.day||!isDayP x.til then 2 else
 if !nameOr x.name||!nameOr x.other||!nameOr x.place then 4 else
 if !rightRP x then 3 else
 if x.kind==4&&decide (x.til<=x.day)then 9 else 0
theorem few_eq (a b:Int):fewRP a b=!(!inR b 1 12||!inR a 1 b||Int.gcd a b != 1):=by
 unfold fewRP isShareP inR
 rw[Bool.eq_iff_iff]
 simp
 omega
theorem rRec_eq (x:Rec):rRecP x=checkRecP x:=by
 unfold rRecP checkRecP
 split
 ·rfl
 split
 ·rfl
 split
 ·rfl
 unfold rightRP
 by_cases h1:(noB x.name||(!noB x.other) != (x.kind==2)||(!noB x.place) != (x.kind==3||x.kind==4))=true
 ·simp only[h1,if_true,Bool.not_false]
 ·simp only[h1,if_false,Bool.false_eq_true]
  by_cases h2:((x.kind==2&&x.day != 0)||(x.kind != 4&&x.til != 0))=true
  ·simp only[h2,if_true,Bool.not_false,Bool.true_or]
  ·simp only[h2,if_false,Bool.false_eq_true,Bool.false_or]
   by_cases h3:x.kind=3
   ·simp only[h3,beq_self_eq_true,if_true,few_eq,Bool.not_not,bne_self_eq_false,Bool.false_and,Bool.true_and,if_false,Bool.false_eq_true]
   ·have e3:(x.kind==3)=false:=by simpa using h3
    have e4:(x.kind != 3)=true:=by simp[h3]
    simp only[e3,e4,if_false,Bool.true_and,Bool.false_and,Bool.false_eq_true]
    by_cases h4:x.num=0<;>by_cases h5:x.den=0<;>simp[h4,h5]
structure Chain (l:List Rec) (o:ByteArray) (all:List ByteArray) (k:Nat):Prop where
 nd:all.Nodup
 reach: ∀y∈all,y=o\/Relation.TransGen (Edge l) o y
 first:o∈all
 told: ∀y∈all,∃x∈l,x.other=y
 done: ∀j,j<k-> ∀(a:ByteArray),all[j]?=some a-> ∀y,Edge l a y->y∈all
structure ChainIn (l:List Rec) (o:ByteArray) (all:List ByteArray) (k n:Nat):Prop extends Chain l o all k where
 mine: ∀a,all[k]?=some a-> ∀x∈l.take n,x.kind=2->x.name=a->x.other∈all
theorem chain_start {l:List Rec} {x:Rec} (h:x∈l):Chain l x.other [x.other] 0:=
 ⟨by simp,fun y hy=> .inl (by simpa using hy),by simp,fun y hy=>⟨x,h,by simpa using(List.mem_singleton.1 hy).symm⟩,fun j hj=>absurd hj (Nat.not_lt_zero j)⟩
theorem chain_in {l:List Rec} {o:ByteArray} {all:List ByteArray} {k:Nat} (h:Chain l o all k):ChainIn l o all k 0:=⟨h,fun _ _ x hx=>by simp at hx⟩
theorem chain_next {l:List Rec} {o:ByteArray} {all:List ByteArray} {k:Nat} (h:ChainIn l o all k l.length):Chain l o all (k+1):=
 ⟨h.nd,h.reach,h.first,h.told,fun j hj a ha y hy=>by
   by_cases e:j=k
   ·subst e
    obtain⟨x,hx,h1,h2,h3⟩:=hy
    have:=h.mine a ha x (by rw[List.take_length];exact hx) h1 h2
    rw[<-h3];exact this
   ·exact h.done j (by omega) a ha y hy⟩
theorem chain_skip {l:List Rec} {o:ByteArray} {all:List ByteArray} {k n:Nat} (h:ChainIn l o all k n) (hn:n<l.length) (hs: ∀a,all[k]?=some a->l[n].kind=2->l[n].name=a->l[n].other∈all):ChainIn l o all k (n+1):=
 ⟨h.toChain,fun a ha x hx h1 h2=>by
   rw[List.take_succ_eq_append_getElem hn]at hx
   rcases List.mem_append.1 hx with hx|hx
   ·exact h.mine a ha x hx h1 h2
   ·have e:=List.mem_singleton.1 hx
    subst e
    exact hs a ha h1 h2⟩
theorem chain_add {l:List Rec} {o a:ByteArray} {all:List ByteArray} {k n:Nat} (h:ChainIn l o all k n) (hn:n<l.length) (ha:all[k]?=some a) (h1:l[n].kind=2) (h2:l[n].name=a) (h3:l[n].other∉all):ChainIn l o (all++[l[n].other]) k (n+1):=by
 have hk:k<all.length:=(List.getElem?_eq_some_iff.1 ha).1
 have hm:a∈all:=List.mem_of_getElem? ha
 have he:Edge l a l[n].other:=⟨l[n],List.getElem_mem hn,h1,h2,rfl⟩
 refine⟨⟨?_,fun y hy=> ?_,by simp[h.first],fun y hy=> ?_,fun j hj b hb y hy=> ?_⟩,fun b hb x hx k1 k2=> ?_⟩
 ·exact List.nodup_append.2 ⟨h.nd,by simp,fun p hp q hq e=>by rw[List.mem_singleton.1 hq]at e;exact h3 (e▸hp)⟩
 ·rcases List.mem_append.1 hy with hy|hy
  ·exact h.reach y hy
  ·rw[List.mem_singleton.1 hy]
   rcases h.reach a hm with e|e
   ·rw[e]at he;exact .inr (Relation.TransGen.single he)
   ·exact .inr (Relation.TransGen.tail e he)
 ·rcases List.mem_append.1 hy with hy|hy
  ·exact h.told y hy
  ·exact⟨l[n],List.getElem_mem hn,(List.mem_singleton.1 hy).symm⟩
 ·rw[List.getElem?_append_left (by omega)]at hb
  exact List.mem_append_left _ (h.done j hj b hb y hy)
 ·rw[List.getElem?_append_left hk]at hb
  rw[List.take_succ_eq_append_getElem hn]at hx
  rcases List.mem_append.1 hx with hx|hx
  ·exact List.mem_append_left _ (h.mine b hb x hx k1 k2)
  ·rw[List.mem_singleton.1 hx];simp
theorem chain_few {l:List Rec} {o:ByteArray} {all:List ByteArray} {k:Nat} (h:Chain l o all k):all.length<=l.length:=by
 haveI:DecidableEq ByteArray:=fun a b=>Classical.propDecidable _
 have:=nodup_le (b:=l.map (·.other)) h.nd (fun y hy=>by
  obtain⟨x,hx,e⟩:=h.told y hy
  exact List.mem_map.2 ⟨x,hx,e⟩)
 simpa using this
theorem chain_end {l:List Rec} {o:ByteArray} {all:List ByteArray} (h:Chain l o all all.length) (n:ByteArray):n∈all↔(o=n\/Relation.TransGen (Edge l) o n):=by
 constructor
 ·intro hn
  rcases h.reach n hn with e|e
  ·exact .inl e.symm
  ·exact .inr e
 ·intro hn
  have key: ∀ {y:ByteArray},Relation.TransGen (Edge l) o y->y∈all:=fun hy=>by
   have step: ∀a∈all,∀y,Edge l a y->y∈all:=fun a ha y hy=>by
    obtain⟨j,hj,e⟩:=List.mem_iff_getElem.1 ha
    exact h.done j hj a (by rw[List.getElem?_eq_getElem hj,e]) y hy
   induction hy with
   |single h1=>exact step o h.first _ h1
   |tail _ h1 ih=>exact step _ ih _ h1
  rcases hn with e|e
  ·rw[<-e];exact h.first
  ·exact key e
def NoRing (l:List Rec) (x:Rec):Prop:=x.kind=2-> ¬(x.other=x.name\/Relation.TransGen (Edge l) x.other x.name)
theorem no_ring_end {l:List Rec} (h: ∀x∈l,NoRing l x): ¬Circle l:=fun hc=>by
 obtain⟨x,hx,h1,h2⟩:=circle_records.1 hc
 exact h x hx h1 h2
theorem ring_found {l:List Rec} {x:Rec} {all:List ByteArray} {k:Nat} (hx:x∈l) (hk:x.kind=2) (h:Chain l x.other all k) (hn:x.name∈all):Circle l:=circle_records.2 ⟨x,hx,hk,by
 rcases h.reach _ hn with e|e
 ·exact .inl e.symm
 ·exact .inr e⟩
def SumUnit (q:Rat) (n:Nat):Prop:= ∃m:Int,0<=m/\m<=n*27720/\((m:Int):Rat)=27720*q
theorem unit_zero:SumUnit 0 0:=⟨0,Int.le_refl _,by omega,by decide+kernel⟩
theorem unit_add {q:Rat} {n:Nat} {x:Rec} (h:SumUnit q n) (hx:ShareOk x):SumUnit (q+Rat.divInt x.num x.den) (n+1):=by
 obtain⟨m,h1,h2,h3⟩:=h
 have h4:=unit_rat hx
 have h5:=unit_bd hx
 refine⟨m+unitR x,by omega,by omega,?_⟩
 rw[Rat.intCast_add]
 grind
theorem unit_keep {q:Rat} {n:Nat} (h:SumUnit q n):SumUnit q (n+1):=by
 obtain⟨m,h1,h2,h3⟩:=h
 exact⟨m,h1,by omega,h3⟩
theorem unit_small {q:Rat} {n:Nat} (h:SumUnit q n) (hn:n<=1000):q.num.natAbs<=1000000000/\q.den<=1000000000/\0<=q.num:=by
 obtain⟨m,h1,h2,h3⟩:=h
 have e:q=Rat.divInt m 27720:=by
  rw[Rat.divInt_eq_div]
  have e2:((27720:Int):Rat)=27720:=rfl
  rw[e2]
  grind
 have e1:=divInt_num (a:=m) (b:=27720) (by decide)
 have e2:=divInt_den (a:=m) (b:=27720) (by decide)
 rw[<-e]at e1 e2
 have hg:0<Int.gcd m 27720:=Nat.pos_of_ne_zero (fun e=>by have:=(Int.gcd_eq_zero_iff.1 e).2;omega)
 have a1:q.num<=m:=by rw[e1];exact Int.ediv_le_self _ h1
 have a2:0<=q.num:=by rw[e1];exact Int.ediv_nonneg h1 (by omega)
 have a3:(q.den:Int)<=27720:=by rw[e2];exact Int.ediv_le_self _ (by decide)
 exact⟨by omega,by omega,a2⟩
theorem one_lt {q:Rat}:(1:Rat)<q↔(q.den:Int)<q.num:=by
 rw[Rat.lt_iff]
 simp
end Go.Proofs.YtmaidggpbihlgaaGreatDoor
