/- Slices that come in as data; the wrap of a row that lists variables. -/
import Derived.Test.YtmaidggpbihlgaaGreatDoorE2
import Derived.Test.YtmaidggpbihlgaaGreatDoorJQ
import Derived.Test.YtmaidggpbihlgaaGreatDoorO0
import Derived.Test.YtmaidggpbihlgaaGreatDoorJS
import Derived.Test.YtmaidggpbihlgaaGreatDoorProg
import Derived.Test.YtmaidggpbihlgaaGreatDoorChecked
import Derived.Test.YtmaidggpbihlgaaGreatDoorK0
import Derived.ProofKit
import Derived.OpenShut
import Derived.ShutString
import Derived.ChangeOld
import Derived.Deep.Slices
import Derived.Deep.Fields
import Derived.LaidMore
import Derived.Lay
import Derived.MakeChecks
import Derived.Stop.Joined
import Derived.Stop.LaidErr
import Derived.Shelf.Vars
import Derived.SizedLaws
set_option linter.unusedSimpArgs false
set_option linter.unusedVariables false
namespace Go.Proofs.YtmaidggpbihlgaaGreatDoor
open Go.RowKit
theorem sum_takeQ (l:Parts) (h: ∀p∈l,0<p.2) (k:Nat):sumQ (l.take k)<=sumQ l:=by
 induction l generalizing k with
 |nil=>simp
 |cons p l ih=>
  cases k with
  |zero=>
   have h1:0<=sumQ l:=by
    have:=ih (fun q hq=>h q (by simp[hq])) 0
    simpa[sumQ]using this
   have:=h p (by simp)
   rw[List.take_zero,sumQ,sumQ]
   grind
  |succ k=>
   have:=ih (fun q hq=>h q (by simp[hq])) k
   rw[List.take_succ_cons,sumQ,sumQ]
   grind
structure WillInv (y:(Parts×Bool)×Rat):Prop where
 flag:y.1.2=false
 bd:Bd y.1.1 (1-y.2)
 isN:IsN 720720 y.2
 nn:0<=y.2
 le:y.2<=1
 small:small5 y.2
theorem will_inv {s:St} {frm:ByteArray} {l:Parts} (hw:WillOk l) (k:Nat):WillInv (willF s frm (l.take k) ([],false) 1):=by
 have hp: ∀p∈l.take k,0<p.2:=fun p hp=>hw.pos p (List.mem_of_mem_take hp)
 have hN: ∀p∈l.take k,IsN 720720 p.2:=fun p hp=>hw.isN p (List.mem_of_mem_take hp)
 have h1:=will_same (s:=s) (frm:=frm) (rest:=1) hp hN good_nil (by simp)
 obtain⟨g1,g2,g3,g4,g5⟩:=will_go (s:=s) (frm:=frm) (out:=[]) (rest:=1) hp hN (Rat.le_trans (sum_takeQ l hw.pos k) hw.le) good_nil (by simp) (isN_one _)
 rw[h1]
 have gs:largeP (willGo s frm (l.take k) [] 1).1=false:=small_of (by decide) (by decide) g2
 have hn:=sum_nonneg (fun p hp=>by have:=g1.pos p hp;grind) (l:=(willGo s frm (l.take k) [] 1).1)
 have hs0:sumQ ([]:Parts)=0:=rfl
 rw[hs0]at g5
 have hle:(willGo s frm (l.take k) [] 1).2<=1:=by grind
 exact⟨rfl,⟨g1,gs,by grind⟩,g3,g4,hle,small_q g4 hle (isN_small (by decide) (by decide) g3)⟩
theorem filter_lt {α:Type} {p q:α->Bool}: ∀ {l:List α},(∀x∈l,p x=true->q x=true)->(∃x∈l,q x=true/\p x=false)->(l.filter p).length<(l.filter q).length
 | [],_,h=>by obtain⟨x,hx,_⟩:=h;cases hx
 |y::l,h1,h2=>by
  have hle: ∀ {l:List α},(∀x∈l,p x=true->q x=true)->(l.filter p).length<=(l.filter q).length:=by
   intro l
   induction l with
   |nil=>intro _;simp
   |cons z l ih=>
    intro h
    have:=ih (fun x hx=>h x (by simp[hx]))
    cases hp:p z
    ·cases hq:q z<;>simp[hp,hq]<;>omega
    ·have hq:=h z (by simp) hp
     simp[hp,hq]
     omega
  have hl:=hle (l:=l) (fun x hx=>h1 x (by simp[hx]))
  obtain⟨x,hx,h3,h4⟩:=h2
  rcases List.mem_cons.1 hx with rfl|hx
  ·simp[h3,h4]
   omega
  ·have:=filter_lt (l:=l) (fun x hx=>h1 x (by simp[hx])) ⟨x,hx,h3,h4⟩
   cases hp:p y
   ·cases hq:q y<;>simp[hp,hq]<;>omega
   ·have hq:=h1 y (by simp) hp
    simp[hp,hq]
    omega
open Classical in
noncomputable def edgesN (s:St) (n:ByteArray):Nat:=(s.children.filter fun e=>decide (e.1=n\/Desc s n e.1)).length
theorem edges_child {s:St} (ha: ∀a,¬Desc s a a) {n c:ByteArray} (hc:c∈childrenP s n):edgesN s c<edgesN s n:=by
 unfold edgesN
 have hd:=desc_child hc
 refine filter_lt (fun e _ h=> ?_) ⟨(n,c),mem_children.1 hc,by simp,?_⟩
 ·simp only[decide_eq_true_eq]at h⊢
  rcases h with h|h
  ·right;rw[h];exact hd
  ·right;exact desc_trans hd h
 ·simp only[decide_eq_false_iff_not,not_or]
  refine⟨fun e=> ?_,fun h=> ?_⟩
  ·have hd':Desc s n n:=by
    have:=hd
    rw[<-show n=c from e]at this
    exact this
   exact ha n hd'
  ·exact ha n (desc_trans hd h)
theorem deep_of {s:St} (ha: ∀a,¬Desc s a a): ∀(f:Nat) (n:ByteArray),edgesN s n<f->Deep s f n
 |0,_,h=>by omega
 |f+1,n,h=>fun c hc=>deep_of ha f c (by have:=edges_child ha hc;omega)
theorem deep_all {s:St} (ha: ∀a,¬Desc s a a) (n:ByteArray):Deep s (generations s) n:=deep_of ha _ n (by
 unfold generations edgesN
 exact Nat.lt_succ_of_le (List.length_filter_le _ _))
theorem part_big {q:Rat} (h0:0<q) (hb:bigQ q=false):1<=(1000000000:Rat)*q:=by
 unfold bigQ at hb
 have hd:(q.den:Int)<=1000000000:=by simpa using hb
 have hz:((q.den:Int):Rat)≠0:=ratI (by have:=q.den_pos;omega)
 have h1:q=q.num/((q.den:Int):Rat):=by rw[<-Rat.divInt_eq_div,Rat.num_divInt_den]
 have h1':q*((q.den:Int):Rat)=q.num:=by
  have:=Rat.div_mul_cancel (a:=(q.num:Rat)) hz
  rw[<-h1]at this
  exact this
 have hq:0<q.num:=by have:=(Rat.lt_iff 0 q).1 h0;simpa using this
 have h2:((1:Int):Rat)<=(q.num:Rat):=Rat.intCast_le_intCast.2 hq
 have h3:((q.den:Int):Rat)<=((1000000000:Int):Rat):=Rat.intCast_le_intCast.2 hd
 have h4:=Rat.mul_le_mul_of_nonneg_left h3 (show(0:Rat)<=q by grind)
 rw[h1']at h4
 have e1:((1:Int):Rat)=1:=rfl
 have e2:((1000000000:Int):Rat)=1000000000:=rfl
 rw[e1]at h2
 rw[e2]at h4
 grind
theorem parts_cnt: ∀ {l:Parts},(∀p∈l,0<p.2)->largeP l=false->(l.length:Rat)<=1000000000*sumQ l
 | [],_,_=>by
   have:((([]:Parts).length:Nat):Rat)=0:=rfl
   rw[this,sumQ]
   grind
 |p::l,h1,h2=>by
  unfold largeP at h2
  rw[List.any_cons,Bool.or_eq_false_iff]at h2
  have h3:=part_big (h1 p (by simp)) h2.1
  have h4:=parts_cnt (l:=l) (fun q hq=>h1 q (by simp[hq])) h2.2
  rw[List.length_cons,cast_succ,sumQ]
  grind
theorem Bd.len {out:Parts} {t:Rat} (h:Bd out t) (ht:t<=1):out.length<=1000000000:=by
 have h1:=parts_cnt h.good.pos h.small
 have h2:=h.le
 have h3:((out.length:Int):Rat)<=((1000000000:Int):Rat):=by
  have e2:((1000000000:Int):Rat)=1000000000:=rfl
  rw[e2,Rat.intCast_natCast]
  grind
 have:=Rat.intCast_le_intCast.1 h3
 omega
end Go.Proofs.YtmaidggpbihlgaaGreatDoor
namespace Go.Proofs.YtmaidggpbihlgaaGreatDoor
open Go.RowKit
theorem nodup_len {α:Type} [DecidableEq α]: ∀ {l m:List α},l.Nodup->(∀x∈l,x∈m)->l.length<=m.length
 | [],_,_,_=>Nat.zero_le _
 |x::l,m,hn,hm=>by
  rw[List.nodup_cons]at hn
  have hx:=hm x (by simp)
  have:=nodup_len (l:=l) (m:=m.erase x) hn.2 (fun y hy=>(List.mem_erase_of_ne (fun e=>hn.1 (by rw[<-e];exact hy))).2 (hm y (by simp[hy])))
  rw[List.length_erase_of_mem hx]at this
  have:=List.length_pos_of_mem hx
  simp
  omega
def NamesIn (out:Parts) (L:List ByteArray):Prop:= ∀p∈out,p.1∈L
theorem gives_names {out:Parts} {fl:Bool} {n:ByteArray} {f:Rat} {L:List ByteArray} (h:NamesIn out L) (hn:n∈L):NamesIn (givesF n f (out,fl)).1 L:=fun p hp=>by
 rcases set_mem hp with e|h'
 ·rw[e];exact hn
 ·exact h p h'
mutual
def LeavesIn (L:List ByteArray):List Tree->Prop
 | []=>True
 |t::l=>LeafIn L t/\LeavesIn L l
def LeafIn (L:List ByteArray):Tree->Prop
 | .leaf n=>n∈L
 | .node l=>LeavesIn L l
end
mutual
theorem lines_names {part:Rat} {L:List ByteArray}: ∀ {l:List Tree} {out:Parts} {fl:Bool},LeavesIn L l->NamesIn out L->NamesIn (linesF part l (out,fl)).1 L
 | [],out,fl,_,h=>by rw[linesF];exact h
 |t::l,out,fl,hl,h=>by
  rw[LeavesIn]at hl
  rw[linesF]
  exact lines_names (l:=l) (fl:=(treeF part t (out,fl)).2) hl.2 (tree_names hl.1 h)
theorem tree_names {part:Rat} {L:List ByteArray}: ∀ {t:Tree} {out:Parts} {fl:Bool},LeafIn L t->NamesIn out L->NamesIn (treeF part t (out,fl)).1 L
 | .leaf n,out,fl,hl,h=>by
   rw[LeafIn]at hl
   rw[treeF]
   exact gives_names h hl
 | .node l,out,fl,hl,h=>by
   rw[LeafIn]at hl
   rw[treeF]
   exact lines_names (l:=l) hl h
end
theorem leaves_of {L:List ByteArray}: ∀ {l:List Tree},(∀t∈l,LeafIn L t)->LeavesIn L l
 | [],_=>by rw[LeavesIn];trivial
 |t::l,h=>by
  rw[LeavesIn]
  exact⟨h t (by simp),leaves_of fun t' ht=>h t' (by simp[ht])⟩
theorem trees_leaves {s:St} {stems:Bool} {frm:ByteArray} {L:List ByteArray} (hL: ∀c∈s.children,c.2∈L): ∀(f:Nat) (n:ByteArray),LeavesIn L (treesP s stems frm f n)
 |0,_=>by rw[show treesP s stems frm 0 _=[]from rfl,LeavesIn];trivial
 |f+1,n=>by
  refine leaves_of fun t ht=> ?_
  rw[trees_succ]at ht
  obtain⟨c,hc,h1⟩:=List.mem_filterMap.1 ht
  unfold lineOf at h1
  split at h1
  ·simp only[Option.some.injEq]at h1
   rw[<-h1,LeafIn]
   exact hL (n,c) (mem_children.1 hc)
  ·split at h1
   ·simp only[Option.some.injEq]at h1
    rw[<-h1,LeafIn]
    exact trees_leaves hL f c
   ·cases h1
theorem will_names {s:St} {frm:ByteArray} {L:List ByteArray}: ∀ {l out:Parts} {fl:Bool} {rest:Rat},(∀p∈l,p.1∈L)->NamesIn out L->NamesIn (willF s frm l (out,fl) rest).1.1 L
 | [],_,_,_,_,h=>h
 |p::l,out,fl,rest,hl,h=>by
  rw[willF]
  split
  ·exact will_names (l:=l) (fun q hq=>hl q (by simp[hq])) (gives_names (fl:=fl) h (hl p (by simp)))
  ·exact will_names (l:=l) (fun q hq=>hl q (by simp[hq])) h
theorem heirs_len {s:St} {law:Law} {n:ByteArray} (hG:GoodParts (estateF s law n).1):(estateF s law n).1.length<=(willOf s n).length+s.children.length+1:=by
 let L:=((willOf s n).map (·.1))++(s.children.map (·.2))++[heirSpouse s n]
 have hL:NamesIn (estateF s law n).1 L:=by
  have h1: ∀p∈willOf s n,p.1∈L:=fun p hp=>List.mem_append_left _ (List.mem_append_left _ (List.mem_map.2 ⟨p,hp,rfl⟩))
  have h2: ∀c∈s.children,c.2∈L:=fun c hc=>List.mem_append_left _ (List.mem_append_right _ (List.mem_map.2 ⟨c,hc,rfl⟩))
  have h3:heirSpouse s n∈L:=List.mem_append_right _ (by simp)
  have h4:=will_names (s:=s) (frm:=n) (fl:=false) (rest:=1) h1 (show NamesIn [] L from fun p hp=>by cases hp)
  have h5:=trees_leaves (stems:=law.stems) (frm:=n) h2 (generations s) n
  unfold estateF
  generalize willF s n (willOf s n) ([],false) 1=y at*
  obtain⟨⟨o,f⟩,r⟩:=y
  simp only
  split
  ·exact gives_names h4 h3
  ·split
   ·unfold divideF;exact lines_names h5 h4
   ·unfold divideF
    exact lines_names (fl:=_) h5 (gives_names (fl:=f) h4 h3)
 have hn:((estateF s law n).1.map (·.1)).Nodup:=by
  rw[List.nodup_iff_pairwise_ne,List.pairwise_map]
  exact hG.asc.imp fun h=>lessN_ne h
 have:=nodup_len (m:=L) hn (fun x hx=>by
  obtain⟨p,hp,rfl⟩:=List.mem_map.1 hx
  exact hL p hp)
 simp only[L,List.length_append,List.length_map,List.length_singleton]at this
 exact this
end Go.Proofs.YtmaidggpbihlgaaGreatDoor
namespace Go.Proofs.YtmaidggpbihlgaaGreatDoor
open Go.RowKit
noncomputable def stopGo (laws:List Law) (upto:Int):List Deed->St->Nat->Int->St×Nat×Int
 | [],s,k,_=>(s,k,0)
 |d::l,s,k,last=>
  if checkDeedP d==0&&decide (upto<d.day)then(s,k+(d::l).length,0)else
  if(nextD laws s k last d).2 != 0 then(s,k,(nextD laws s k last d).2)else stopGo laws upto l (nextD laws s k last d).1 (k+1) d.day
theorem next_parts {laws:List Law} {s:St} {k:Nat} {last:Int} {d:Deed} (h:(nextD laws s k last d).2=0):checkDeedP d=0/\k<60/\last<=d.day/\nextD laws s k last d=takeD laws s d:=by
 unfold nextD at h⊢
 split at h
 ·rename_i hc
  have h:checkDeedP d=0:=h
  rw[h]at hc
  exact absurd hc (by decide)
 rename_i hc
 split at h
 ·simp at h
 rename_i hk
 split at h
 ·simp at h
 rename_i hl
 rw[if_neg hc,if_neg hk,if_neg hl]
 simp at hc hk hl
 exact⟨hc,hk,hl,rfl⟩
theorem told_stays {laws:List Law} {upto:Int}: ∀ {ds:List Deed} {s told:St} {k:Nat} {last:Int},(replayGo laws upto ds s told k last).2.2=0->upto<last->(replayGo laws upto ds s told k last).1=told
 | [],s,told,k,last,_,_=>rfl
 |d::l,s,told,k,last,h,hl=>by
  rw[replayGo]at h⊢
  split at h
  ·rename_i hc
   have h:(nextD laws s k last d).2=0:=h
   rw[h]at hc
   exact absurd hc (by decide)
  ·rename_i hc
   rw[if_neg hc]
   have hn:=next_parts (show(nextD laws s k last d).2=0 by simpa using hc)
   have hd: ¬decide (d.day<=upto)=true:=by simp;omega
   rw[if_neg hd]at h⊢
   exact told_stays h (by omega)
theorem stop_told {laws:List Law} {upto:Int}: ∀ {ds:List Deed} {s:St} {k:Nat} {last:Int},(replayGo laws upto ds s s k last).2.2=0->
 (stopGo laws upto ds s k last).1=(replayGo laws upto ds s s k last).1/\(stopGo laws upto ds s k last).2.2=0
 | [],s,k,last,_=>⟨rfl,rfl⟩
 |d::l,s,k,last,h=>by
  rw[replayGo]at h⊢
  split at h
  ·rename_i hc
   have h:(nextD laws s k last d).2=0:=h
   rw[h]at hc
   exact absurd hc (by decide)
  ·rename_i hc
   rw[if_neg hc]
   have h0:(nextD laws s k last d).2=0:=by simpa using hc
   have hn:=next_parts h0
   rw[stopGo]
   by_cases hd:d.day<=upto
   ·have e1:decide (d.day<=upto)=true:=by simpa using hd
    have e2: ¬(checkDeedP d==0&&decide (upto<d.day))=true:=by simp;omega
    rw[if_pos e1]at h⊢
    rw[if_neg e2,if_neg hc]
    exact stop_told h
   ·have e1: ¬decide (d.day<=upto)=true:=by simpa using hd
    have e2:(checkDeedP d==0&&decide (upto<d.day))=true:=by simp[hn.1];omega
    rw[if_neg e1]at h⊢
    rw[if_pos e2]
    exact⟨(told_stays h (by omega)).symm,rfl⟩
theorem stop_all {laws:List Law} {upto:Int} (hu:200000<=upto): ∀ {ds:List Deed} {s:St} {k:Nat} {last:Int},
 (stopGo laws upto ds s k last).2=(replayGo laws upto ds s s k last).2
 | [],s,k,last=>rfl
 |d::l,s,k,last=>by
  rw[stopGo,replayGo]
  have h1: ¬(checkDeedP d==0&&decide (upto<d.day))=true:=by
   intro h
   simp only[Bool.and_eq_true,beq_iff_eq,decide_eq_true_eq]at h
   have:=(deed_ok h.1).day
   omega
  rw[if_neg h1]
  split
  ·rfl
  ·rename_i hc
   have hn:=next_parts (show(nextD laws s k last d).2=0 by simpa using hc)
   have:=(deed_ok hn.1).day
   rw[if_pos (by simp;omega)]
   exact stop_all hu
theorem told_good {laws:List Law} {upto:Int} (hlw:checkLawsP laws=0): ∀ {ds:List Deed} {s:St} {k:Nat} {last:Int},GoodSt s last->last<=upto-> ∃b,b<=upto/\GoodSt (stopGo laws upto ds s k last).1 b
 | [],s,k,last,h,hl=>⟨last,hl,h⟩
 |d::l,s,k,last,h,hl=>by
  rw[stopGo]
  split
  ·exact⟨last,hl,h⟩
  ·rename_i h1
   split
   ·exact⟨last,hl,h⟩
   ·rename_i hc
    have hn:=next_parts (show(nextD laws s k last d).2=0 by simpa using hc)
    have hd:=deed_ok hn.1
    have h2:d.day<=upto:=by
     rw[hn.1]at h1
     simp at h1
     exact h1
    have ht:takeD laws s d=((nextD laws s k last d).1,0):=by
     rw[<-hn.2.2.2]
     exact Prod.ext rfl (by simpa using hc)
    exact told_good hlw (take_keeps h hd hn.2.2.1 hlw ht) h2
theorem circle_records {l:List Rec}:Circle l↔ ∃x∈l,x.kind=2/\(x.other=x.name\/Relation.TransGen (Edge l) x.other x.name):=by
 constructor
 ·rintro⟨a,ha⟩
  have key: ∀ {c:ByteArray},Relation.TransGen (Edge l) a c-> ∃x∈l,x.kind=2/\x.name=a/\(x.other=c\/Relation.TransGen (Edge l) x.other c):=by
   intro c hc
   induction hc with
   |single h=>
    obtain⟨x,hx,h1,h2,h3⟩:=h
    exact⟨x,hx,h1,h2, .inl h3⟩
   |tail _ h ih=>
    obtain⟨x,hx,h1,h2,h3⟩:=ih
    refine⟨x,hx,h1,h2, .inr ?_⟩
    rcases h3 with h3|h3
    ·rw[h3];exact Relation.TransGen.single h
    ·exact Relation.TransGen.tail h3 h
  obtain⟨x,hx,h1,h2,h3⟩:=key ha
  exact⟨x,hx,h1,by rw[h2];exact h3⟩
 ·rintro⟨x,hx,h1,h2⟩
  have he:Edge l x.name x.other:=⟨x,hx,h1,rfl,rfl⟩
  rcases h2 with h2|h2
  ·exact⟨x.name,Relation.TransGen.single (by rw[h2]at he;exact he)⟩
  ·refine⟨x.name,?_⟩
   have: ∀ {c:ByteArray},Relation.TransGen (Edge l) x.other c->Relation.TransGen (Edge l) x.name c:=by
    intro c hc
    induction hc with
    |single h=>exact Relation.TransGen.tail (Relation.TransGen.single he) h
    |tail _ h ih=>exact Relation.TransGen.tail ih h
   exact this h2
end Go.Proofs.YtmaidggpbihlgaaGreatDoor
namespace Go.Proofs.YtmaidggpbihlgaaGreatDoor
open Go.ChangeShapes Go.WideShapes Go.ChangeAt Go.RowKit Go.Deep
theorem list_of {α:Type} {Q:Nat->α->Prop}: ∀n:Nat,(∀i,i<n-> ∃x,Q i x)-> ∃l:List α,l.length=n/\ ∀(i:Nat) (x:α),l[i]?=some x->Q i x
 |0,_=>⟨[],rfl,fun i x h=>by simp at h⟩
 |n+1,h=>by
  obtain⟨l,hl,hq⟩:=list_of n (fun i hi=>h i (by omega))
  obtain⟨x,hx⟩:=h n (by omega)
  refine⟨l++[x],by simp[hl],fun i y hy=> ?_⟩
  by_cases hi:i<n
  ·rw[List.getElem?_append_left (by omega)]at hy
   exact hq i y hy
  ·by_cases he:i=n
   ·subst he
    rw[List.getElem?_append_right (by omega),hl]at hy
    simp at hy
    subst hy
    exact hx
   ·rw[List.getElem?_append_right (by omega)]at hy
    have:i-l.length≠0:=by omega
    obtain⟨m,hm⟩:=Nat.exists_eq_succ_of_ne_zero this
    rw[hm]at hy
    simp at hy
section
variable {H:Type} {enc:TypeId×Value->H} {P:Program} {w:World} {base:Nat} {spare:Nat->Bool} {held:Bool}
theorem sl_of_trod {α:Type} {f:α->List Value} {size:Nat} (hsz:0<size) (hlen: ∀x,(f x).length=size) {t e:TypeId} {fuel:Nat} {cs:List Value} {x:DataW H×List MemPlace} (ht:P.underlying t=some (.slice e)) (hC:P.cellsOf e=size)
 (helem: ∀(n:Nat) (cs:List Value) (y:DataW H×List MemPlace),DataW.trod enc P w base spare held n e cs=some y-> ∃s:α,cs=f s) (h:DataW.trod enc P w base spare held fuel t cs=some x):
 ∃(A:Option Addr) (n c:Nat) (xs:List α),cs=[.slice A n c]/\n=xs.length/\Sl w size f A xs/\xs.length<=c/\c<=maxLen:=by
 rcases open_slice ht h with⟨rfl,_⟩|⟨a,len,cap,m,n,D,Pl,rfl,_,hl,hm,hmm,_,hi⟩
 ·exact⟨none,0,0,[],rfl,rfl,Sl.nil,Nat.le_refl _,Nat.zero_le _⟩
 ·have hle:len<=m:=by rw[hmm];split<;>omega
  obtain⟨l,hll,hq⟩:=list_of (Q:=fun i (s:α)=> ∀j,j<size->w.cell? ((a.add (i*size)).add j)=(f s)[j]?) len (fun i hil=>by
   obtain⟨cs',hc,hr⟩:=hi i (by omega)
   obtain⟨s,rfl⟩:=helem _ _ _ hr
   rw[hC]at hc
   exact⟨s,(World.cells?_some hc).2.2⟩)
  refine⟨some a,len,cap,l,rfl,hll.symm,fun hp=> ?_,by omega,hm⟩
  have h0:0<l.length:=hp
  have hx:=hq 0 l[0] (List.getElem?_eq_getElem h0) 0 hsz
  have hv: ∃v,(f l[0])[0]?=some v:=⟨_,List.getElem?_eq_getElem (by rw[hlen];exact hsz)⟩
  obtain⟨v,hv⟩:=hv
  rw[hv]at hx
  have hsp:=World.cell?_spot hx
  have hbl:=World.block_lt_of_cell? _ _ hx
  obtain⟨b,off,spot⟩:=a
  have hsp':spot=none:=by simpa[Addr.add]using hsp
  subst hsp'
  refine⟨b,off,rfl,by simpa[Addr.add]using hbl,fun k y hy j u hu=> ?_⟩
  have hj:j<size:=by have:=(List.getElem?_eq_some_iff.1 hu).1;rw[hlen]at this;exact this
  have:=hq k y hy j hj
  rw[hu]at this
  rw[<-this]
  congr 1
  unfold Addr.add
  split<;>split<;>simp_all<;>omega
end
theorem returns_laid {H:Type} {enc:TypeId×Value->H} {a:Assume} {C:Checked} {os:Os} {f:FuncId} {fn:Func} {s:ChangeSpec} {conds:List PathCond} {apart fresh handsOn again:Bool} {X:World->Array Value->Prop}
 (hX: ∀(w w':World) (args:Array Value),w.heap=w'.heap->X w args->X w' args)
 (own:ownKnob C.prog.godebug=none) (started:os.Started) (noInit:C.prog.inits.idxOf? f=none) (hfn:C.prog.funcs[f]?=some fn)
 (witness: ∃(w:World) (tape:Tape) (i:Input),w.os=os/\(w.forCall tape i).Shaped C.prog/\i.vars=[]/\Input.okWide C.prog (w.forCall tape i) .any w.heap.size f i/\
   ((s.pre enc C.prog fn conds apart (w.forCall tape i).memory i.args/\X (w.forCall tape i).memory i.args)/\sizedMet enc C.prog fn (OpenSpec.ofChange s) apart (w.forCall tape i).memory i.args)/\a.holds C.prog (lone (Frame.enter C.prog f i.args .normal) [] (w.forCall tape i)))
 (contract: ∀(W:World) (base:Nat) (args:Array Value) (ds gs:List (DataW H)) (before:List MemPlace),
   (∀(j:Nat) t v,fn.params[j]?=some t->args[j]?=some v->Value.okWide C.prog W .any base t v)->
   DataW.Whole enc C.prog fn.params.toList s.vars apart W args.toList ds gs before->X W args->W.ShapedOpen C.prog->
   Calls C.prog f args W fun e W'=> ∃v,e= .returned v/\s.post enc C.prog fn apart fresh handsOn again W args v W'):
 ReturnsInHanded a C os f .any (fun w args=>(s.pre enc C.prog fn conds apart w args/\X w args)/\sizedMet enc C.prog fn (OpenSpec.ofChange s) apart w args) (s.post enc C.prog fn apart fresh handsOn again):=by
 refine returnsInHanded_of_calls own started noInit witness fun w tape i _ hsh _ hok hpre _=> ?_
 obtain⟨_,_,_,fn',hfn',_,_,_,_,hval⟩:=hok
 obtain rfl:fn'=fn:=Option.some.inj (hfn'.symm.trans hfn)
 obtain⟨⟨⟨ds,gs,before,hw,_⟩,hx⟩,_⟩:=hpre
 refine(contract (w.forCall tape i) w.heap.size i.args ds gs before hval (DataW.Whole.of_heap (w':=w.forCall tape i) (by rfl) hw) (hX _ _ _ (by rfl) hx) hsh).mono fun e W' h=> ?_
 obtain⟨v,rfl,hp⟩:=h
 exact ChangeSpec.post_blind hp
theorem own_knob:ownKnob Tryz.prog.godebug=none:=by kernel_rfl
theorem laid_out:laidOutB Tryz.prog=true:=by kernel_rfl
end Go.Proofs.YtmaidggpbihlgaaGreatDoor
