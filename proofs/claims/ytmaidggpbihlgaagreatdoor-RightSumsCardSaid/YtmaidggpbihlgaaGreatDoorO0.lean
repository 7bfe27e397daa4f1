/- Plain law of the fewest records: all sets one after the other. -/
import Derived.Test.YtmaidggpbihlgaaGreatDoorN9
import Derived.Lib.Bytealg
import Derived.Test.YtmaidggpbihlgaaGreatDoorJS
set_option linter.unusedSimpArgs false
set_option linter.unusedVariables false
namespace Go.Proofs.YtmaidggpbihlgaaGreatDoor
open Go.RowKit
theorem GoodSt.later {s:St} {a b:Int} (h:GoodSt s a) (hab:a<=b):GoodSt s b:=
 {h with force:=fun i j gi gj hi hj hp day hd h1 h2=>h.force i j gi gj hi hj hp day (by omega) h1 h2}
theorem given_all: ∀ {l:List RPart} {out:Parts},GoodParts out->(∀p∈out,IsN 720720 p.2)->(∀p∈l,0<p.rat/\IsN 720720 p.rat)->
 GoodParts (givenAll l out)/\(∀p∈givenAll l out,IsN 720720 p.2)/\sumQ (givenAll l out)=sumQ out+sumQ (ratParts l)
 | [],out,h1,h2,_=>⟨h1,h2,by simp only[givenAll,List.foldl_nil,ratParts,List.map_nil,sumQ];grind⟩
 |p::l,out,h1,h2,h=>by
  obtain⟨p1,p2⟩:=h p (by simp)
  have ih:=given_all (l:=l) (given_good (n:=p.name) (q:=p.rat) (by grind) h1) (given_isN p2 h2) fun q hq=>h q (by simp[hq])
  have e:givenAll (p::l) out=givenAll l (givenP out p.name p.rat):=rfl
  rw[e]
  refine⟨ih.1,ih.2.1,?_⟩
  rw[ih.2.2,sum_given]
  simp only[ratParts,List.map_cons,sumQ]
  grind
theorem parts_ok {all:Bool} {frm:ByteArray} {l:List RPart} (h:partsOk true all frm l=true):(∀p∈l,0<p.rat/\IsN 720720 p.rat/\isShareP 16 p.num p.den=true)/\sumQ (ratParts l)<=1/\(all=true->sumQ (ratParts l)=1)/\ ∀p∈l,p.name≠frm:=by
 unfold partsOk at h
 simp only[if_true,Bool.and_eq_true,List.all_eq_true,Bool.not_eq_true',decide_eq_true_eq,Bool.or_eq_true,bne_iff_ne,ne_eq,beq_iff_eq]at h
 obtain⟨⟨_,hn⟩,⟨hs,hle⟩,hall⟩:=h
 refine⟨fun p hp=> ?_,hle,fun ha=> ?_,fun p hp=>same_ne.1 (hn p hp)⟩
 ·obtain⟨h1,h2⟩:=hs p hp
  have h3:=share_rat h1
  refine⟨?_,share_isN h1,h1⟩
  have hne:p.rat≠0:=by
   intro k
   apply h2
   rw[<-h3.1]
   unfold RPart.rat at k
   rw[k]
   rfl
  have hnn:0<=p.rat:=h3.2.2.1
  grind
 ·rcases hall with k|k
  ·rw[ha]at k;cases k
  ·exact k
theorem parts_will {all:Bool} {frm:ByteArray} {l:List RPart} (h:partsOk true all frm l=true):WillOk (ratParts l):=by
 obtain⟨h1,h2,_,_⟩:=parts_ok h
 refine⟨fun p hp=> ?_,fun p hp=> ?_,h2⟩
 ·obtain⟨q,hq,rfl⟩:=List.mem_map.1 hp
  exact(h1 q hq).1
 ·obtain⟨q,hq,rfl⟩:=List.mem_map.1 hp
  exact(h1 q hq).2.1
theorem grant_keeps {s s':St} {d:Deed} {last:Int} (h:GoodSt s last) (hd:OkD d) (hl:last<=d.day) (hk:d.kind=0) (ht:grantP s d=(s',0)):GoodSt s' d.day:=by
 have h:=h.later hl
 unfold grantP at ht
 split at ht
 ·simp at ht
 rename_i h1
 split at ht
 ·simp at ht
 split at ht
 ·simp at ht
 simp only[Prod.mk.injEq,and_true]at ht
 rw[<-ht]
 have hx:graveIx s d.place d.day=none:=by simpa using h1
 have hn:=graveIx_none hx
 obtain⟨hto,hpa⟩:=hd.parts (.inl hk)
 obtain⟨p1,p2,p3,_⟩:=parts_ok hpa
 obtain⟨g1,g2,g3⟩:=given_all (l:=d.to) (out:=[]) good_nil (by simp) fun p hp=>⟨(p1 p hp).1,(p1 p hp).2.1⟩
 have g4:sumQ (givenAll d.to [])=1:=by
  rw[g3,p3 (by rw[hk];rfl),sumQ]
  grind
 generalize hg:(⟨d.place,d.cls,if decide (0<d.years)=true then afterP d.day d.years else-1,givenAll d.to [],[]⟩:Grave)=g
 have hgp:g.place=d.place:=by rw[<-hg]
 have hgood:GoodG g:=by rw[<-hg];exact⟨g1,small_of (by decide) (by decide) g2, .inr g4⟩
 refine {h with graves:=fun x hx=> ?_,force:=fun i j gi gj hi hj hp day hday f1 f2=> ?_}
 ·rcases List.mem_append.1 hx with hx|hx
  ·exact h.graves x hx
  ·rw[List.mem_singleton.1 hx];exact hgood
 ·have hi:(s.graves++[g])[i]?=some gi:=hi
  have hj:(s.graves++[g])[j]?=some gj:=hj
  rw[List.getElem?_append]at hi hj
  split at hi<;>split at hj
  ·exact h.force i j gi gj hi hj hp day hday f1 f2
  ·exfalso
   have e:gj=g:=by
    rw[List.getElem?_cons]at hj
    split at hj
    ·exact(Option.some.inj hj).symm
    ·simp at hj
   have:=hn gi (List.mem_of_getElem? hi) (by rw[hp,e,hgp])
   rw[force_down hday f1]at this
   cases this
  ·exfalso
   have e:gi=g:=by
    rw[List.getElem?_cons]at hi
    split at hi
    ·exact(Option.some.inj hi).symm
    ·simp at hi
   have:=hn gj (List.mem_of_getElem? hj) (by rw[<-hp,e,hgp])
   rw[force_down hday f2]at this
   cases this
  ·have:=(List.getElem?_eq_some_iff.1 hi).1
   have:=(List.getElem?_eq_some_iff.1 hj).1
   simp at*
   omega
theorem with_keeps {s:St} {i:Nat} {g g':Grave} {day:Int} (h:GoodSt s day) (hi:s.graves[i]?=some g) (hg:GoodG g') (hp:g'.place=g.place) (hf: ∀e,day<=e->inForceP g' e=true->inForceP g e=true):GoodSt (s.withGrave i g') day:=by
 have hil:=(List.getElem?_eq_some_iff.1 hi).1
 refine {h with graves:=fun x hx=> ?_,force:=fun a b ga gb ha hb hpl e he f1 f2=> ?_}
 ·rcases List.mem_or_eq_of_mem_set hx with hx|hx
  ·exact h.graves x hx
  ·rw[hx];exact hg
 ·have ha:(s.graves.set i g')[a]?=some ga:=ha
  have hb:(s.graves.set i g')[b]?=some gb:=hb
  rw[List.getElem?_set]at ha hb
  have one: ∀(c:Nat) (gc:Grave),(if i=c then if i<s.graves.length then some g' else none else s.graves[c]?)=some gc-> ∃gc',s.graves[c]?=some gc'/\gc'.place=gc.place/\(inForceP gc e=true->inForceP gc' e=true):=by
   intro c gc hc
   by_cases hic:i=c
   ·rw[if_pos hic,if_pos hil]at hc
    cases hc
    subst hic
    exact⟨g,hi,hp.symm,hf e he⟩
   ·rw[if_neg hic]at hc
    exact⟨gc,hc,rfl,id⟩
  obtain⟨ga',a1,a2,a3⟩:=one a ga ha
  obtain⟨gb',b1,b2,b3⟩:=one b gb hb
  exact h.force a b ga' gb' a1 b1 (by rw[a2,b2,hpl]) e he (a3 f1) (b3 f2)
theorem grave_at {s:St} {i:Nat} {g:Grave} (h:s.graves[i]?=some g):s.graves.getD i zeroG=g:=by
 rw[List.getD_eq_getElem?_getD,h]
 rfl
theorem force_holders {g:Grave} {out:Parts} {died:List ByteArray} {e:Int} (hne:g.holders≠[]) (h:inForceP {g with holders:=out,died:=died} e=true):inForceP g e=true:=by
 unfold inForceP at*
 simp only[Bool.and_eq_true]at*
 refine⟨?_,h.2⟩
 cases hg:g.holders with
 |nil=>exact absurd hg hne
 |cons _ _=>rfl
theorem transfer_keeps {s s':St} {d:Deed} {last:Int} (h:GoodSt s last) (hd:OkD d) (hl:last<=d.day) (hk:d.kind=1) (ht:transferP s d=(s',0)):GoodSt s' d.day:=by
 have h:=h.later hl
 unfold transferP at ht
 split at ht
 ·simp at ht
 rename_i i hi
 obtain⟨g,g1,g2,g3⟩:=graveIx_some hi
 rw[grave_at g1]at ht
 dsimp only at ht
 split at ht
 ·simp at ht
 split at ht
 ·simp at ht
 rename_i hs
 have hs:shareP g.holders d.frm≠0:=by simpa using hs
 split at ht
 ·simp at ht
 split at ht
 ·simp at ht
 rename_i hb
 split at ht
 ·simp at ht
 rename_i out ho
 simp only[Prod.mk.injEq,and_true]at ht
 rw[<-ht]
 obtain⟨hto,hpa⟩:=hd.parts (.inr (.inl hk))
 have hw:=parts_will hpa
 have hgg:=h.graves g (List.mem_of_getElem? g1)
 exact with_keeps h g1 (transfer_good hgg hs hw.pos hw.le (by simpa using hb) ho) rfl fun e _ hf=>force_holders (died:=g.died) (share_some hs) hf
theorem surrender_keeps {s s':St} {d:Deed} {last:Int} (h:GoodSt s last) (hl:last<=d.day) (ht:surrenderP s d=(s',0)):GoodSt s' d.day:=by
 have h:=h.later hl
 unfold surrenderP at ht
 split at ht
 ·simp at ht
 rename_i i hi
 obtain⟨g,g1,g2,g3⟩:=graveIx_some hi
 rw[grave_at g1]at ht
 dsimp only at ht
 split at ht
 ·simp at ht
 rename_i hs
 have hs:shareP g.holders d.frm≠0:=by simpa using hs
 split at ht
 ·simp at ht
 rename_i hb
 simp only[Prod.mk.injEq,and_true]at ht
 rw[<-ht]
 have hgg:=h.graves g (List.mem_of_getElem? g1)
 exact with_keeps h g1 (surrender_good hgg hs (by simpa using hb)) rfl fun e _ hf=>force_holders (died:=g.died) (share_some hs) hf
theorem renew_keeps {s s':St} {d:Deed} {last:Int} (h:GoodSt s last) (hl:last<=d.day) (ht:renewP s d=(s',0)):GoodSt s' d.day:=by
 have h:=h.later hl
 unfold renewP at ht
 split at ht
 ·simp at ht
 rename_i i hi
 obtain⟨g,g1,g2,g3⟩:=graveIx_some hi
 rw[grave_at g1]at ht
 dsimp only at ht
 split at ht
 ·simp at ht
 split at ht
 ·simp at ht
 simp only[Prod.mk.injEq,and_true]at ht
 rw[<-ht]
 generalize afterP g.fin d.years=fin at*
 have hgg:=h.graves g (List.mem_of_getElem? g1)
 have hil:=(List.getElem?_eq_some_iff.1 g1).1
 refine {h with graves:=fun x hx=> ?_,force:=fun a b ga gb ha hb hpl e he f1 f2=> ?_}
 ·rcases List.mem_or_eq_of_mem_set hx with hx|hx
  ·exact h.graves x hx
  ·rw[hx];exact⟨hgg.good,hgg.small,hgg.one⟩
 ·have ha:(s.graves.set i {g with fin:=fin})[a]?=some ga:=ha
  have hb:(s.graves.set i {g with fin:=fin})[b]?=some gb:=hb
  rw[List.getElem?_set]at ha hb
  have one: ∀(c:Nat) (gc:Grave),(if i=c then if i<s.graves.length then some ({g with fin:=fin}:Grave)else none else s.graves[c]?)=some gc-> ∃gc',s.graves[c]?=some gc'/\gc'.place=gc.place/\(inForceP gc e=true->inForceP gc' d.day=true):=by
   intro c gc hc
   by_cases hic:i=c
   ·rw[if_pos hic,if_pos hil]at hc
    cases hc
    subst hic
    exact⟨g,g1,rfl,fun _=>g3⟩
   ·rw[if_neg hic]at hc
    exact⟨gc,hc,rfl,fun hf=>force_down he hf⟩
  obtain⟨ga',a1,a2,a3⟩:=one a ga ha
  obtain⟨gb',b1,b2,b3⟩:=one b gb hb
  exact h.force a b ga' gb' a1 b1 (by rw[a2,b2,hpl]) d.day (Int.le_refl _) (a3 f1) (b3 f2)
end Go.Proofs.YtmaidggpbihlgaaGreatDoor
namespace Go.Proofs.YtmaidggpbihlgaaGreatDoor
open Go.RowKit
theorem name_one {d:Deed} (h:d.to.length=1): ∃p,d.to=[p]/\toName d=p.name:=by
 match hd:d.to,h with
 | [p],_=>exact⟨p,rfl,by unfold toName;rw[hd];rfl⟩
theorem one_ne {d:Deed} (hd:OkD d) (h:d.kind=5\/d.kind=6\/d.kind=7):noB (toName d)=false/\toName d≠d.frm/\noB d.frm=false:=by
 obtain⟨h1,h2⟩:=hd.one h
 obtain⟨p,hp,hn⟩:=name_one h1
 have hnm:=hd.names p (by rw[hp];simp)
 rw[hn]
 refine⟨name_not hnm,?_,name_not (hd.frm (by omega))⟩
 unfold partsOk at h2
 simp only[Bool.and_eq_true,List.all_eq_true,Bool.not_eq_true']at h2
 exact same_ne.1 (h2.1.2 p (by rw[hp];simp))
theorem will_append (s:St) (f:ByteArray) (l:Parts) (n:ByteArray):willOf {s with wills:=s.wills++[(f,l)]} n=if sameB f n then l else willOf s n:=by
 unfold willOf
 rw[List.reverse_append,List.reverse_singleton,List.singleton_append,List.find?_cons]
 split
 ·rename_i h
  rw[if_pos h];rfl
 ·rename_i h
  rw[if_neg (by simpa using h)]
theorem will_keeps {s s':St} {d:Deed} {last:Int} (h:GoodSt s last) (hd:OkD d) (hl:last<=d.day) (hk:d.kind=4) (ht:willP s d=(s',0)):GoodSt s' d.day:=by
 have h:=h.later hl
 unfold willP at ht
 split at ht
 ·simp at ht
 simp only[Prod.mk.injEq,and_true]at ht
 rw[<-ht]
 obtain⟨hto,hpa⟩:=hd.parts (.inr (.inr hk))
 refine {h with wills:=fun n=> ?_,willNames:=fun w hw p hp=> ?_}
 ·rw[will_append]
  split
  ·exact parts_will hpa
  ·exact h.wills n
 ·rcases List.mem_append.1 hw with hw|hw
  ·exact h.willNames w hw p hp
  ·rw[List.mem_singleton.1 hw]at hp
   obtain⟨q,hq,rfl⟩:=List.mem_map.1 hp
   exact name_not (hd.names q hq)
theorem renounce_keeps {s s':St} {d:Deed} {last:Int} (h:GoodSt s last) (hl:last<=d.day) (ht:renounceP s d=(s',0)):GoodSt s' d.day:=by
 have h:=h.later hl
 unfold renounceP at ht
 split at ht
 ·simp at ht
 split at ht
 ·simp at ht
 simp only[Prod.mk.injEq,and_true]at ht
 rw[<-ht]
 exact {h with}
theorem marry_keeps {s s':St} {d:Deed} {last:Int} (h:GoodSt s last) (hd:OkD d) (hl:last<=d.day) (hk:d.kind=7) (ht:marryP s d=(s',0)):GoodSt s' d.day:=by
 have h:=h.later hl
 unfold marryP at ht
 split at ht
 ·simp at ht
 split at ht
 ·simp at ht
 simp only[Prod.mk.injEq,and_true]at ht
 rw[<-ht]
 obtain⟨h1,h2,h3⟩:=one_ne hd (.inr (.inr hk))
 refine {h with marr:=fun m hm=> ?_}
 rcases List.mem_append.1 hm with hm|hm
 ·exact h.marr m hm
 ·rw[List.mem_singleton.1 hm]
  exact⟨h2.symm,h3,h1⟩
theorem child_keeps {s s':St} {d:Deed} {last:Int} (h:GoodSt s last) (hd:OkD d) (hl:last<=d.day) (hk:d.kind=6) (ht:childP s d=(s',0)):GoodSt s' d.day:=by
 have h:=h.later hl
 unfold childP at ht
 split at ht
 ·simp at ht
 split at ht
 ·simp at ht
 split at ht
 ·simp at ht
 rename_i hn
 have hn: ¬Desc s (toName d) d.frm:=by simpa using hn
 simp only[Prod.mk.injEq,and_true]at ht
 rw[<-ht]
 obtain⟨h1,h2,h3⟩:=one_ne hd (.inr (.inl hk))
 refine {h with acyc:=acyc_append h.acyc hn h2.symm,kids:=fun c hc=> ?_}
 rcases List.mem_append.1 hc with hc|hc
 ·exact h.kids c hc
 ·rw[List.mem_singleton.1 hc]
  exact⟨h3,h1⟩
theorem laws_go: ∀ {l:List Law} {b:Option Int},lawsGo l b=0-> ∀x∈l,isShareP 16 x.num x.den=true
 |x::l,b,h,y,hy=>by
  unfold lawsGo at h
  split at h
  ·rename_i hb
   simp[h]at hb
  ·rename_i hb
   rcases List.mem_cons.1 hy with rfl|hy
   ·unfold lawErr at hb
    split at hb
    ·simp at hb
    split at hb
    ·simp at hb
    ·rename_i hq
     simpa using hq
   ·exact laws_go h y hy
theorem law_share {laws:List Law} (h:checkLawsP laws=0) (day:Int):isShareP 16 (lawOnP laws day).num (lawOnP laws day).den=true:=by
 unfold checkLawsP at h
 split at h
 ·simp at h
 unfold lawOnP
 cases hl:(laws.filter fun x=>decide (x.frm<=day)).getLast? with
 |none=>decide
 |some x=>
  have hm:=List.mem_of_getLast? hl
  exact laws_go h x (List.mem_filter.1 hm).1
theorem dies_at {s:St} {n:ByteArray} {day:Int} {heirs:Option Parts}: ∀ {l l':List Grave} {k:Nat},diesGo s n day heirs k l=some l'->l'.length=l.length/\ ∀(i:Nat) g',l'[i]?=some g'-> ∃g,l[i]?=some g/\
 (g'=g/\heldP s n day (k+i) g=false\/heldP s n day (k+i) g=true/\ ∃h out,heirs=some h/\gainGo (shareP g.holders n) h (withoutP g.holders n)=some out/\g'= {g with holders:=out,died:=g.died++[n]})
 | [],l',k,h=>by
   unfold diesGo at h
   cases h
   exact⟨rfl,fun i g' hg=>by simp at hg⟩
 |g::l,l',k,h=>by
  unfold diesGo at h
  have step: ∀ {r:List Grave} {g':Grave},diesGo s n day heirs (k+1) l=some r->l'=g'::r->(g'=g/\heldP s n day k g=false\/heldP s n day k g=true/\ ∃h out,heirs=some h/\gainGo (shareP g.holders n) h (withoutP g.holders n)=some out/\g'= {g with holders:=out,died:=g.died++[n]})->
   l'.length=(g::l).length/\ ∀(i:Nat) g',l'[i]?=some g'-> ∃x,(g::l)[i]?=some x/\(g'=x/\heldP s n day (k+i) x=false\/heldP s n day (k+i) x=true/\ ∃h out,heirs=some h/\gainGo (shareP x.holders n) h (withoutP x.holders n)=some out/\g'= {x with holders:=out,died:=x.died++[n]}):=by
   intro r g' hr he hc
   obtain⟨i1,i2⟩:=dies_at hr
   subst he
   refine⟨by simp[i1],fun i x hx=> ?_⟩
   cases i with
   |zero=>
    simp only[List.getElem?_cons_zero,Option.some.injEq]at hx
    subst hx
    exact⟨g,rfl,hc⟩
   |succ i=>
    obtain⟨y,y1,y2⟩:=i2 i x (by simpa using hx)
    exact⟨y,by simpa using y1,by rw[show k+(i+1)=k+1+i by omega];exact y2⟩
  split at h
  ·rename_i hh
   cases heirs with
   |none=>simp at h
   |some hs=>
    dsimp only at h
    rw[Option.bind_eq_some_iff]at h
    obtain⟨out,h1,h2⟩:=h
    rw[Option.map_eq_some_iff]at h2
    obtain⟨r,h3,h4⟩:=h2
    exact step h3 h4.symm (.inr ⟨hh,hs,out,rfl,h1,rfl⟩)
  ·rename_i hh
   rw[Option.map_eq_some_iff]at h
   obtain⟨r,h3,h4⟩:=h
   exact step h3 h4.symm (.inl ⟨rfl,by simpa using hh⟩)
theorem death_keeps {laws:List Law} {s s':St} {d:Deed} {last:Int} (h:GoodSt s last) (hd:OkD d) (hl:last<=d.day) (hk:d.kind=8) (hlw:checkLawsP laws=0) (ht:deathP laws s d=(s',0)):GoodSt s' d.day:=by
 have h:=h.later hl
 unfold deathP at ht
 split at ht
 ·simp at ht
 split at ht
 ·simp at ht
 rename_i gs hgs
 simp only[Prod.mk.injEq,and_true]at ht
 rw[<-ht]
 obtain⟨hlen,hat⟩:=dies_at hgs
 have one: ∀(i:Nat) g',gs[i]?=some g'-> ∃g,s.graves[i]?=some g/\GoodG g'/\g'.place=g.place/\ ∀e,inForceP g' e=true->inForceP g e=true:=by
  intro i g' hg'
  obtain⟨g,g1,g2⟩:=hat i g' hg'
  have hgg:=h.graves g (List.mem_of_getElem? g1)
  rcases g2 with⟨rfl,_⟩|⟨hh,hs,out,e1,e2,rfl⟩
  ·exact⟨g',g1,hgg,rfl,fun _=>id⟩
  ·unfold heldP at hh
   rw[Bool.and_eq_true]at hh
   have hs0:shareP g.holders d.frm≠0:=by simpa using hh.1
   obtain⟨k1,k2,k3⟩:=estate_good (h.wills d.frm) (law_share hlw d.day) e1
   exact⟨g,g1,inherit_good hgg hs0 k1 k2 e2,rfl,fun e=>force_holders (share_some hs0)⟩
 refine {h with graves:=fun x hx=> ?_,force:=fun a b ga gb ha hb hpl e he f1 f2=> ?_,dead:=fun n hn=> ?_}
 ·obtain⟨i,hi⟩:=List.mem_iff_getElem?.1 hx
  exact(one i x hi).elim fun _ hg=>hg.2.1
 ·obtain⟨ga',a1,_,a2,a3⟩:=one a ga ha
  obtain⟨gb',b1,_,b2,b3⟩:=one b gb hb
  exact h.force a b ga' gb' a1 b1 (by rw[<-a2,<-b2,hpl]) e he (a3 e f1) (b3 e f2)
 ·rcases List.mem_append.1 hn with hn|hn
  ·exact h.dead n hn
  ·rw[List.mem_singleton.1 hn]
   exact name_not (hd.frm (by omega))
theorem take_keeps {laws:List Law} {s s':St} {d:Deed} {last:Int} (h:GoodSt s last) (hd:OkD d) (hl:last<=d.day) (hlw:checkLawsP laws=0) (ht:takeD laws s d=(s',0)):GoodSt s' d.day:=by
 have hk:=hd.kind
 unfold takeD at ht
 split at ht
 ·rename_i k;exact grant_keeps h hd hl (by simpa using k) ht
 split at ht
 ·rename_i k;exact transfer_keeps h hd hl (by simpa using k) ht
 split at ht
 ·exact surrender_keeps h hl ht
 split at ht
 ·exact renew_keeps h hl ht
 split at ht
 ·rename_i k;exact will_keeps h hd hl (by simpa using k) ht
 split at ht
 ·exact renounce_keeps h hl ht
 split at ht
 ·rename_i k;exact child_keeps h hd hl (by simpa using k) ht
 split at ht
 ·rename_i k;exact marry_keeps h hd hl (by simpa using k) ht
 ·rename_i k0 k1 k2 k3 k4 k5 k6 k7
  simp only[beq_iff_eq]at k0 k1 k2 k3 k4 k5 k6 k7
  exact death_keeps h hd hl (by omega) hlw ht
end Go.Proofs.YtmaidggpbihlgaaGreatDoor
namespace Go.Proofs.YtmaidggpbihlgaaGreatDoor
open Go.RowKit
theorem share_cons (x:ByteArray×Rat) (l:Parts) (n:ByteArray):shareP (x::l) n=if sameB x.1 n then x.2 else shareP l n:=by
 unfold shareP
 rw[List.find?_cons]
 split
 ·rename_i h;rw[if_pos h];rfl
 ·rename_i h;rw[if_neg (by simpa using h)]
theorem share_given {n:ByteArray} {q:Rat}: ∀ {l:Parts},GoodParts l-> ∀m,shareP (givenP l n q) m=if sameB m n then shareP l n+q else shareP l m
 | [],_,m=>by
   unfold givenP
   split
   ·rename_i h
    have:q=0:=by simpa using h
    subst this
    split
    ·rename_i hs;rw[same_iff.1 hs];grind
    ·rfl
   ·rw[share_cons]
    by_cases hs:m=n
    ·rw[if_pos (same_iff.2 hs.symm),if_pos (same_iff.2 hs)]
     show q=shareP [] n+q
     have:shareP [] n=0:=rfl
     grind
    ·rw[if_neg (by rw[same_iff];exact fun e=>hs e.symm),if_neg (by rw[same_iff];exact hs)]
 |x::r,⟨h1,h2⟩,m=>by
  have hr:GoodParts r:=⟨(List.pairwise_cons.1 h1).2,fun p hp=>h2 p (by simp[hp])⟩
  have hx:=(List.pairwise_cons.1 h1).1
  unfold givenP
  split
  ·rename_i h
   have:q=0:=by simpa using h
   subst this
   split
   ·rename_i hs;rw[same_iff.1 hs];grind
   ·rfl
  ·split
   ·rename_i hl
    have hne:=lessN_ne hl
    have ih:=share_given (n:=n) (q:=q) hr m
    rw[share_cons,ih,share_cons,share_cons]
    by_cases hs:m=n
    ·subst hs
     rw[if_neg (by rw[same_iff];exact hne),if_pos (same_refl m),if_pos (same_refl m),if_neg (by rw[same_iff];exact hne)]
    ·rw[if_neg (c:=sameB m n=true) (by rw[same_iff];exact hs),if_neg (c:=sameB m n=true) (by rw[same_iff];exact hs)]
   ·split
    ·rename_i hs
     have e:=same_iff.1 hs
     rw[share_cons,share_cons,share_cons]
     by_cases hm:m=n
     ·subst hm
      rw[if_pos (same_refl m),if_pos (same_refl m),if_pos hs]
     ·rw[if_neg (by rw[same_iff];exact fun k=>hm k.symm),if_neg (by rw[same_iff];exact hm),if_neg (by rw[same_iff,e];exact fun k=>hm k.symm)]
    ·rename_i hl hs
     have hnx: ∀p∈x::r,p.1≠n:=by
      intro p hp e
      rcases List.mem_cons.1 hp with rfl|hp
      ·exact hs (same_iff.2 e)
      ·rcases lessN_tri x.1 n with k|k|k
       ·exact hl k
       ·exact hs (same_iff.2 k)
       ·have:=lessN_trans k (hx p hp)
        rw[e,lessN_irr]at this
        cases this
     have h0:=(share_none hnx).1
     rw[share_cons]
     by_cases hm:m=n
     ·subst hm
      rw[if_pos (same_refl m),if_pos (same_refl m),h0]
      grind
     ·rw[if_neg (by rw[same_iff];exact fun k=>hm k.symm),if_neg (by rw[same_iff];exact hm)]
theorem share_without {n m:ByteArray}: ∀ {l:Parts},shareP (withoutP l n) m=if sameB m n then 0 else shareP l m
 | []=>by
   have e:shareP (withoutP [] n) m=0:=rfl
   have e2:shareP [] m=0:=rfl
   rw[e,e2]
   split<;>rfl
 |x::r=>by
  have ih:=share_without (n:=n) (m:=m) (l:=r)
  by_cases hx:x.1=n
  ·have e:withoutP (x::r) n=withoutP r n:=by
    unfold withoutP
    rw[List.filter_cons,same_iff.2 hx]
    rfl
   rw[e,ih,share_cons]
   by_cases hm:m=n
   ·rw[if_pos (same_iff.2 hm),if_pos (same_iff.2 hm)]
   ·rw[if_neg (by rw[same_iff];exact hm),if_neg (by rw[same_iff];exact hm),if_neg (by rw[same_iff,hx];exact fun k=>hm k.symm)]
  ·have e:withoutP (x::r) n=x::withoutP r n:=by
    unfold withoutP
    rw[List.filter_cons,same_ne.2 hx]
    rfl
   rw[e,share_cons,ih,share_cons]
   by_cases hm:m=n
   ·rw[if_pos (c:=sameB m n=true) (same_iff.2 hm),if_pos (c:=sameB m n=true) (same_iff.2 hm),if_neg (by rw[same_iff,hm];exact hx)]
   ·rw[if_neg (c:=sameB m n=true) (by rw[same_iff];exact hm),if_neg (c:=sameB m n=true) (by rw[same_iff];exact hm)]
theorem share_mem {l:Parts} (h:GoodParts l) {p:ByteArray×Rat} (hp:p∈l):shareP l p.1=p.2:=by
 induction l with
 |nil=>cases hp
 |cons x r ih=>
  obtain⟨h1,h2⟩:=h
  have hr:GoodParts r:=⟨(List.pairwise_cons.1 h1).2,fun p hp=>h2 p (by simp[hp])⟩
  have hx:=(List.pairwise_cons.1 h1).1
  rw[share_cons]
  rcases List.mem_cons.1 hp with rfl|hp
  ·rw[if_pos (same_refl _)]
  ·rw[if_neg (by rw[same_iff];exact lessN_ne (hx p hp)),ih hr hp]
theorem transfer_one {g:Grave} {frm to:ByteArray} {q:Rat} {out:Parts} (hg:GoodG g) (hne:to≠frm) (hq:0<=q) (hq1:q<=1)
 (h:gainGo (shareP g.holders frm) [(to,q)] (givenP (withoutP g.holders frm) frm (shareP g.holders frm*(1-q)))=some out):
 shareP out frm=shareP g.holders frm-shareP g.holders frm*q/\shareP out to=shareP g.holders to+shareP g.holders frm*q/\ ∀m,m≠frm->m≠to->shareP out m=shareP g.holders m:=by
 have h0:=share_nonneg hg.good frm
 have hk:0<=shareP g.holders frm*(1-q):=Rat.mul_nonneg h0 (by grind)
 have hgo:=given_good (n:=frm) hk (without_good (n:=frm) hg.good)
 rw[gainGo]at h
 split at h
 ·cases h
 split at h
 ·cases h
 rw[gainGo]at h
 cases h
 have key: ∀m,shareP (givenP (givenP (withoutP g.holders frm) frm (shareP g.holders frm*(1-q))) to (shareP g.holders frm*q)) m=if sameB m to then(if sameB to frm then shareP (withoutP g.holders frm) frm+shareP g.holders frm*(1-q)else shareP (withoutP g.holders frm) to)+shareP g.holders frm*q else if sameB m frm then shareP (withoutP g.holders frm) frm+shareP g.holders frm*(1-q)else shareP (withoutP g.holders frm) m:=by
  intro m
  rw[share_given hgo,share_given (without_good hg.good),share_given (without_good hg.good)]
 have n1: ¬sameB to frm=true:=by rw[same_iff];exact hne
 have n2: ¬sameB frm to=true:=by rw[same_iff];exact fun e=>hne e.symm
 refine⟨?_,?_,fun m m1 m2=> ?_⟩
 ·rw[key,if_neg n2,if_pos (same_refl frm),share_without,if_pos (same_refl frm)]
  grind
 ·rw[key,if_pos (same_refl to),if_neg n1,share_without,if_neg n1]
 ·rw[key,if_neg (by rw[same_iff];exact m2),if_neg (by rw[same_iff];exact m1),share_without,if_neg (by rw[same_iff];exact m1)]
end Go.Proofs.YtmaidggpbihlgaaGreatDoor
namespace Go.Proofs.YtmaidggpbihlgaaGreatDoor
open Go.RowKit
theorem compareB_neg: ∀(a b:List UInt8),decide (Lib.compareBytes a b<0)=Op.bytesLess a b
 | [],[]=>by simp[Lib.compareBytes,Op.bytesLess]
 | [],_::_=>by simp[Lib.compareBytes,Op.bytesLess]
 |_::_,[]=>by simp[Lib.compareBytes,Op.bytesLess]
 |a::xs,b::ys=>by
  have ih:=compareB_neg xs ys
  unfold Lib.compareBytes Op.bytesLess
  by_cases he:a=b
  ·subst he
   simp[UInt8.lt_irrefl,ih]
  ·by_cases h1:a<b
   ·simp[h1]
   ·have h2:b<a:=(UInt8.lt_or_lt_of_ne he).resolve_left h1
    simp[h1,h2,he]
theorem compareB_zero: ∀(a b:List UInt8),(Lib.compareBytes a b==0)=(a==b)
 | [],[]=>by simp[Lib.compareBytes]
 | [],_::_=>by simp[Lib.compareBytes]
 |_::_,[]=>by simp[Lib.compareBytes]
 |a::xs,b::ys=>by
  have ih:=compareB_zero xs ys
  unfold Lib.compareBytes
  by_cases he:a=b
  ·subst he
   simpa[UInt8.lt_irrefl]using ih
  ·by_cases h1:a<b
   ·simp[h1,he]
   ·have h2:b<a:=(UInt8.lt_or_lt_of_ne he).resolve_left h1
    simp[h1,h2,he]
def cmpN (a b:ByteArray):Int:=Lib.compareBytes a.data.toList b.data.toList
theorem cmpN_neg (a b:ByteArray):decide (cmpN a b<0)=lessN a b:=by
 unfold cmpN lessN
 rw[compareB_neg,ByteArray.toList_eq,ByteArray.toList_eq]
theorem cmpN_zero (a b:ByteArray):(cmpN a b==0)=sameB a b:=by
 unfold cmpN sameB
 rw[compareB_zero,ByteArray.toList_eq,ByteArray.toList_eq]
def AscP (l:Parts):Prop:=l.Pairwise fun a b=>lessN a.1 b.1=true
theorem less_down {a b n:ByteArray} (hab:lessN a b=true) (h:lessN b n=true):lessN a n=true:=lessN_trans hab h
theorem less_up {a b n:ByteArray} (hab:lessN a b=true) (h:lessN a n=false):lessN b n=false:=by
 cases hb:lessN b n
 ·rfl
 ·rw[lessN_trans hab hb]at h;cases h
def headIs:Parts->ByteArray->Bool
 | [],_=>false
 |p::_,n=>sameB p.1 n
def setP:Parts->ByteArray->Rat->Parts
 | [],n,q=>if q==0 then[]else[(n,q)]
 |p::r,n,q=>if lessN p.1 n then p::setP r n q else if sameB p.1 n then(if q==0 then r else(n,q)::r)else if q==0 then p::r else(n,q)::p::r
theorem set_split {n:ByteArray} {q:Rat}: ∀ {A B:Parts},(∀p∈A,lessN p.1 n=true)->setP (A++B) n q=A++setP B n q
 | [],B,_=>rfl
 |a::A,B,h=>by
  rw[List.cons_append,setP,if_pos (h a (by simp)),set_split fun p hp=>h p (by simp[hp])]
  rfl
theorem less_same {a b:ByteArray} (h:lessN a b=true):sameB a b=false:=same_ne.2 (lessN_ne h)
theorem share_split {n:ByteArray}: ∀ {A B:Parts},(∀p∈A,lessN p.1 n=true)->shareP (A++B) n=shareP B n
 | [],B,_=>rfl
 |a::A,B,h=>by
  rw[List.cons_append,share_cons,less_same (h a (by simp)),if_neg (by simp),share_split fun p hp=>h p (by simp[hp])]
theorem asc_tail {A B:Parts} (h:AscP (A++B)):AscP B:=(List.pairwise_append.1 h).2.1
theorem share_no {n:ByteArray}: ∀ {B:Parts},(∀p∈B,lessN p.1 n=false)->AscP B->headIs B n=false->shareP B n=0
 | [],_,_,_=>rfl
 |b::B,h,ha,hh=>by
  have ha':=List.pairwise_cons.1 ha
  have hb:b.1≠n:=same_ne.1 hh
  have hnb:lessN n b.1=true:=by
   rcases lessN_tri b.1 n with h1|h1|h1
   ·rw[h b (by simp)]at h1;cases h1
   ·exact absurd h1 hb
   ·exact h1
  exact(share_none fun p hp=>by
   rcases List.mem_cons.1 hp with rfl|hp
   ·exact hb
   ·exact(lessN_ne (lessN_trans hnb (ha'.1 p hp))).symm).1
theorem given_split {n:ByteArray} {q:Rat}: ∀ {A B:Parts},(∀p∈A,lessN p.1 n=true)->givenP (A++B) n q=A++givenP B n q
 | [],B,_=>rfl
 |a::A,B,h=>by
  rw[List.cons_append,givenP]
  by_cases hq:q==0
  ·rw[if_pos hq]
   have:givenP B n q=B:=by
    cases B with
    |nil=>simp[givenP,hq]
    |cons b B=>simp[givenP,hq]
   rw[this];rfl
  ·rw[if_neg hq,if_pos (h a (by simp)),given_split fun p hp=>h p (by simp[hp])]
   rfl
theorem ex_split (l:Parts) (h:AscP l) (n:ByteArray): ∃A B,l=A++B/\(∀p∈A,lessN p.1 n=true)/\(∀p∈B,lessN p.1 n=false):=by
 induction l with
 |nil=>exact⟨[],[],rfl,by simp,by simp⟩
 |cons p l ih=>
  have hp:=List.pairwise_cons.1 h
  cases hl:lessN p.1 n
  ·refine⟨[],p::l,rfl,by simp,fun x hx=> ?_⟩
   rcases List.mem_cons.1 hx with rfl|hx
   ·exact hl
   ·exact less_up (hp.1 x hx) hl
  ·obtain⟨A,B,rfl,h1,h2⟩:=ih hp.2
   refine⟨p::A,B,rfl,fun x hx=> ?_,h2⟩
   rcases List.mem_cons.1 hx with rfl|hx
   ·exact hl
   ·exact h1 x hx
theorem set_given {l:Parts} (h:GoodParts l) {n:ByteArray} {q:Rat} (hq:0<=q):setP l n (shareP l n+q)=givenP l n q:=by
 obtain⟨A,B,rfl,h1,h2⟩:=ex_split l h.1 n
 rw[set_split h1,share_split h1,given_split h1]
 congr 1
 have hB:=asc_tail h.1
 cases B with
 |nil=>
  show(if(0:Rat)+q==0 then[]else[(n,0+q)])=if q==0 then[]else[(n,q)]
  rw[Rat.zero_add]
 |cons b B=>
  have hb:=h2 b (by simp)
  have hbp:0<b.2:=h.2 b (by simp)
  cases hs:sameB b.1 n
  ·have h0:shareP (b::B) n=0:=share_no h2 hB hs
   rw[h0,Rat.zero_add,setP,givenP,hb,hs]
   simp
  ·rw[share_cons,hs,if_pos rfl,setP,givenP,hb,hs]
   have hne:(b.2+q==0)=false:=by
    rw[beq_eq_false_iff_ne]
    intro e
    grind
   rw[hne]
   by_cases hz:q==0
   ·have:q=0:=by simpa using hz
    subst this
    have hbn:b.1=n:=same_iff.1 hs
    simp[Rat.add_zero,<-hbn]
   ·simp[hz]
theorem set_zero {l:Parts} (h:AscP l) (n:ByteArray):setP l n 0=withoutP l n:=by
 obtain⟨A,B,rfl,h1,h2⟩:=ex_split l h n
 rw[set_split h1]
 unfold withoutP
 rw[List.filter_append,List.filter_eq_self.2 fun p hp=>by rw[less_same (h1 p hp)];rfl]
 congr 1
 have hB:=asc_tail h
 cases B with
 |nil=>rfl
 |cons b B=>
  have hb:=h2 b (by simp)
  have hb':=List.pairwise_cons.1 hB
  rw[setP,hb]
  cases hs:sameB b.1 n
  ·have hnb:lessN n b.1=true:=by
    rcases lessN_tri b.1 n with h3|h3|h3
    ·rw[hb]at h3;cases h3
    ·exact absurd h3 (same_ne.1 hs)
    ·exact h3
   have e:(b::B).filter (fun p=>!sameB p.1 n)=b::B:=List.filter_eq_self.2 fun p hp=>by
    rcases List.mem_cons.1 hp with rfl|hp
    ·rw[hs];rfl
    ·rw[same_ne.2 (lessN_ne (lessN_trans hnb (hb'.1 p hp))).symm];rfl
   rw[e]
   simp
  ·have hbn:b.1=n:=same_iff.1 hs
   have e:(b::B).filter (fun p=>!sameB p.1 n)=B:=by
    rw[List.filter_cons,hs,if_neg (by simp)]
    exact List.filter_eq_self.2 fun p hp=>by rw[same_ne.2 (hbn▸(lessN_ne (hb'.1 p hp)).symm)];rfl
   rw[e]
   simp
theorem set_keeps {l:Parts} (h:AscP l) (n:ByteArray) (q:Rat):setP l n q=if q==0 then withoutP l n else givenP (withoutP l n) n q:=by
 by_cases hq:q==0
 ·rw[if_pos hq]
  have:q=0:=by simpa using hq
  rw[this]
  exact set_zero h n
 ·rw[if_neg hq]
  obtain⟨A,B,rfl,h1,h2⟩:=ex_split l h n
  rw[set_split h1]
  have hA:withoutP (A++B) n=A++withoutP B n:=by
   unfold withoutP
   rw[List.filter_append,List.filter_eq_self.2 fun p hp=>by rw[less_same (h1 p hp)];rfl]
  rw[hA,given_split h1]
  congr 1
  have hB:=asc_tail h
  rw[<-set_zero hB n]
  cases B with
  |nil=>simp[setP,givenP,hq]
  |cons b B=>
   have hb:=h2 b (by simp)
   have hb':=List.pairwise_cons.1 hB
   have hq2:(q==0)=false:=by simpa using hq
   have e0:setP (b::B) n 0=if sameB b.1 n then B else b::B:=by rw[setP,hb];simp
   have e1:setP (b::B) n q=if sameB b.1 n then(n,q)::B else(n,q)::b::B:=by rw[setP,hb,hq2];simp
   rw[e0,e1]
   cases hs:sameB b.1 n
   ·simp only[Bool.false_eq_true,if_false]
    rw[givenP,hq2,hb,hs]
    simp
   ·have hbn:b.1=n:=same_iff.1 hs
    simp only[if_true]
    cases B with
    |nil=>rw[givenP,hq2];simp
    |cons c B=>
     have hc:lessN n c.1=true:=hbn▸hb'.1 c (by simp)
     rw[givenP,hq2,lessN_asym hc,same_ne.2 (lessN_ne hc).symm]
     simp
theorem set_mem {n:ByteArray} {q:Rat}: ∀ {l:Parts} {p:ByteArray×Rat},p∈setP l n q->p=(n,q)\/p∈l
 | [],p,h=>by
   unfold setP at h
   split at h
   ·simp at h
   ·exact .inl (by simpa using h)
 |x::l,p,h=>by
  unfold setP at h
  split at h
  ·rcases List.mem_cons.1 h with rfl|h
   ·exact .inr (by simp)
   ·rcases set_mem h with h|h
    ·exact .inl h
    ·exact .inr (by simp[h])
  ·split at h
   ·split at h
    ·exact .inr (by simp[h])
    ·rcases List.mem_cons.1 h with rfl|h
     ·exact .inl rfl
     ·exact .inr (by simp[h])
   ·split at h
    ·exact .inr h
    ·rcases List.mem_cons.1 h with rfl|h
     ·exact .inl rfl
     ·exact .inr h
theorem set_asc {l:Parts} (h:AscP l) (n:ByteArray) (q:Rat):AscP (setP l n q):=by
 obtain⟨A,B,rfl,h1,h2⟩:=ex_split l h n
 rw[set_split h1]
 obtain⟨hA,hB,hAB⟩:=List.pairwise_append.1 h
 have hgt: ∀b∈B,sameB b.1 n=false->lessN n b.1=true:=fun b hb hs=>by
  rcases lessN_tri b.1 n with h3|h3|h3
  ·rw[h2 b hb]at h3;cases h3
  ·exact absurd h3 (same_ne.1 hs)
  ·exact h3
 cases B with
 |nil=>
  rw[setP]
  split
  ·rw[List.append_nil];exact hA
  ·exact List.pairwise_append.2 ⟨hA,List.pairwise_singleton _ _,fun a ha b hb=>by
    rw[List.mem_singleton.1 hb];exact h1 a ha⟩
 |cons b B=>
  have hb':=List.pairwise_cons.1 hB
  rw[setP,h2 b (by simp),if_neg (by simp)]
  cases hs:sameB b.1 n
  ·rw[if_neg (by simp)]
   split
   ·exact h
   ·refine List.pairwise_append.2 ⟨hA,List.pairwise_cons.2 ⟨fun x hx=> ?_,hB⟩,fun a ha x hx=> ?_⟩
    ·rcases List.mem_cons.1 hx with rfl|hx
     ·exact hgt _ (by simp) hs
     ·exact lessN_trans (hgt b (by simp) hs) (hb'.1 x hx)
    ·rcases List.mem_cons.1 hx with rfl|hx
     ·exact h1 a ha
     ·exact hAB a ha x hx
  ·have hbn:b.1=n:=same_iff.1 hs
   rw[if_pos rfl]
   split
   ·exact List.pairwise_append.2 ⟨hA,hb'.2,fun a ha x hx=>hAB a ha x (by simp[hx])⟩
   ·refine List.pairwise_append.2 ⟨hA,List.pairwise_cons.2 ⟨fun x hx=> ?_,hb'.2⟩,fun a ha x hx=> ?_⟩
    ·exact hbn▸hb'.1 x hx
    ·rcases List.mem_cons.1 hx with rfl|hx
     ·exact h1 a ha
     ·exact hAB a ha x (by simp[hx])
end Go.Proofs.YtmaidggpbihlgaaGreatDoor
namespace Go.Proofs.YtmaidggpbihlgaaGreatDoor
open Go.RowKit
theorem asc_ext: ∀ {a b:List Nat},a.Pairwise (· < ·)->b.Pairwise (· < ·)->(∀i,i∈a↔i∈b)->a=b
 | [],[],_,_,_=>rfl
 | [],y::b,_,_,h=>absurd ((h y).2 (by simp)) (by simp)
 |x::a,[],_,_,h=>absurd ((h x).1 (by simp)) (by simp)
 |x::a,y::b,ha,hb,h=>by
  have ha1:=List.pairwise_cons.1 ha
  have hb1:=List.pairwise_cons.1 hb
  have hxy:x=y:=by
   rcases List.mem_cons.1 ((h x).1 (by simp))with e|hx
   ·exact e
   ·rcases List.mem_cons.1 ((h y).2 (by simp))with e|hy
    ·exact e.symm
    ·have:=hb1.1 x hx
     have:=ha1.1 y hy
     omega
  subst hxy
  congr 1
  refine asc_ext ha1.2 hb1.2 fun i=> ?_
  constructor
  ·intro hi
   rcases List.mem_cons.1 ((h i).1 (by simp[hi]))with e|k
   ·have:=ha1.1 i hi;omega
   ·exact k
  ·intro hi
   rcases List.mem_cons.1 ((h i).2 (by simp[hi]))with e|k
   ·have:=hb1.1 i hi;omega
   ·exact k
def bitsP (n set:Nat):List Nat:=(List.range n).filter fun i=>set.testBit i
theorem bits_set (n set:Nat):SetOf n (bitsP n set):=
 ⟨List.pairwise_lt_range.sublist List.filter_sublist,fun i hi=>List.mem_range.1 (List.mem_filter.1 hi).1⟩
theorem bits_ex (f:Nat->Bool): ∀n,∃set,set<2^n/\ ∀i,i<n->set.testBit i=f i
 |0=>⟨0,by decide,fun _ h=>absurd h (Nat.not_lt_zero _)⟩
 |n+1=>by
  obtain⟨set,h1,h2⟩:=bits_ex f n
  have hp:2^(n+1)=2^n+2^n:=by rw[Nat.pow_succ];omega
  cases hf:f n with
  |false=>
   refine⟨set,by omega,fun i hi=> ?_⟩
   rcases Nat.lt_succ_iff_lt_or_eq.1 hi with hi|rfl
   ·exact h2 i hi
   ·rw[hf];exact Nat.testBit_lt_two_pow h1
  |true=>
   refine⟨2^n+set,by omega,fun i hi=> ?_⟩
   rcases Nat.lt_succ_iff_lt_or_eq.1 hi with hi|rfl
   ·rw[Nat.testBit_two_pow_add_gt hi];exact h2 i hi
   ·rw[Nat.testBit_two_pow_add_eq,Nat.testBit_lt_two_pow h1,hf];rfl
theorem bits_all {n:Nat} {t:List Nat} (h:SetOf n t): ∃set,set<2^n/\bitsP n set=t:=by
 obtain⟨set,h1,h2⟩:=bits_ex (fun i=>decide (i∈t)) n
 refine⟨set,h1,asc_ext (bits_set n _).1 h.1 fun i=> ?_⟩
 unfold bitsP
 rw[List.mem_filter,List.mem_range]
 constructor
 ·rintro⟨hi,hb⟩
  rw[h2 i hi]at hb
  simpa using hb
 ·intro hi
  have hn:=h.2 i hi
  refine⟨hn,?_⟩
  rw[h2 i hn]
  simpa using hi
noncomputable def bestStep (l:List Rec) (best:Option (List Nat)) (x:List Nat):Option (List Nat):=match best with
 |none=>if contraP (ofP l x)then some x else none
 |some b=>if decide (b.length<x.length)||(x.length==b.length&&lexB b x)then some b else if contraP (ofP l x)then some x else some b
def Best (l:List Rec) (n k:Nat):Option (List Nat)->Prop
 |none=> ∀set,set<k->contraP (ofP l (bitsP n set))=false
 |some s=>(∃set,set<k/\bitsP n set=s)/\contraP (ofP l s)=true/\ ∀set,set<k->contraP (ofP l (bitsP n set))=true->s.length<(bitsP n set).length\/(s.length=(bitsP n set).length/\lexB (bitsP n set) s=false)
theorem best_zero (l:List Rec) (n:Nat):Best l n 0 none:=fun _ h=>absurd h (Nat.not_lt_zero _)
theorem best_next {l:List Rec} {n k:Nat} {b:Option (List Nat)} (h:Best l n k b):Best l n (k+1) (bestStep l b (bitsP n k)):=by
 cases b with
 |none=>
  unfold bestStep
  dsimp only
  split
  ·rename_i hc
   refine⟨⟨k,Nat.lt_succ_self k,rfl⟩,hc,fun set hs hcs=> ?_⟩
   rcases Nat.lt_succ_iff_lt_or_eq.1 hs with hs|rfl
   ·rw[h set hs]at hcs;cases hcs
   ·exact .inr ⟨rfl,lex_irr _⟩
  ·rename_i hc
   intro set hs
   rcases Nat.lt_succ_iff_lt_or_eq.1 hs with hs|rfl
   ·exact h set hs
   ·simpa using hc
 |some s=>
  obtain⟨⟨c,hc1,hc2⟩,h2,h3⟩:=h
  unfold bestStep
  dsimp only
  split
  ·rename_i hw
   refine⟨⟨c,by omega,hc2⟩,h2,fun set hs hcs=> ?_⟩
   rcases Nat.lt_succ_iff_lt_or_eq.1 hs with hs|rfl
   ·exact h3 set hs hcs
   ·simp only[Bool.or_eq_true,decide_eq_true_eq,Bool.and_eq_true,beq_iff_eq]at hw
    rcases hw with hw|⟨hw,hl⟩
    ·exact .inl hw
    ·refine .inr ⟨hw.symm,?_⟩
     rw[<-Bool.not_eq_true]
     intro hk
     have:=lex_trans hl hk
     rw[lex_irr]at this
     cases this
  ·rename_i hw
   simp only[Bool.or_eq_true,decide_eq_true_eq,Bool.and_eq_true,beq_iff_eq,not_or,not_and,Nat.not_lt]at hw
   split
   ·rename_i hcx
    refine⟨⟨k,Nat.lt_succ_self k,rfl⟩,hcx,fun set hs hcs=> ?_⟩
    rcases Nat.lt_succ_iff_lt_or_eq.1 hs with hs|rfl
    ·rcases h3 set hs hcs with a|⟨a,a2⟩
     ·exact .inl (by omega)
     ·by_cases he:(bitsP n k).length=s.length
      ·refine .inr ⟨by omega,?_⟩
       rw[<-Bool.not_eq_true]
       intro hk
       have hns:=hw.2 he
       rcases lex_tri he with e|e|e
       ·have:=lex_trans hk e
        rw[a2]at this;cases this
       ·rw[e]at hk
        rw[a2]at hk;cases hk
       ·exact hns e
      ·exact .inl (by omega)
    ·exact .inr ⟨rfl,lex_irr _⟩
   ·rename_i hcx
    refine⟨⟨c,by omega,hc2⟩,h2,fun set hs hcs=> ?_⟩
    rcases Nat.lt_succ_iff_lt_or_eq.1 hs with hs|rfl
    ·exact h3 set hs hcs
    ·exact absurd hcs hcx
theorem best_least {l:List Rec} {b:Option (List Nat)} (h:Best l l.length (2^l.length) b):match b with
 |none=> ∀t,SetOf l.length t->contraP (ofP l t)=false
 |some s=>IsLeast l s:=by
 cases b with
 |none=>
  intro t ht
  obtain⟨set,h1,rfl⟩:=bits_all ht
  exact h set h1
 |some s=>
  obtain⟨⟨c,hc1,hc2⟩,h2,h3⟩:=h
  refine⟨by rw[<-hc2];exact bits_set _ _,h2,fun t ht hct=> ?_⟩
  obtain⟨set,h1,rfl⟩:=bits_all ht
  exact h3 set h1 hct
theorem fm_congr {α β:Type} {f g:α->Option β}: ∀ {l:List α},(∀x∈l,f x=g x)->l.filterMap f=l.filterMap g
 | [],_=>rfl
 |x::l,h=>by
  rw[List.filterMap_cons,List.filterMap_cons,h x (by simp),fm_congr (l:=l) fun y hy=>h y (by simp[hy])]
theorem of_all (l:List Rec):ofP l (List.range l.length)=l:=by
 have key: ∀(m:List Rec) (n:Nat),n<=m.length->ofP m (List.range n)=m.take n:=by
  intro m n
  induction n with
  |zero=>intro _;rfl
  |succ n ih=>
   intro h
   have h1:=ih (by omega)
   unfold ofP at h1⊢
   rw[List.range_succ,List.filterMap_append,h1,List.take_succ_eq_append_getElem (by omega)]
   congr 1
   simp[List.getElem?_eq_getElem (show n<m.length by omega)]
 rw[key l l.length (Nat.le_refl _),List.take_length]
theorem range_set (n:Nat):SetOf n (List.range n):=⟨List.pairwise_lt_range,fun _ hi=>List.mem_range.1 hi⟩
end Go.Proofs.YtmaidggpbihlgaaGreatDoor
