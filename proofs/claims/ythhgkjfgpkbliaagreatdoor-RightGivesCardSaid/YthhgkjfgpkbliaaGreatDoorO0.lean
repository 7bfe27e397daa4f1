import Derived.Test.YthhgkjfgpkbliaaGreatDoorN9
import Derived.StillTail
set_option linter.all false
set_option maxRecDepth 100000
set_option maxHeartbeats 4000000
namespace Go.Proofs.YthhgkjfgpkbliaaGreatDoor
section
open Go.RowKit
theorem GoodSt.later{s:St}{a b:Int}(h:GoodSt s a)(dj:a<=b):GoodSt s b:=
 {h with force:=fun i j gi gj hi hj hp day hd h1 h2=>h.force i j gi gj hi hj hp day (by omega) h1 h2}
theorem zgR:∀ {l:List RPart} {out:Parts},GoodParts out->(∀p∈out,IsN 720720 p.2)->(∀p∈l,0<p.rat/\IsN 720720 p.rat)->
 GoodParts (zbc l out)/\(∀p∈zbc l out,IsN 720720 p.2)/\sumQ (zbc l out)=sumQ out+sumQ (zat l)
 | [],out,h1,h2,_=>⟨h1,h2,by simp only[zbc,List.foldl_nil,zat,List.map_nil,sumQ];grind⟩
 |p::l,out,h1,h2,h=>by
  obtain⟨p1,p2⟩:=h p (by simp);have ih:=zgR (l:=l) (zb6 (n:=p.name) (q:=p.rat) (by grind) h1) (zdf p2 h2) fun q hq=>h q (by simp[hq])
  have e:zbc (p::l) out=zbc l (za6 out p.name p.rat):=rfl;rw[e];refine⟨ih.1,ih.2.1,?_⟩;rw[ih.2.2,zc3];simp only[zat,List.map_cons,sumQ];grind
theorem zfe{all:Bool}{frm:ByteArray}{l:List RPart}(h:zc1 true all frm l=true):(∀p∈l,0<p.rat/\IsN 720720 p.rat/\za2 16 p.num p.den=true)/\sumQ (zat l)<=1/\(all=true->sumQ (zat l)=1)/\∀p∈l,p.name≠frm:=by
 unfold zc1 at h;simp only[if_true,Bool.and_eq_true,List.all_eq_true,Bool.not_eq_true',decide_eq_true_eq,Bool.or_eq_true,bne_iff_ne,ne_eq,beq_iff_eq]at h;obtain⟨⟨_,hn⟩,⟨hs,bF⟩,aE⟩:=h;refine⟨fun p hp=>?_,bF,fun ha=>?_,fun p hp=>zb5.1 (hn p hp)⟩
 ·obtain⟨h1,h2⟩:=hs p hp;have h3:=zbo h1;refine⟨?_,zjn h1,h1⟩;have ag:p.rat≠0:=by
   intro k;apply h2;rw[<-h3.1];unfold RPart.rat at k;rw[k];rfl
  have fF:0<=p.rat:=h3.2.2.1;grind
 ·rcases aE with k|k
  ·rw[ha]at k;cases k
  ·exact k
theorem zic{all:Bool}{frm:ByteArray}{l:List RPart}(h:zc1 true all frm l=true):WillOk (zat l):=by
 obtain⟨h1,h2,_,_⟩:=zfe h;refine⟨fun p hp=>?_,fun p hp=>?_,h2⟩
 ·obtain⟨q,hq,rfl⟩:=List.mem_map.1 hp;exact(h1 q hq).1
 ·obtain⟨q,hq,rfl⟩:=List.mem_map.1 hp;exact(h1 q hq).2.1
theorem zkz{s s':St}{d:Deed}{last:Int}(h:GoodSt s last)(hd:OkD d)(hl:last<=d.day)(hk:d.kind=0)(ht:zdb s d=(s',0)):GoodSt s' d.day:=by
 have h:=h.later hl;unfold zdb at ht;split at ht
 ·simp at ht
 rename_i h1
 split at ht
 ·simp at ht
 split at ht
 ·simp at ht
 simp only[Prod.mk.injEq,and_true]at ht;rw[<-ht];have hx:zaH s d.place d.day=none:=by simpa using h1
 have hn:=zgb hx;obtain⟨tq,qZ⟩:=hd.parts (.inl hk);obtain⟨p1,p2,p3,_⟩:=zfe qZ;obtain⟨g1,g2,g3⟩:=zgR (l:=d.to) (out:=[]) zcU (by simp) fun p hp=>⟨(p1 p hp).1,(p1 p hp).2.1⟩
 have g4:sumQ (zbc d.to [])=1:=by
  rw[g3,p3 (by rw[hk];rfl),sumQ];grind
 generalize hg:(⟨d.place,d.cls,if decide (0<d.years)=true then zc9 d.day d.years else-1,zbc d.to [],[]⟩:Grave)=g;have qq:g.place=d.place:=by rw[<-hg]
 have qp:GoodG g:=by rw[<-hg];exact⟨g1,zcI (by decide) (by decide) g2,.inr g4⟩
 refine {h with graves:=fun x hx=>?_,force:=fun i j gi gj hi hj hp day cG f1 f2=>?_}
 ·rcases List.mem_append.1 hx with hx|hx
  ·exact h.graves x hx
  ·rw[List.mem_singleton.1 hx];exact qp
 ·have hi:(s.graves++[g])[i]?=some gi:=hi;have hj:(s.graves++[g])[j]?=some gj:=hj;rw[List.getElem?_append]at hi hj;split at hi<;>split at hj
  ·exact h.force i j gi gj hi hj hp day cG f1 f2
  ·exfalso
   have e:gj=g:=by
    rw[List.getElem?_cons]at hj;split at hj
    ·exact(Option.some.inj hj).symm
    ·simp at hj
   have:=hn gi (List.mem_of_getElem? hi) (by rw[hp,e,qq]);rw[zfE cG f1]at this;cases this
  ·exfalso
   have e:gi=g:=by
    rw[List.getElem?_cons]at hi;split at hi
    ·exact(Option.some.inj hi).symm
    ·simp at hi
   have:=hn gj (List.mem_of_getElem? hj) (by rw[<-hp,e,qq]);rw[zfE cG f2]at this;cases this
  ·have:=(List.getElem?_eq_some_iff.1 hi).1;have:=(List.getElem?_eq_some_iff.1 hj).1;simp at*;omega
theorem zid{s:St}{i:Nat}{g g':Grave}{day:Int}(h:GoodSt s day)(hi:s.graves[i]?=some g)(hg:GoodG g')(hp:g'.place=g.place)(hf:∀e,day<=e->zaE g' e=true->zaE g e=true):GoodSt (s.withGrave i g') day:=by
 have fT:=(List.getElem?_eq_some_iff.1 hi).1;refine {h with graves:=fun x hx=>?_,force:=fun a b ga gb ha hb gR e he f1 f2=>?_}
 ·rcases List.mem_or_eq_of_mem_set hx with hx|hx
  ·exact h.graves x hx
  ·rw[hx];exact hg
 ·have ha:(s.graves.set i g')[a]?=some ga:=ha;have hb:(s.graves.set i g')[b]?=some gb:=hb;rw[List.getElem?_set]at ha hb;have one:∀(c:Nat) (gc:Grave),(if i=c then if i<s.graves.length then some g' else none else s.graves[c]?)=some gc->∃gc',s.graves[c]?=some gc'/\gc'.place=gc.place/\(zaE gc e=true->zaE gc' e=true):=by
   intro c gc hc;by_cases hic:i=c
   ·rw[if_pos hic,if_pos fT]at hc;cases hc;subst hic;exact⟨g,hi,hp.symm,hf e he⟩
   ·rw[if_neg hic]at hc;exact⟨gc,hc,rfl,id⟩
  obtain⟨ga',a1,a2,a3⟩:=one a ga ha;obtain⟨gb',b1,b2,b3⟩:=one b gb hb;exact h.force a b ga' gb' a1 b1 (by rw[a2,b2,gR]) e he (a3 f1) (b3 f2)
theorem zey{s:St}{i:Nat}{g:Grave}(h:s.graves[i]?=some g):s.graves.getD i ze6=g:=by
 rw[List.getD_eq_getElem?_getD,h];rfl
theorem zdI{g:Grave}{out:Parts}{died:List ByteArray}{e:Int}(ag:g.holders≠[])(h:zaE {g with holders:=out,died:=died} e=true):zaE g e=true:=by
 unfold zaE at*;simp only[Bool.and_eq_true]at*;refine⟨?_,h.2⟩;cases hg:g.holders with
 |nil=>exact absurd hg ag
 |cons _ _=>rfl
theorem zhH{s s':St}{d:Deed}{last:Int}(h:GoodSt s last)(hd:OkD d)(hl:last<=d.day)(hk:d.kind=1)(ht:zbj s d=(s',0)):GoodSt s' d.day:=by
 have h:=h.later hl;unfold zbj at ht;split at ht
 ·simp at ht
 rename_i i hi
 obtain⟨g,g1,g2,g3⟩:=zbv hi;rw[zey g1]at ht;dsimp only at ht;split at ht
 ·simp at ht
 split at ht
 ·simp at ht
 rename_i hs
 have hs:zab g.holders d.frm≠0:=by simpa using hs
 split at ht
 ·simp at ht
 split at ht
 ·simp at ht
 rename_i hb
 split at ht
 ·simp at ht
 rename_i out ho
 simp only[Prod.mk.injEq,and_true]at ht;rw[<-ht];obtain⟨tq,qZ⟩:=hd.parts (.inr (.inl hk));have hw:=zic qZ;have be:=h.graves g (List.mem_of_getElem? g1);exact zid h g1 (zi5 be hs hw.pos hw.le (by simpa using hb) ho) rfl fun e _ hf=>zdI (died:=g.died) (zcD hs) hf
theorem zgS{s s':St}{d:Deed}{last:Int}(h:GoodSt s last)(hl:last<=d.day)(ht:zaY s d=(s',0)):GoodSt s' d.day:=by
 have h:=h.later hl;unfold zaY at ht;split at ht
 ·simp at ht
 rename_i i hi
 obtain⟨g,g1,g2,g3⟩:=zbv hi;rw[zey g1]at ht;dsimp only at ht;split at ht
 ·simp at ht
 rename_i hs
 have hs:zab g.holders d.frm≠0:=by simpa using hs
 split at ht
 ·simp at ht
 rename_i hb
 simp only[Prod.mk.injEq,and_true]at ht;rw[<-ht];have be:=h.graves g (List.mem_of_getElem? g1);exact zid h g1 (zhG be hs (by simpa using hb)) rfl fun e _ hf=>zdI (died:=g.died) (zcD hs) hf
theorem zk0{s s':St}{d:Deed}{last:Int}(h:GoodSt s last)(hl:last<=d.day)(ht:zdm s d=(s',0)):GoodSt s' d.day:=by
 have h:=h.later hl;unfold zdm at ht;split at ht
 ·simp at ht
 rename_i i hi
 obtain⟨g,g1,g2,g3⟩:=zbv hi;rw[zey g1]at ht;dsimp only at ht;split at ht
 ·simp at ht
 split at ht
 ·simp at ht
 simp only[Prod.mk.injEq,and_true]at ht;rw[<-ht];generalize zc9 g.fin d.years=fin at*;have be:=h.graves g (List.mem_of_getElem? g1);have fT:=(List.getElem?_eq_some_iff.1 g1).1;refine {h with graves:=fun x hx=>?_,force:=fun a b ga gb ha hb gR e he f1 f2=>?_}
 ·rcases List.mem_or_eq_of_mem_set hx with hx|hx
  ·exact h.graves x hx
  ·rw[hx];exact⟨be.good,be.small,be.one⟩
 ·have ha:(s.graves.set i {g with fin:=fin})[a]?=some ga:=ha;have hb:(s.graves.set i {g with fin:=fin})[b]?=some gb:=hb;rw[List.getElem?_set]at ha hb;have one:∀(c:Nat) (gc:Grave),(if i=c then if i<s.graves.length then some ({g with fin:=fin}:Grave)else none else s.graves[c]?)=some gc->∃gc',s.graves[c]?=some gc'/\gc'.place=gc.place/\(zaE gc e=true->zaE gc' d.day=true):=by
   intro c gc hc;by_cases hic:i=c
   ·rw[if_pos hic,if_pos fT]at hc;cases hc;subst hic;exact⟨g,g1,rfl,fun _=>g3⟩
   ·rw[if_neg hic]at hc;exact⟨gc,hc,rfl,fun hf=>zfE he hf⟩
  obtain⟨ga',a1,a2,a3⟩:=one a ga ha;obtain⟨gb',b1,b2,b3⟩:=one b gb hb;exact h.force a b ga' gb' a1 b1 (by rw[a2,b2,gR]) d.day (Int.le_refl _) (a3 f1) (b3 f2)
theorem name_one{d:Deed}(h:d.to.length=1):∃p,d.to=[p]/\zbO d=p.name:=by
 match hd:d.to,h with
 | [p],_=>exact⟨p,rfl,by unfold zbO;rw[hd];rfl⟩
theorem one_ne{d:Deed}(hd:OkD d)(h:d.kind=5\/d.kind=6\/d.kind=7):noB (zbO d)=false/\zbO d≠d.frm/\noB d.frm=false:=by
 obtain⟨h1,h2⟩:=hd.one h;obtain⟨p,hp,hn⟩:=name_one h1;have qU:=hd.names p (by rw[hp];simp);rw[hn];refine⟨zfd qU,?_,zfd (hd.frm (by omega))⟩;unfold zc1 at h2;simp only[Bool.and_eq_true,List.all_eq_true,Bool.not_eq_true']at h2;exact zb5.1 (h2.1.2 p (by rw[hp];simp))
theorem zeI(s:St)(f:ByteArray)(l:Parts)(n:ByteArray):zbp {s with wills:=s.wills++[(f,l)]} n=if zag f n then l else zbp s n:=by
 unfold zbp;rw[List.reverse_append,List.reverse_singleton,List.singleton_append,List.find?_cons];split
 ·rename_i h
  rw[if_pos h];rfl
 ·rename_i h
  rw[if_neg (by simpa using h)]
theorem zmi{s s':St}{d:Deed}{last:Int}(h:GoodSt s last)(hd:OkD d)(hl:last<=d.day)(hk:d.kind=4)(ht:zgF s d=(s',0)):GoodSt s' d.day:=by
 have h:=h.later hl;unfold zgF at ht;split at ht
 ·simp at ht
 simp only[Prod.mk.injEq,and_true]at ht;rw[<-ht];obtain⟨tq,qZ⟩:=hd.parts (.inr (.inr hk));refine {h with wills:=fun n=>?_,willNames:=fun w hw p hp=>?_}
 ·rw[zeI];split
  ·exact zic qZ
  ·exact h.wills n
 ·rcases List.mem_append.1 hw with hw|hw
  ·exact h.willNames w hw p hp
  ·rw[List.mem_singleton.1 hw]at hp;obtain⟨q,hq,rfl⟩:=List.mem_map.1 hp;exact zfd (hd.names q hq)
theorem zhI{s s':St}{d:Deed}{last:Int}(h:GoodSt s last)(hl:last<=d.day)(ht:zbP s d=(s',0)):GoodSt s' d.day:=by
 have h:=h.later hl;unfold zbP at ht;split at ht
 ·simp at ht
 split at ht
 ·simp at ht
 simp only[Prod.mk.injEq,and_true]at ht;rw[<-ht];exact {h with}
theorem zk1{s s':St}{d:Deed}{last:Int}(h:GoodSt s last)(hd:OkD d)(hl:last<=d.day)(hk:d.kind=7)(ht:zdU s d=(s',0)):GoodSt s' d.day:=by
 have h:=h.later hl;unfold zdU at ht;split at ht
 ·simp at ht
 split at ht
 ·simp at ht
 simp only[Prod.mk.injEq,and_true]at ht;rw[<-ht];obtain⟨h1,h2,h3⟩:=one_ne hd (.inr (.inr hk));refine {h with marr:=fun m hm=>?_};rcases List.mem_append.1 hm with hm|hm
 ·exact h.marr m hm
 ·rw[List.mem_singleton.1 hm];exact⟨h2.symm,h3,h1⟩
theorem zk2{s s':St}{d:Deed}{last:Int}(h:GoodSt s last)(hd:OkD d)(hl:last<=d.day)(hk:d.kind=6)(ht:zcS s d=(s',0)):GoodSt s' d.day:=by
 have h:=h.later hl;unfold zcS at ht;split at ht
 ·simp at ht
 split at ht
 ·simp at ht
 split at ht
 ·simp at ht
 rename_i hn
 have hn:¬Desc s (zbO d) d.frm:=by simpa using hn
 simp only[Prod.mk.injEq,and_true]at ht;rw[<-ht];obtain⟨h1,h2,h3⟩:=one_ne hd (.inr (.inl hk));refine {h with acyc:=zky h.acyc hn h2.symm,kids:=fun c hc=>?_};rcases List.mem_append.1 hc with hc|hc
 ·exact h.kids c hc
 ·rw[List.mem_singleton.1 hc];exact⟨h3,h1⟩
theorem laws_go:∀ {l:List Law} {b:Option Int},zfY l b=0->∀x∈l,za2 16 x.num x.den=true
 |x::l,b,h,y,hy=>by
  unfold zfY at h;split at h
  ·rename_i hb
   simp[h]at hb
  ·rename_i hb
   rcases List.mem_cons.1 hy with rfl|hy
   ·unfold zgE at hb;split at hb
    ·simp at hb
    split at hb
    ·simp at hb
    ·rename_i hq
     simpa using hq
   ·exact laws_go h y hy
theorem zgT{laws:List Law}(h:za7 laws=0)(day:Int):za2 16 (zb3 laws day).num (zb3 laws day).den=true:=by
 unfold za7 at h;split at h
 ·simp at h
 unfold zb3;cases hl:(laws.filter fun x=>decide (x.frm<=day)).getLast? with
 |none=>decide
 |some x=>
  have hm:=List.mem_of_getLast? hl;exact laws_go h x (List.mem_filter.1 hm).1
theorem zk3{s:St}{n:ByteArray}{day:Int}{aI:Option Parts}:∀ {l l':List Grave} {k:Nat},zcm s n day aI k l=some l'->l'.length=l.length/\∀(i:Nat) g',l'[i]?=some g'->∃g,l[i]?=some g/\
 (g'=g/\zfA s n day (k+i) g=false\/zfA s n day (k+i) g=true/\∃h out,aI=some h/\zbI (zab g.holders n) h (zaj g.holders n)=some out/\g'= {g with holders:=out,died:=g.died++[n]})
 | [],l',k,h=>by
   unfold zcm at h;cases h;exact⟨rfl,fun i g' hg=>by simp at hg⟩
 |g::l,l',k,h=>by
  unfold zcm at h;have step:∀ {r:List Grave} {g':Grave},zcm s n day aI (k+1) l=some r->l'=g'::r->(g'=g/\zfA s n day k g=false\/zfA s n day k g=true/\∃h out,aI=some h/\zbI (zab g.holders n) h (zaj g.holders n)=some out/\g'= {g with holders:=out,died:=g.died++[n]})->
   l'.length=(g::l).length/\∀(i:Nat) g',l'[i]?=some g'->∃x,(g::l)[i]?=some x/\(g'=x/\zfA s n day (k+i) x=false\/zfA s n day (k+i) x=true/\∃h out,aI=some h/\zbI (zab x.holders n) h (zaj x.holders n)=some out/\g'= {x with holders:=out,died:=x.died++[n]}):=by
   intro r g' hr he hc;obtain⟨i1,i2⟩:=zk3 hr;subst he;refine⟨by simp[i1],fun i x hx=>?_⟩;cases i with
   |zero=>
    simp only[List.getElem?_cons_zero,Option.some.injEq]at hx;subst hx;exact⟨g,rfl,hc⟩
   |succ i=>
    obtain⟨y,y1,y2⟩:=i2 i x (by simpa using hx);exact⟨y,by simpa using y1,by rw[show k+(i+1)=k+1+i by omega];exact y2⟩
  split at h
  ·rename_i hh
   cases aI with
   |none=>simp at h
   |some hs=>
    dsimp only at h;rw[Option.bind_eq_some_iff]at h;obtain⟨out,h1,h2⟩:=h;rw[Option.map_eq_some_iff]at h2;obtain⟨r,h3,h4⟩:=h2;exact step h3 h4.symm (.inr ⟨hh,hs,out,rfl,h1,rfl⟩)
  ·rename_i hh
   rw[Option.map_eq_some_iff]at h;obtain⟨r,h3,h4⟩:=h;exact step h3 h4.symm (.inl ⟨rfl,by simpa using hh⟩)
theorem zk4{laws:List Law}{s s':St}{d:Deed}{last:Int}(h:GoodSt s last)(hd:OkD d)(hl:last<=d.day)(hk:d.kind=8)(aG:za7 laws=0)(ht:zd2 laws s d=(s',0)):GoodSt s' d.day:=by
 have h:=h.later hl;unfold zd2 at ht;split at ht
 ·simp at ht
 split at ht
 ·simp at ht
 rename_i gs aw
 simp only[Prod.mk.injEq,and_true]at ht;rw[<-ht];obtain⟨af,mi⟩:=zk3 aw;have one:∀(i:Nat) g',gs[i]?=some g'->∃g,s.graves[i]?=some g/\GoodG g'/\g'.place=g.place/\∀e,zaE g' e=true->zaE g e=true:=by
  intro i g' cx;obtain⟨g,g1,g2⟩:=mi i g' cx;have be:=h.graves g (List.mem_of_getElem? g1);rcases g2 with⟨rfl,_⟩|⟨hh,hs,out,e1,e2,rfl⟩
  ·exact⟨g',g1,be,rfl,fun _=>id⟩
  ·unfold zfA at hh;rw[Bool.and_eq_true]at hh;have eF:zab g.holders d.frm≠0:=by simpa using hh.1
   obtain⟨k1,k2,k3⟩:=zeH (h.wills d.frm) (zgT aG d.day) e1;exact⟨g,g1,zjo be eF k1 k2 e2,rfl,fun e=>zdI (zcD eF)⟩
 refine {h with graves:=fun x hx=>?_,force:=fun a b ga gb ha hb gR e he f1 f2=>?_,dead:=fun n hn=>?_}
 ·obtain⟨i,hi⟩:=List.mem_iff_getElem?.1 hx;exact(one i x hi).elim fun _ hg=>hg.2.1
 ·obtain⟨ga',a1,_,a2,a3⟩:=one a ga ha;obtain⟨gb',b1,_,b2,b3⟩:=one b gb hb;exact h.force a b ga' gb' a1 b1 (by rw[<-a2,<-b2,gR]) e he (a3 e f1) (b3 e f2)
 ·rcases List.mem_append.1 hn with hn|hn
  ·exact h.dead n hn
  ·rw[List.mem_singleton.1 hn];exact zfd (hd.frm (by omega))
theorem zfF{laws:List Law}{s s':St}{d:Deed}{last:Int}(h:GoodSt s last)(hd:OkD d)(hl:last<=d.day)(aG:za7 laws=0)(ht:zaZ laws s d=(s',0)):GoodSt s' d.day:=by
 have hk:=hd.kind;unfold zaZ at ht;split at ht
 ·rename_i k;exact zkz h hd hl (by simpa using k) ht
 split at ht
 ·rename_i k;exact zhH h hd hl (by simpa using k) ht
 split at ht
 ·exact zgS h hl ht
 split at ht
 ·exact zk0 h hl ht
 split at ht
 ·rename_i k;exact zmi h hd hl (by simpa using k) ht
 split at ht
 ·exact zhI h hl ht
 split at ht
 ·rename_i k;exact zk2 h hd hl (by simpa using k) ht
 split at ht
 ·rename_i k;exact zk1 h hd hl (by simpa using k) ht
 ·rename_i k0 k1 k2 k3 k4 k5 k6 k7
  simp only[beq_iff_eq]at k0 k1 k2 k3 k4 k5 k6 k7;exact zk4 h hd hl (by omega) aG ht
theorem zaT(x:ByteArray×Rat)(l:Parts)(n:ByteArray):zab (x::l) n=if zag x.1 n then x.2 else zab l n:=by
 unfold zab;rw[List.find?_cons];split
 ·rename_i h;rw[if_pos h];rfl
 ·rename_i h;rw[if_neg (by simpa using h)]
theorem zdg{n:ByteArray}{q:Rat}:∀ {l:Parts},GoodParts l->∀m,zab (za6 l n q) m=if zag m n then zab l n+q else zab l m
 | [],_,m=>by
   unfold za6;split
   ·rename_i h
    have:q=0:=by simpa using h
    subst this;split
    ·rename_i hs;rw[zak.1 hs];grind
    ·rfl
   ·rw[zaT];by_cases hs:m=n
    ·rw[if_pos (zak.2 hs.symm),if_pos (zak.2 hs)];show q=zab [] n+q;have:zab [] n=0:=rfl;grind
    ·rw[if_neg (by rw[zak];exact fun e=>hs e.symm),if_neg (by rw[zak];exact hs)]
 |x::r,⟨h1,h2⟩,m=>by
  have hr:GoodParts r:=⟨(List.pairwise_cons.1 h1).2,fun p hp=>h2 p (by simp[hp])⟩
  have hx:=(List.pairwise_cons.1 h1).1;unfold za6;split
  ·rename_i h
   have:q=0:=by simpa using h
   subst this;split
   ·rename_i hs;rw[zak.1 hs];grind
   ·rfl
  ·split
   ·rename_i hl
    have ag:=zcp hl;have ih:=zdg (n:=n) (q:=q) hr m;rw[zaT,ih,zaT,zaT];by_cases hs:m=n
    ·subst hs;rw[if_neg (by rw[zak];exact ag),if_pos (zbk m),if_pos (zbk m),if_neg (by rw[zak];exact ag)]
    ·rw[if_neg (c:=zag m n=true) (by rw[zak];exact hs),if_neg (c:=zag m n=true) (by rw[zak];exact hs)]
   ·split
    ·rename_i hs
     have e:=zak.1 hs;rw[zaT,zaT,zaT];by_cases hm:m=n
     ·subst hm;rw[if_pos (zbk m),if_pos (zbk m),if_pos hs]
     ·rw[if_neg (by rw[zak];exact fun k=>hm k.symm),if_neg (by rw[zak];exact hm),if_neg (by rw[zak,e];exact fun k=>hm k.symm)]
    ·rename_i hl hs
     have eB:∀p∈x::r,p.1≠n:=by
      intro p hp e;rcases List.mem_cons.1 hp with rfl|hp
      ·exact hs (zak.2 e)
      ·rcases zde x.1 n with k|k|k
       ·exact hl k
       ·exact hs (zak.2 k)
       ·have:=zbx k (hx p hp);rw[e,zeb]at this;cases this
     have h0:=(zcw eB).1;rw[zaT];by_cases hm:m=n
     ·subst hm;rw[if_pos (zbk m),if_pos (zbk m),h0];grind
     ·rw[if_neg (by rw[zak];exact fun k=>hm k.symm),if_neg (by rw[zak];exact hm)]
theorem zbK{n m:ByteArray}:∀ {l:Parts},zab (zaj l n) m=if zag m n then 0 else zab l m
 | []=>by
   have e:zab (zaj [] n) m=0:=rfl;have e2:zab [] m=0:=rfl;rw[e,e2];split<;>rfl
 |x::r=>by
  have ih:=zbK (n:=n) (m:=m) (l:=r);by_cases hx:x.1=n
  ·have e:zaj (x::r) n=zaj r n:=by
    unfold zaj;rw[List.filter_cons,zak.2 hx];rfl
   rw[e,ih,zaT];by_cases hm:m=n
   ·rw[if_pos (zak.2 hm),if_pos (zak.2 hm)]
   ·rw[if_neg (by rw[zak];exact hm),if_neg (by rw[zak];exact hm),if_neg (by rw[zak,hx];exact fun k=>hm k.symm)]
  ·have e:zaj (x::r) n=x::zaj r n:=by
    unfold zaj;rw[List.filter_cons,zb5.2 hx];rfl
   rw[e,zaT,ih,zaT];by_cases hm:m=n
   ·rw[if_pos (c:=zag m n=true) (zak.2 hm),if_pos (c:=zag m n=true) (zak.2 hm),if_neg (by rw[zak,hm];exact hx)]
   ·rw[if_neg (c:=zag m n=true) (by rw[zak];exact hm),if_neg (c:=zag m n=true) (by rw[zak];exact hm)]
theorem zed{l:Parts}(h:GoodParts l){p:ByteArray×Rat}(hp:p∈l):zab l p.1=p.2:=by
 induction l with
 |nil=>cases hp
 |cons x r ih=>
  obtain⟨h1,h2⟩:=h;have hr:GoodParts r:=⟨(List.pairwise_cons.1 h1).2,fun p hp=>h2 p (by simp[hp])⟩
  have hx:=(List.pairwise_cons.1 h1).1;rw[zaT];rcases List.mem_cons.1 hp with rfl|hp
  ·rw[if_pos (zbk _)]
  ·rw[if_neg (by rw[zak];exact zcp (hx p hp)),ih hr hp]
theorem zjq{g:Grave}{frm to:ByteArray}{q:Rat}{out:Parts}(hg:GoodG g)(ag:to≠frm)(hq:0<=q)(dJ:q<=1)
 (h:zbI (zab g.holders frm) [(to,q)] (za6 (zaj g.holders frm) frm (zab g.holders frm*(1-q)))=some out):
 zab out frm=zab g.holders frm-zab g.holders frm*q/\zab out to=zab g.holders to+zab g.holders frm*q/\∀m,m≠frm->m≠to->zab out m=zab g.holders m:=by
 have h0:=zbg hg.good frm;have hk:0<=zab g.holders frm*(1-q):=Rat.mul_nonneg h0 (by grind);have mB:=zb6 (n:=frm) hk (zbl (n:=frm) hg.good);rw[zbI]at h;split at h
 ·cases h
 split at h
 ·cases h
 rw[zbI]at h;cases h;have key:∀m,zab (za6 (za6 (zaj g.holders frm) frm (zab g.holders frm*(1-q))) to (zab g.holders frm*q)) m=if zag m to then(if zag to frm then zab (zaj g.holders frm) frm+zab g.holders frm*(1-q)else zab (zaj g.holders frm) to)+zab g.holders frm*q else if zag m frm then zab (zaj g.holders frm) frm+zab g.holders frm*(1-q)else zab (zaj g.holders frm) m:=by
  intro m;rw[zdg mB,zdg (zbl hg.good),zdg (zbl hg.good)]
 have n1:¬zag to frm=true:=by rw[zak];exact ag
 have n2:¬zag frm to=true:=by rw[zak];exact fun e=>ag e.symm
 refine⟨?_,?_,fun m m1 m2=>?_⟩
 ·rw[key,if_neg n2,if_pos (zbk frm),zbK,if_pos (zbk frm)];grind
 ·rw[key,if_pos (zbk to),if_neg n1,zbK,if_neg n1]
 ·rw[key,if_neg (by rw[zak];exact m2),if_neg (by rw[zak];exact m1),zbK,if_neg (by rw[zak];exact m1)]
theorem zgc:∀(a b:List UInt8),decide (Lib.compareBytes a b<0)=Op.bytesLess a b
 | [],[]=>by simp[Lib.compareBytes,Op.bytesLess]
 | [],_::_=>by simp[Lib.compareBytes,Op.bytesLess]
 |_::_,[]=>by simp[Lib.compareBytes,Op.bytesLess]
 |a::xs,b::ys=>by
  have ih:=zgc xs ys;unfold Lib.compareBytes Op.bytesLess;by_cases he:a=b
  ·subst he;simp[UInt8.lt_irrefl,ih]
  ·by_cases h1:a<b
   ·simp[h1]
   ·have h2:b<a:=(UInt8.lt_or_lt_of_ne he).resolve_left h1;simp[h1,h2,he]
theorem zff:∀(a b:List UInt8),(Lib.compareBytes a b==0)=(a==b)
 | [],[]=>by simp[Lib.compareBytes]
 | [],_::_=>by simp[Lib.compareBytes]
 |_::_,[]=>by simp[Lib.compareBytes]
 |a::xs,b::ys=>by
  have ih:=zff xs ys;unfold Lib.compareBytes;by_cases he:a=b
  ·subst he;simpa[UInt8.lt_irrefl]using ih
  ·by_cases h1:a<b
   ·simp[h1,he]
   ·have h2:b<a:=(UInt8.lt_or_lt_of_ne he).resolve_left h1;simp[h1,h2,he]
def cmpN(a b:ByteArray):Int:=Lib.compareBytes a.data.toList b.data.toList
theorem zly(a b:ByteArray):decide (cmpN a b<0)=zbm a b:=by
 unfold cmpN zbm;rw[zgc,ByteArray.toList_eq,ByteArray.toList_eq]
theorem cmpN_zero(a b:ByteArray):(cmpN a b==0)=zag a b:=by
 unfold cmpN zag;rw[zff,ByteArray.toList_eq,ByteArray.toList_eq]
def AscP(l:Parts):Prop:=l.Pairwise fun a b=>zbm a.1 b.1=true
theorem less_up{a b n:ByteArray}(dj:zbm a b=true)(h:zbm a n=false):zbm b n=false:=by
 cases hb:zbm b n
 ·rfl
 ·rw[zbx dj hb]at h;cases h
def zdh:Parts->ByteArray->Bool
 | [],_=>false
 |p::_,n=>zag p.1 n
def setP:Parts->ByteArray->Rat->Parts
 | [],n,q=>if q==0 then[]else[(n,q)]
 |p::r,n,q=>if zbm p.1 n then p::setP r n q else if zag p.1 n then(if q==0 then r else(n,q)::r)else if q==0 then p::r else(n,q)::p::r
theorem zd5{n:ByteArray}{q:Rat}:∀ {A B:Parts},(∀p∈A,zbm p.1 n=true)->setP (A++B) n q=A++setP B n q
 | [],B,_=>rfl
 |a::A,B,h=>by
  rw[List.cons_append,setP,if_pos (h a (by simp)),zd5 fun p hp=>h p (by simp[hp])];rfl
theorem zfg{a b:ByteArray}(h:zbm a b=true):zag a b=false:=zb5.2 (zcp h)
theorem zeJ{n:ByteArray}:∀ {A B:Parts},(∀p∈A,zbm p.1 n=true)->zab (A++B) n=zab B n
 | [],B,_=>rfl
 |a::A,B,h=>by
  rw[List.cons_append,zaT,zfg (h a (by simp)),if_neg (by simp),zeJ fun p hp=>h p (by simp[hp])]
theorem zgt{A B:Parts}(h:AscP (A++B)):AscP B:=(List.pairwise_append.1 h).2.1
theorem zlz{n:ByteArray}:∀ {B:Parts},(∀p∈B,zbm p.1 n=false)->AscP B->zdh B n=false->zab B n=0
 | [],_,_,_=>rfl
 |b::B,h,ha,hh=>by
  have jy:=List.pairwise_cons.1 ha;have hb:b.1≠n:=zb5.1 hh;have dp:zbm n b.1=true:=by
   rcases zde b.1 n with h1|h1|h1
   ·rw[h b (by simp)]at h1;cases h1
   ·exact absurd h1 hb
   ·exact h1
  exact(zcw fun p hp=>by
   rcases List.mem_cons.1 hp with rfl|hp
   ·exact hb
   ·exact(zcp (zbx dp (jy.1 p hp))).symm).1
theorem zeK{n:ByteArray}{q:Rat}:∀ {A B:Parts},(∀p∈A,zbm p.1 n=true)->za6 (A++B) n q=A++za6 B n q
 | [],B,_=>rfl
 |a::A,B,h=>by
  rw[List.cons_append,za6];by_cases hq:q==0
  ·rw[if_pos hq];have:za6 B n q=B:=by
    cases B with
    |nil=>simp[za6,hq]
    |cons b B=>simp[za6,hq]
   rw[this];rfl
  ·rw[if_neg hq,if_pos (h a (by simp)),zeK fun p hp=>h p (by simp[hp])];rfl
theorem zgu(l:Parts)(h:AscP l)(n:ByteArray):∃A B,l=A++B/\(∀p∈A,zbm p.1 n=true)/\(∀p∈B,zbm p.1 n=false):=by
 induction l with
 |nil=>exact⟨[],[],rfl,by simp,by simp⟩
 |cons p l ih=>
  have hp:=List.pairwise_cons.1 h;cases hl:zbm p.1 n
  ·refine⟨[],p::l,rfl,by simp,fun x hx=>?_⟩;rcases List.mem_cons.1 hx with rfl|hx
   ·exact hl
   ·exact less_up (hp.1 x hx) hl
  ·obtain⟨A,B,rfl,h1,h2⟩:=ih hp.2;refine⟨p::A,B,rfl,fun x hx=>?_,h2⟩;rcases List.mem_cons.1 hx with rfl|hx
   ·exact hl
   ·exact h1 x hx
theorem zgU{l:Parts}(h:GoodParts l){n:ByteArray}{q:Rat}(hq:0<=q):setP l n (zab l n+q)=za6 l n q:=by
 obtain⟨A,B,rfl,h1,h2⟩:=zgu l h.1 n;rw[zd5 h1,zeJ h1,zeK h1];congr 1
 have hB:=zgt h.1;cases B with
 |nil=>
  show(if(0:Rat)+q==0 then[]else[(n,0+q)])=if q==0 then[]else[(n,q)];rw[Rat.zero_add]
 |cons b B=>
  have hb:=h2 b (by simp);have BR:0<b.2:=h.2 b (by simp);cases hs:zag b.1 n
  ·have h0:zab (b::B) n=0:=zlz h2 hB hs;rw[h0,Rat.zero_add,setP,za6,hb,hs];simp
  ·rw[zaT,hs,if_pos rfl,setP,za6,hb,hs];have ag:(b.2+q==0)=false:=by
    rw[beq_eq_false_iff_ne];intro e;grind
   rw[ag];by_cases hz:q==0
   ·have:q=0:=by simpa using hz
    subst this;have eu:b.1=n:=zak.1 hs;simp[Rat.add_zero,<-eu]
   ·simp[hz]
theorem zgv{l:Parts}(h:AscP l)(n:ByteArray):setP l n 0=zaj l n:=by
 obtain⟨A,B,rfl,h1,h2⟩:=zgu l h n;rw[zd5 h1];unfold zaj;rw[List.filter_append,List.filter_eq_self.2 fun p hp=>by rw[zfg (h1 p hp)];rfl];congr 1
 have hB:=zgt h;cases B with
 |nil=>rfl
 |cons b B=>
  have hb:=h2 b (by simp);have bE:=List.pairwise_cons.1 hB;rw[setP,hb];cases hs:zag b.1 n
  ·have dp:zbm n b.1=true:=by
    rcases zde b.1 n with h3|h3|h3
    ·rw[hb]at h3;cases h3
    ·exact absurd h3 (zb5.1 hs)
    ·exact h3
   have e:(b::B).filter (fun p=>!zag p.1 n)=b::B:=List.filter_eq_self.2 fun p hp=>by
    rcases List.mem_cons.1 hp with rfl|hp
    ·rw[hs];rfl
    ·rw[zb5.2 (zcp (zbx dp (bE.1 p hp))).symm];rfl
   rw[e];simp
  ·have eu:b.1=n:=zak.1 hs;have e:(b::B).filter (fun p=>!zag p.1 n)=B:=by
    rw[List.filter_cons,hs,if_neg (by simp)];exact List.filter_eq_self.2 fun p hp=>by rw[zb5.2 (eu▸(zcp (bE.1 p hp)).symm)];rfl
   rw[e];simp
theorem zgV{l:Parts}(h:AscP l)(n:ByteArray)(q:Rat):setP l n q=if q==0 then zaj l n else za6 (zaj l n) n q:=by
 by_cases hq:q==0
 ·rw[if_pos hq];have:q=0:=by simpa using hq
  rw[this];exact zgv h n
 ·rw[if_neg hq];obtain⟨A,B,rfl,h1,h2⟩:=zgu l h n;rw[zd5 h1];have hA:zaj (A++B) n=A++zaj B n:=by
   unfold zaj;rw[List.filter_append,List.filter_eq_self.2 fun p hp=>by rw[zfg (h1 p hp)];rfl]
  rw[hA,zeK h1];congr 1
  have hB:=zgt h;rw[<-zgv hB n];cases B with
  |nil=>simp[setP,za6,hq]
  |cons b B=>
   have hb:=h2 b (by simp);have bE:=List.pairwise_cons.1 hB;have fG:(q==0)=false:=by simpa using hq
   have e0:setP (b::B) n 0=if zag b.1 n then B else b::B:=by rw[setP,hb];simp
   have e1:setP (b::B) n q=if zag b.1 n then(n,q)::B else(n,q)::b::B:=by rw[setP,hb,fG];simp
   rw[e0,e1];cases hs:zag b.1 n
   ·simp only[Bool.false_eq_true,if_false];rw[za6,fG,hb,hs];simp
   ·have eu:b.1=n:=zak.1 hs;simp only[if_true];cases B with
    |nil=>rw[za6,fG];simp
    |cons c B=>
     have hc:zbm n c.1=true:=eu▸bE.1 c (by simp);rw[za6,fG,zhZ hc,zb5.2 (zcp hc).symm];simp
theorem zi6{n:ByteArray}{q:Rat}:∀ {l:Parts} {p:ByteArray×Rat},p∈setP l n q->p=(n,q)\/p∈l
 | [],p,h=>by
   unfold setP at h;split at h
   ·simp at h
   ·exact .inl (by simpa using h)
 |x::l,p,h=>by
  unfold setP at h;split at h
  ·rcases List.mem_cons.1 h with rfl|h
   ·exact .inr (by simp)
   ·rcases zi6 h with h|h
    ·exact .inl h
    ·exact .inr (by simp[h])
  ·split at h
   ·split at h
    ·exact .inr (by simp[h])
    ·rcases List.mem_cons.1 h with rfl|h
     ·exact .inl rfl
     ·exact .inr (by simp[h])
   ·split at h
    ·exact .inr h
    ·rcases List.mem_cons.1 h with rfl|h
     ·exact .inl rfl
     ·exact .inr h
theorem set_asc{l:Parts}(h:AscP l)(n:ByteArray)(q:Rat):AscP (setP l n q):=by
 obtain⟨A,B,rfl,h1,h2⟩:=zgu l h n;rw[zd5 h1];obtain⟨hA,hB,nB⟩:=List.pairwise_append.1 h;have cy:∀b∈B,zag b.1 n=false->zbm n b.1=true:=fun b hb hs=>by
  rcases zde b.1 n with h3|h3|h3
  ·rw[h2 b hb]at h3;cases h3
  ·exact absurd h3 (zb5.1 hs)
  ·exact h3
 cases B with
 |nil=>
  rw[setP];split
  ·rw[List.append_nil];exact hA
  ·exact List.pairwise_append.2 ⟨hA,List.pairwise_singleton _ _,fun a ha b hb=>by
    rw[List.mem_singleton.1 hb];exact h1 a ha⟩
 |cons b B=>
  have bE:=List.pairwise_cons.1 hB;rw[setP,h2 b (by simp),if_neg (by simp)];cases hs:zag b.1 n
  ·rw[if_neg (by simp)];split
   ·exact h
   ·refine List.pairwise_append.2 ⟨hA,List.pairwise_cons.2 ⟨fun x hx=>?_,hB⟩,fun a ha x hx=>?_⟩
    ·rcases List.mem_cons.1 hx with rfl|hx
     ·exact cy _ (by simp) hs
     ·exact zbx (cy b (by simp) hs) (bE.1 x hx)
    ·rcases List.mem_cons.1 hx with rfl|hx
     ·exact h1 a ha
     ·exact nB a ha x hx
  ·have eu:b.1=n:=zak.1 hs;rw[if_pos rfl];split
   ·exact List.pairwise_append.2 ⟨hA,bE.2,fun a ha x hx=>nB a ha x (by simp[hx])⟩
   ·refine List.pairwise_append.2 ⟨hA,List.pairwise_cons.2 ⟨fun x hx=>?_,bE.2⟩,fun a ha x hx=>?_⟩
    ·exact eu▸bE.1 x hx
    ·rcases List.mem_cons.1 hx with rfl|hx
     ·exact h1 a ha
     ·exact nB a ha x (by simp[hx])
end
section
variable {P:Program} {ops:Array Oper} {md:Region.Mode} {w₀:World}
def zca(P:Program)(o:Oper)(a:Act)(w:World)(K:Value->World->Prop):Prop:=
 match(execOp a.eval o).run P w with
 | .ok (.value v) w'=>K v w'
 | .ok .skip w'=>K undef w'
 | .ok (.enter f args) w'=>Calls P f args w' fun e w''=>∃v,e=.returned v/\K v w''
 |_=>False
theorem gets_wp{o:Oper}{a:Act}{w:World}{K:Value->World->Prop}{Q:Exit->Act->World->Prop}(h:zca P o a w K){K':Act->World->Prop}(hk:∀v w',K v w'->K' (a.put o.dst v) w'):o.wp P a w K' Q:=by
 unfold zca at h;unfold Oper.wp;generalize(execOp a.eval o).run P w=r at*;cases r with
 |ok n w'=>
  cases n<;>simp only at h<;>simp only[Oper.upon]
  case value u=>exact hk _ _ h
  case skip=>exact hk _ _ h
  case enter f args=>
   refine h.mono ?_;rintro e w'' ⟨v,rfl,hv⟩;exact hk _ _ hv
 |halt x w'=>simp only at h
theorem gets_same{o:Oper}{a b:Act}{w:World}{K:Value->World->Prop}(he:execOp a.eval o=execOp b.eval o)(h:zca P o a w K):zca P o b w K:=by
 unfold zca at*;rwa [<-he]
def zi7(ops:Array Oper)(t:Tmp)(i:Nat):Prop:= ∃o,ops[i]?=some o/\o.dst=some t
structure Filled (ops:Array Oper) (a0:Act) (L:Nat->Prop) (f:Nat->Value) (a:Act):Prop where
 defers:a.defers=a0.defers
 size:a.tmps.size=a0.tmps.size
 o:∀t,(∀i,L i->¬zi7 ops t i)->a.tmps[t]?=a0.tmps[t]?
 ins:∀t i,L i->zi7 ops t i->t<a0.tmps.size->a.tmps[t]?=some (f i)
def zfh(ops:Array Oper):Bool:=(List.range ops.size).all fun i=>(List.range ops.size).all fun j=>i==j||(match(ops[i]?).bind (·.dst),(ops[j]?).bind (·.dst)with|some x,some y=>x != y|_,_=>true)
theorem dst_lt{t:Tmp}{i:Nat}(h:zi7 ops t i):i<ops.size:=by
 obtain⟨o,h,_⟩:=h;exact(Array.getElem?_eq_some_iff.1 h).1
theorem apart_one(h:zfh ops=true){t:Tmp}{i j:Nat}(hi:zi7 ops t i)(hj:zi7 ops t j):i=j:=by
 unfold zfh at h;rw[List.all_eq_true]at h;have h1:=h i (List.mem_range.2 (dst_lt hi));rw[List.all_eq_true]at h1;have h2:=h1 j (List.mem_range.2 (dst_lt hj));obtain⟨oi,a1,a2⟩:=hi;obtain⟨oj,b1,b2⟩:=hj;rw[a1,b1]at h2;simpa[a2,b2]using h2
theorem Filled.put(hd:zfh ops=true){a0 a:Act}{L:Nat->Prop}{f g:Nat->Value}(h:Filled ops a0 L f a){i:Nat}{o:Oper}{v:Value}(ho:ops[i]?=some o)(hi:¬L i)(hg:∀k,L k->g k=f k)(hv:g i=v):
 Filled ops a0 (fun k=>L k\/k=i) g (a.put o.dst v):=by
 cases hdo:o.dst with
 |none=>
  refine⟨h.defers,h.size,fun t ht=>h.o t fun k hk=>ht k (.inl hk),fun t k hk iW aa=>?_⟩;rcases hk with hk|rfl
  ·rw[hg k hk];exact h.ins t k hk iW aa
  ·obtain⟨o',h1,h2⟩:=iW;rw[ho]at h1;simp only[Option.some.injEq]at h1;rw[<-h1,hdo]at h2;cases h2
 |some d=>
  have sM:zi7 ops d i:=⟨o,ho,hdo⟩
  refine⟨h.defers,by simp[Act.put,h.size],fun t ht=>?_,fun t k hk iW aa=>?_⟩
  ·have ag:d≠t:=fun e=>ht i (.inr rfl) (e▸sM)
   simp only[Act.put,Array.getElem?_setIfInBounds_ne ag];exact h.o t fun k hk=>ht k (.inl hk)
  ·rcases hk with hk|rfl
   ·have ag:d≠t:=fun e=>hi (by rw[apart_one hd sM (e▸iW)];exact hk)
    simp only[Act.put,Array.getElem?_setIfInBounds_ne ag];rw[hg k hk];exact h.ins t k hk iW aa
   ·have he:d=t:=by
     obtain⟨o',h1,h2⟩:=iW;rw[ho]at h1;simp only[Option.some.injEq]at h1;rw[<-h1,hdo]at h2;simpa using h2
    subst he;simp only[Act.put];rw[Array.getElem?_setIfInBounds_self_of_lt (by rw[h.size];exact aa),hv]
def zcA(ops:Array Oper)(a0:Act)(f:Nat->Value):Nat->Act
 |0=>a0
 |n+1=>(zcA ops a0 f n).put ((ops[n]?).bind (·.dst)) (f n)
theorem zeL(hd:zfh ops=true)(a0:Act)(f:Nat->Value):∀n,n<=ops.size->Filled ops a0 (fun i=>i<n) f (zcA ops a0 f n)
 |0,_=>⟨rfl,rfl,fun _ _=>rfl,fun _ _ h=>absurd h (Nat.not_lt_zero _)⟩
 |n+1,h=>by
  have ih:=zeL hd a0 f n (by omega);have ho:ops[n]?=some ops[n]:=Array.getElem?_eq_getElem (by omega);have h2:=ih.put hd (g:=f) ho (Nat.lt_irrefl n) (fun _ _=>rfl) rfl;rw[zcA,ho];refine⟨h2.defers,h2.size,fun t ht=>h2.o t fun i hi=>ht i ?_,fun t i hi=>h2.ins t i ?_⟩
  ·rcases hi with hi|rfl
   ·exact Nat.lt_succ_of_lt hi
   ·exact Nat.lt_succ_self _
  ·rcases Nat.lt_succ_iff_lt_or_eq.1 hi with hi|hi
   ·exact .inl hi
   ·exact .inr hi
def fedBy(md:Region.Mode)(ops:Array Oper):Bool:=(List.range ops.size).all fun i=>match ops[i]? with
 |none=>true
 |some o=>o.guard.isNone&&(o.after.all fun e=>!Region.binds md e||decide (e.on<i))&&o.op.operands.toList.all fun x=>match x with
  | .tmp t=>(List.range ops.size).all fun j=>(match ops[j]? with|some oj=>oj.dst != some t||o.after.any (fun e=>Region.binds md e&&e.on==j)|none=>true)
  |_=>true
theorem zgW(h:fedBy md ops=true){i:Nat}{o:Oper}(ho:ops[i]?=some o):o.guard=none/\(∀e∈o.after,Region.binds md e=true->e.on<i)/\∀t,.tmp t∈o.op.operands->∀j,zi7 ops t j->∃e∈o.after,Region.binds md e=true/\e.on=j:=by
 unfold fedBy at h;rw[List.all_eq_true]at h;have h1:=h i (List.mem_range.2 (Array.getElem?_eq_some_iff.1 ho).1);rw[ho]at h1;simp only[Bool.and_eq_true,Option.isNone_iff_eq_none,List.all_eq_true]at h1;obtain⟨⟨h1,h2⟩,h3⟩:=h1;refine⟨h1,fun e he hb=>?_,fun t ht j hj=>?_⟩
 ·rw[Array.all_eq_true_iff_forall_mem]at h2;have:=h2 e he;rw[hb]at this;simpa using this
 ·have h4:=h3 (.tmp t) (Array.mem_toList_iff.2 ht);simp only[List.all_eq_true]at h4;have h5:=h4 j (List.mem_range.2 (dst_lt hj));obtain⟨oj,b1,b2⟩:=hj;rw[b1]at h5;simp only[b2,bne_self_eq_false,Bool.false_or]at h5;rw[Array.any_eq_true']at h5;obtain⟨e,he,h6⟩:=h5;simp only[Bool.and_eq_true,beq_iff_eq]at h6;exact⟨e,he,h6.1,h6.2⟩
def zco(P:Program)(md:Region.Mode)(w₀:World)(A:(Nat->Value)->Act)(V:Nat->Value->World->Prop):Nat->List Oper->Prop
 |_,[]=>True
 |i,o::rest=>(∀f z,(∀e∈o.after,Region.binds md e=true->V e.on (f e.on) (w₀.ext z))->zca P o (A f) (w₀.ext z) (fun v w'=>V i v w'/\∃z',w'=(w₀.ext z).ext z'))/\zco P md w₀ A V (i+1) rest
theorem zl0{A:(Nat->Value)->Act}{V:Nat->Value->World->Prop}:∀(l:List Oper) (i:Nat),zco P md w₀ A V i l->∀k o,l[k]?=some o->∀f z,(∀e∈o.after,Region.binds md e=true->V e.on (f e.on) (w₀.ext z))->zca P o (A f) (w₀.ext z) (fun v w'=>V (i+k) v w'/\∃z',w'=(w₀.ext z).ext z')
 | [],_,_,k,o,h=>by simp at h
 |x::l,i,h,0,o,ho=>by
  simp only[List.getElem?_cons_zero,Option.some.injEq]at ho;subst ho;exact h.1
 |x::l,i,h,k+1,o,ho=>by
  have:=zl0 l (i+1) h.2 k o (by simpa using ho);rw[show i+(k+1)=i+1+k by omega];exact this
end
theorem stays(w:World):∃z',w=w.ext z':=⟨⟨#[],w.drawn⟩,by simp[World.ext]⟩
