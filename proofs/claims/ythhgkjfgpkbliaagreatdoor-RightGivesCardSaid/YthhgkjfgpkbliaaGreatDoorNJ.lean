import Derived.Test.YthhgkjfgpkbliaaGreatDoorOT
import Derived.Test.YthhgkjfgpkbliaaGreatDoorXT
import Derived.Test.YthhgkjfgpkbliaaGreatDoorOW
import Derived.Test.YthhgkjfgpkbliaaGreatDoorWU
set_option linter.all false
set_option maxRecDepth 100000
set_option maxHeartbeats 4000000
namespace Go.Proofs.YthhgkjfgpkbliaaGreatDoor
open Go.RowKit Go.Shelf
attribute [local go_sem] World.cell?_alloc_mark zae zav zai zaw zam zan zao zap zaq zar zas
attribute [local go_sem] zah zac
theorem zlW{laws:List Law}{upto:Int}:∀ {ds:List Deed} {s told:St} {k:Nat} {last:Int},(zax laws upto ds s told k last).2.2=0->∀d∈ds,OkD d
 | [],_,_,_,_,_=>by simp
 |d::l,s,told,k,last,h=>by
  rw[zax]at h;split at h
  ·rename_i hc
   rw[h]at hc;simp at hc
  ·rename_i hc
   intro x hx;rcases List.mem_cons.1 hx with e|e
   ·rw[e];exact zdv (zcy Mcv).1
   ·exact zlW h x e
theorem zko(x:Deed)(l:List Deed)(a:Int):((x::l).getLast?.map (·.day)).getD a=(l.getLast?.map (·.day)).getD x.day:=by
 cases l with
 |nil=>rfl
 |cons y r=>
  rw[List.getLast?_cons_cons];cases hh:(y::r).getLast? with
  |none=>simp at hh
  |some z=>rfl
theorem zkp(laws:List Law)(u:Int)(d:Deed):∀(ds:List Deed) (s told:St) (k:Nat) (last:Int),(zax laws u ds s told k last).2.2=0->
 zax laws u (ds++[d]) s told k last=if(zb4 laws (zax laws 200000 ds s s k last).1 (k+ds.length) ((ds.getLast?.map (·.day)).getD last) d).2 != 0 then((zax laws u ds s told k last).1,k+ds.length,(zb4 laws (zax laws 200000 ds s s k last).1 (k+ds.length) ((ds.getLast?.map (·.day)).getD last) d).2)else(if decide (d.day<=u)then(zb4 laws (zax laws 200000 ds s s k last).1 (k+ds.length) ((ds.getLast?.map (·.day)).getD last) d).1 else(zax laws u ds s told k last).1,k+ds.length+1,0)
 | [],s,told,k,last,_=>by
   simp only[List.nil_append,zax,List.length_nil,Nat.add_zero,List.getLast?_nil,Option.map_none,Option.getD_none];rfl
 |x::l,s,told,k,last,h=>by
  have hx:(zb4 laws s k last x).2=0:=by
   exact MaD
  have cG:decide (x.day<=200000)=true:=decide_eq_true (zdv (zcy hx).1).day.2;have e1:zax laws 200000 (x::l) s s k last=zax laws 200000 l (zb4 laws s k last x).1 (zb4 laws s k last x).1 (k+1) x.day:=by rw[zax,if_neg McG,if_pos cG]
  have e2:zax laws u (x::l) s told k last=zax laws u l (zb4 laws s k last x).1 (if decide (x.day<=u)then(zb4 laws s k last x).1 else told) (k+1) x.day:=by rw[zax,if_neg McG]
  have e3:zax laws u (x::l++[d]) s told k last=zax laws u (l++[d]) (zb4 laws s k last x).1 (if decide (x.day<=u)then(zb4 laws s k last x).1 else told) (k+1) x.day:=by rw[List.cons_append,zax,if_neg McG]
  rw[e2]at h;rw[e1,e2,e3,zkp laws u d l _ _ _ _ h,zko,List.length_cons,show k+1+l.length=k+(l.length+1) by omega]
theorem go_last{laws:List Law}{u:Int}:∀ {ds:List Deed} {s told:St} {k:Nat} {last:Int},(zax laws u ds s told k last).2.2=0->last<=(ds.getLast?.map (·.day)).getD last/\∀x∈ds,x.day<=(ds.getLast?.map (·.day)).getD last
 | [],_,_,_,last,_=>⟨Int.le_refl _,by simp⟩
 |x::l,s,told,k,last,h=>by
  have hx:(zb4 laws s k last x).2=0:=by
   exact MaD
  rw[zax,if_neg McG]at h;have hl:=(zcy hx).2.2.1;obtain⟨h1,h2⟩:=go_last h;rw[zko];refine⟨Int.le_trans hl h1,fun y hy=>?_⟩;rcases List.mem_cons.1 hy with e|e
  ·rw[e];exact h1
  ·exact h2 y e
theorem zgB{laws:List Law}{ds:List Deed}{d:Deed}(h:zfW laws ds d=0):OkD d/\za7 laws=0/\(zaz laws ds 200000).2.2=0/\ze7 ds<=d.day/\(zaZ laws (zaz laws ds 200000).1 d).2=0/\
 ∀u,(zaz laws (ds++[d]) u).2.2=0/\(zaz laws (ds++[d]) u).1=if d.day<=u then(zaZ laws (zaz laws ds 200000).1 d).1 else(zaz laws ds u).1:=by
 unfold zfW at h;by_cases hs:(zch laws ds 200000).2.2=0;rotate_left 1
 ·rw[if_pos (by simpa using hs)]at h;exact absurd h hs
 rw[if_neg (by simp[hs])]at h;by_cases hc:za8 d=0;rotate_left 1
 ·rw[if_pos Mcv]at h;exact absurd h hc
 rw[if_neg (by simp[hc]),(zfT hs 200000).1]at h;have jS:(zaz laws ds 200000).2.2=0:=by rw[<-zdq];exact hs
 have aG:=zeV jS;unfold zcH at h;by_cases km:60<=ds.length
 ·rw[if_pos (by simpa using km)]at h;exact absurd h MbF
 rw[if_neg (by simpa using km)]at h;by_cases aZ:d.day<ze7 ds
 ·rw[if_pos (by simpa using aZ)]at h;exact absurd h MbF
 rw[if_neg (by simpa using aZ)]at h;refine⟨zdv hc,aG,jS,by omega,h,fun u=>?_⟩;have CZ:(zax laws u ds zbf zbf 0 0).2.2=0:=by
  have:=zmO laws ds u 200000;have e:(zaz laws ds u).2.2=0:=by rw[this];exact jS
  unfold zaz at e;rwa [if_neg McT]at e
 have eS:(zax laws 200000 ds zbf zbf 0 0).1=(zaz laws ds 200000).1:=by
  unfold zaz;rw[if_neg McT]
 have eU:(zax laws u ds zbf zbf 0 0).1=(zaz laws ds u).1:=by
  unfold zaz;rw[if_neg McT]
 have eB:zb4 laws (zaz laws ds 200000).1 (0+ds.length) (ze7 ds) d=zaZ laws (zaz laws ds 200000).1 d:=by
  unfold zb4;rw[if_neg (by simp[hc]),if_neg (by rw[Nat.zero_add];simpa using km),if_neg (by simpa using aZ)]
 have e:zaz laws (ds++[d]) u=zax laws u (ds++[d]) zbf zbf 0 0:=by
  unfold zaz;rw[if_neg McT]
 have hl:(ds.getLast?.map (·.day)).getD 0=ze7 ds:=rfl;rw[e,zkp laws u d ds _ _ _ _ CZ,eS,hl,eB,eU,if_neg (by simp[h])];refine⟨rfl,?_⟩;by_cases hu:d.day<=u
 ·rw[if_pos (by simpa using hu),if_pos hu]
 ·rw[if_neg (by simpa using hu),if_neg hu]
theorem zkq{laws:List Law}{ds:List Deed}{p:Int}(h:(zaz laws ds 200000).2.2=0)(hp:ze7 ds<=p):zaz laws ds p=zaz laws ds 200000:=by
 have aG:=zeV h;unfold zaz at h;rw[if_neg McT]at h;have h1:=(go_last h).2;have h2:=zlW h;refine zln fun x hx=>⟨fun _=>(h2 x hx).day.2,fun _=>?_⟩
 have:=h1 x hx;have hl:(ds.getLast?.map (·.day)).getD 0=ze7 ds:=rfl;omega
theorem zjc{laws:List Law}{ds:List Deed}{d:Deed}{names:List ByteArray}{day:Int}(h:zck laws ds names day=0)(hn:zfW laws ds d=0):zck laws (ds++[d]) names day=0:=by
 have h2:=((zgB hn).2.2.2.2.2 200000).1;have h3:(zch laws (ds++[d]) 200000).2.2=0:=by rw[zdq];exact h2
 have h4:=(on_stop h).1;unfold zck at h⊢;rw[if_neg (by simp[h4])]at h;rw[if_neg (by simp[h3])];exact h
theorem zlX{laws:List Law}{ds:List Deed}{d:Deed}{pl:ByteArray}(hn:zfW laws ds d=0):hOn laws ds pl d.day=zbn (zaz laws ds 200000).1 pl d.day/\hOn laws (ds++[d]) pl d.day=zbn (zaZ laws (zaz laws ds 200000).1 d).1 pl d.day:=by
 obtain⟨_,_,jS,hl,_,hu⟩:=zgB hn;unfold hOn;rw[zkq jS hl,(hu d.day).2,if_pos (Int.le_refl _)];exact⟨rfl,rfl⟩
theorem zhC{s:St}{pl:ByteArray}{dy:Int}{i:Nat}{g:Grave}{out:Parts}{last:Int}(hG:GoodSt s last)(hl:last<=dy)(ap:zaH s pl dy=some i)(hg:s.graves[i]?=some g):zbn (s.withGrave i {g with holders:=out}) pl dy=out:=by
 obtain⟨g',cx,gR,fS⟩:=zbv ap;obtain rfl:g'=g:=by rw[hg]at cx;exact(Option.some.inj cx).symm
 have hi:i<s.graves.length:=(List.getElem?_eq_some_iff.1 hg).1;have bJ:s.graves[i]=g':=(List.getElem?_eq_some_iff.1 hg).2;unfold zbn;by_cases ho:out=[]
 ·subst ho;have e:zaH (s.withGrave i {g' with holders:=[]}) pl dy=none:=by
   unfold zaH St.withGrave;rw[List.findIdx?_eq_none_iff];intro x hx;obtain⟨j,hj,rfl⟩:=List.mem_iff_getElem.1 hx;simp only[List.length_set]at hj;by_cases bh:i=j
   ·subst bh;simp only[List.getElem_set_self];unfold zaE;simp
   ·simp only[List.getElem_set_ne bh];rw[Bool.and_eq_false_iff];by_cases hs:zag s.graves[j].place pl=true
    ·refine .inr ?_;cases hf:zaE s.graves[j] dy with
     |false=>rfl
     |true=>exact absurd (hG.force i j g' s.graves[j] hg (List.getElem?_eq_getElem hj) (by rw[gR];exact(zak.1 hs).symm) dy hl fS hf) bh
    ·exact .inl (by simpa using hs)
  rw[e]
 ·have e:zaH (s.withGrave i {g' with holders:=out}) pl dy=some i:=by
   unfold zaH St.withGrave at*;rw[List.findIdx?_eq_some_iff_getElem]at ap⊢;obtain⟨_,h1,h2⟩:=ap;refine⟨by simpa using hi,?_,fun j hj=>?_⟩
   ·simp only[List.getElem_set_self];rw[Bool.and_eq_true];refine⟨zak.2 gR,?_⟩;unfold zaE at fS⊢;simp only[Bool.and_eq_true]at fS⊢;exact⟨by simpa using ho,fS.2⟩
   ·simp only[List.getElem_set_ne (by omega:i≠j)];exact h2 j hj
  rw[e];show((s.graves.set i {g' with holders:=out}).getD i ze6).holders=out;rw[List.getD_eq_getElem?_getD,List.getElem?_set_self hi];rfl
theorem zhQ{laws:List Law}{ds:List Deed}{pl frm tn:ByteArray}{dy pn pd:Int}(hn:zfW laws ds ⟨1,dy,pl,frm,[⟨tn,pn,pd⟩],0,0⟩=0):
 za2 16 pn pd=true/\tn≠frm/\GoodParts (hOn laws ds pl dy)/\zab (hOn laws ds pl dy) frm≠0/\zab (hOn laws ds pl dy) frm-zab (hOn laws (ds++[⟨1,dy,pl,frm,[⟨tn,pn,pd⟩],0,0⟩]) pl dy) frm=zab (hOn laws ds pl dy) frm*Rat.divInt pn pd/\
 zab (hOn laws (ds++[⟨1,dy,pl,frm,[⟨tn,pn,pd⟩],0,0⟩]) pl dy) tn-zab (hOn laws ds pl dy) tn=zab (hOn laws ds pl dy) frm*Rat.divInt pn pd/\
 ∀m,m≠frm->m≠tn->zab (hOn laws (ds++[⟨1,dy,pl,frm,[⟨tn,pn,pd⟩],0,0⟩]) pl dy) m=zab (hOn laws ds pl dy) m:=by
 obtain⟨cr,aG,jS,cH,aD,_⟩:=zgB hn;obtain⟨hb,ha⟩:=zlX (pl:=pl) hn;simp only at hb ha cH;rw[hb,ha];have hG:=zh8 jS;generalize(zaz laws ds 200000).1=s at*;have th:=(cr.parts (.inr (.inl rfl))).2;unfold zc1 at th;simp only[List.all_cons,List.all_nil,Bool.and_true,Bool.and_eq_true,if_true]at th;have ag:tn≠frm:=by
  have:=th.1.2;exact zb5.1 (by simpa using this)
 have cd:za2 16 pn pd=true:=th.2.1.1.1;have eT:zaZ laws s ⟨1,dy,pl,frm,[⟨tn,pn,pd⟩],0,0⟩=zbj s ⟨1,dy,pl,frm,[⟨tn,pn,pd⟩],0,0⟩:=by
  unfold zaZ;rfl
 rw[eT]at aD⊢;have d8:sumQ (zat [⟨tn,pn,pd⟩])=Rat.divInt pn pd:=by
  show Rat.divInt pn pd+0=_;grind
 unfold zbj at aD⊢;simp only at aD⊢;cases ap:zaH s pl dy with
 |none=>rw[ap]at aD;exact absurd aD MbF
 |some i=>
  obtain⟨g,hg,aQ,j8⟩:=zjU ap;rw[ap]at aD;simp only[aQ,d8]at aD⊢;have nE:=hG.graves g j8;have vj:zbn s pl dy=g.holders:=by unfold zbn;rw[ap];simp only[aQ]
  rw[vj];by_cases c1:g.cls==4
  ·rw[if_pos c1]at aD;exact absurd aD MbF
  rw[if_neg c1]at aD⊢;by_cases c2:zab g.holders frm==0
  ·rw[if_pos c2]at aD;exact absurd aD MbF
  rw[if_neg c2]at aD⊢;by_cases c3:zfb s [⟨tn,pn,pd⟩]=true
  ·rw[if_pos c3]at aD;exact absurd aD MbF
  rw[if_neg c3]at aD⊢;by_cases c4:bigQ (zab g.holders frm*(1-Rat.divInt pn pd))=true
  ·rw[if_pos c4]at aD;exact absurd aD MbF
  rw[if_neg c4]at aD⊢;have er:zat [⟨tn,pn,pd⟩]=[(tn,Rat.divInt pn pd)]:=rfl;rw[er]at aD⊢;cases mB:zbI (zab g.holders frm) [(tn,Rat.divInt pn pd)] (za6 (zaj g.holders frm) frm (zab g.holders frm*(1-Rat.divInt pn pd)))with
  |none=>rw[mB]at aD;exact absurd aD MbF
  |some out=>
   have hq:=zbo cd;obtain⟨t1,t2,t3⟩:=zjq nE ag hq.2.2.1 hq.2.2.2 mB;simp only;rw[zhC hG cH ap hg];have h0:zab g.holders frm≠0:=by simpa using c2
   exact⟨cd,ag,nE.good,h0,by rw[t1];grind,by rw[t2];grind,t3⟩
theorem wo_len{n:ByteArray}:∀ {l:Parts},GoodParts l->zab l n≠0->(zaj l n).length+1=l.length
 | [],_,h=>absurd rfl h
 |x::r,⟨h1,h2⟩,h=>by
  have hr:GoodParts r:=⟨(List.pairwise_cons.1 h1).2,fun p hp=>h2 p (by simp[hp])⟩
  have hx:=(List.pairwise_cons.1 h1).1;by_cases hs:x.1=n
  ·have hw:=(zcw (n:=n) (l:=r) fun p hp e=>zcp (hx p hp) (by rw[e,hs])).2;have e:zaj (x::r) n=zaj r n:=by
    unfold zaj;rw[List.filter_cons,zak.2 hs];rfl
   rw[e,hw,List.length_cons]
  ·have e:zaj (x::r) n=x::zaj r n:=by
    unfold zaj;rw[List.filter_cons,zb5.2 hs];rfl
   rw[zaT,if_neg (by rw[zak];exact hs)]at h;rw[e,List.length_cons,List.length_cons,wo_len hr h]
theorem zhD{laws:List Law}{ds:List Deed}{pl frm:ByteArray}{dy:Int}(hn:zfW laws ds ⟨2,dy,pl,frm,[],0,0⟩=0):
 zab (hOn laws (ds++[⟨2,dy,pl,frm,[],0,0⟩]) pl dy) frm=0/\(hOn laws (ds++[⟨2,dy,pl,frm,[],0,0⟩]) pl dy).length+1=(hOn laws ds pl dy).length/\
 ∀x∈hOn laws (ds++[⟨2,dy,pl,frm,[],0,0⟩]) pl dy,zab (hOn laws ds pl dy) x.1≠0/\x.2=zab (hOn laws ds pl dy) x.1/(1-zab (hOn laws ds pl dy) frm):=by
 obtain⟨cr,aG,jS,cH,aD,_⟩:=zgB hn;obtain⟨hb,ha⟩:=zlX (pl:=pl) hn;simp only at hb ha cH;rw[hb,ha];have hG:=zh8 jS;generalize(zaz laws ds 200000).1=s at*;have eT:zaZ laws s ⟨2,dy,pl,frm,[],0,0⟩=zaY s ⟨2,dy,pl,frm,[],0,0⟩:=by
  unfold zaZ;rfl
 rw[eT]at aD⊢;unfold zaY at aD⊢;simp only at aD⊢;cases ap:zaH s pl dy with
 |none=>rw[ap]at aD;exact absurd aD MbF
 |some i=>
  obtain⟨g,hg,aQ,j8⟩:=zjU ap;rw[ap]at aD;simp only[aQ]at aD⊢;have nE:=hG.graves g j8;have vj:zbn s pl dy=g.holders:=by unfold zbn;rw[ap];simp only[aQ]
  rw[vj];by_cases c2:zab g.holders frm==0
  ·rw[if_pos c2]at aD;exact absurd aD MbF
  rw[if_neg c2]at aD⊢;by_cases c3:zaC ((zaj g.holders frm).map fun p=>(p.1,p.2/(1-zab g.holders frm)))=true
  ·rw[if_pos c3]at aD;exact absurd aD MbF
  rw[if_neg c3];simp only;rw[zhC hG cH ap hg];have h0:zab g.holders frm≠0:=by simpa using c2
  refine⟨(zcw fun p hp=>?_).1,by rw[List.length_map];exact wo_len nE.good h0,fun x hx=>?_⟩
  ·obtain⟨q,hq,rfl⟩:=List.mem_map.1 hp;exact zia q hq
  ·obtain⟨q,hq,rfl⟩:=List.mem_map.1 hx;have hm:=(List.mem_filter.1 hq).1;have e:=zed nE.good hm;have hp:=nE.good.pos q hm;refine⟨?_,?_⟩
   ·show zab g.holders q.1≠0;rw[e];grind
   ·show q.2/(1-zab g.holders frm)=zab g.holders q.1/(1-zab g.holders frm);rw[e]
