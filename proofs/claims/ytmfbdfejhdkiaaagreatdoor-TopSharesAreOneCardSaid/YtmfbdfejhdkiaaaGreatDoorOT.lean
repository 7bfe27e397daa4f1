/- Plain law of tenures: the days on which the holders of a place change. -/
import Derived.Test.YtmfbdfejhdkiaaaGreatDoorXT
set_option linter.all false
set_option maxRecDepth 100000
set_option maxHeartbeats 4000000
namespace Go.Proofs.YtmfbdfejhdkiaaaGreatDoor
open Go.RowKit
noncomputable def hOn (laws:List Law) (ds:List Deed) (place:ByteArray) (day:Int):Parts:=zbW (zaB laws ds day).1 place day
open Classical in
noncomputable def zbO (H:Int->Parts):List Int->Parts->List (Int×Parts)
 | [],_=>[]
 |d::l,b=>if H d=b then zbO H l b else(d,H d)::zbO H l (H d)
open Classical in
theorem go_same(laws:List Law){p q:Int}:∀(ds:List Deed) (s told:St) (k:Nat) (last:Int),(∀d∈ds,(d.day<=p↔d.day<=q))->zau laws p ds s told k last=zau laws q ds s told k last
 | [],_,_,_,_,_=>rfl
 |d::l,s,told,k,last,h=>by
  rw[zau,zau];have e:decide (d.day<=p)=decide (d.day<=q):=decide_eq_decide.2 (h d Mcv);rw[e];split
  ·rfl
  ·exact go_same laws l _ _ _ _ fun x hx=>h x Mdl
theorem zjf{laws:List Law}{ds:List Deed}{p q:Int}(h:∀d∈ds,(d.day<=p↔d.day<=q)):zaB laws ds p=zaB laws ds q:=by
 unfold zaB;split
 ·rfl
 ·exact go_same laws ds _ _ _ _ h
theorem znu(laws:List Law){q:Int}:∀(ds:List Deed) (s told:St) (k:Nat) (last:Int),(∀d∈ds,¬d.day<=q)->(zau laws q ds s told k last).1=told
 | [],_,_,_,_,_=>rfl
 |d::l,s,told,k,last,h=>by
  rw[zau];have e:decide (d.day<=q)=false:=decide_eq_false (h d Mcv);rw[e];split
  ·rfl
  ·exact znu laws l _ _ _ _ fun x hx=>h x Mdl
theorem znv{laws:List Law}{ds:List Deed}{q:Int}(h:∀d∈ds,¬d.day<=q):(zaB laws ds q).1=zbb:=by
 unfold zaB;split
 ·rfl
 ·exact znu laws ds _ _ _ _ h
theorem zmk(p:Int):∀ds:List Deed,(∀d∈ds,¬d.day<=p)\/∃m∈ds,m.day<=p/\∀x∈ds,x.day<=p->x.day<=m.day
 | []=> .inl Mcv
 |d::l=>by
  rcases zmk p l with h|⟨m,hm,h1,h2⟩
  ·by_cases hd:d.day<=p
   ·refine .inr ⟨d,by simp,hd,fun x hx hp=>?_⟩;rcases List.mem_cons.1 hx with e|e
    ·rw[e];omega
    ·exact absurd hp (h x e)
   ·exact Mbr
  ·by_cases hd:d.day<=p/\m.day<=d.day
   ·refine .inr ⟨d,by simp,hd.1,fun x hx hp=>?_⟩;rcases List.mem_cons.1 hx with e|e
    ·rw[e];omega
    ·have:=h2 x e hp;omega
   ·exact Ma9
def zec(place:ByteArray)(gs:List Grave):List Int:=(gs.filter fun g=>zaf g.place place&&decide (0<=g.fin)).map (·.fin)
noncomputable def zeT (laws:List Law) (ds:List Deed) (place:ByteArray) (l:List Deed):List Int:=l.flatMap fun d=>d.day::zec place (zaB laws ds d.day).1.graves
theorem ix_same{s:St}{place:ByteArray}{p q:Int}(h:∀g∈s.graves,g.place=place->zaO g p=zaO g q):zaS s place p=zaS s place q:=by
 unfold zaS;have:∀l:List Grave,(∀g∈l,g.place=place->zaO g p=zaO g q)->(l.findIdx? fun g=>zaf g.place place&&zaO g p)=l.findIdx? fun g=>zaf g.place place&&zaO g q:=by
  intro l;induction l with
  |nil=>intro _;rfl
  |cons g l ih=>
   intro hl;have e:(zaf g.place place&&zaO g p)=(zaf g.place place&&zaO g q):=by
    cases hs:zaf g.place place
    ·rfl
    ·rw[hl g Mcv (za3.1 hs)]
   rw[List.findIdx?_cons,List.findIdx?_cons,e,ih fun x hx=>hl x Mdl]
 exact this s.graves h
theorem hOn_same{laws:List Law}{ds:List Deed}{place:ByteArray}{p q:Int}(qx:p<=q)(h:∀x∈zeT laws ds place ds,¬(p<x/\x<=q)):hOn laws ds place q=hOn laws ds place p:=by
 have hd:∀d∈ds,(d.day<=q↔d.day<=p):=fun d hd=>by
  have:=h d.day (List.mem_flatMap.2 ⟨d,hd,by simp⟩);omega
 unfold hOn;rw[zjf hd];rcases zmk p ds with h0|⟨m,hm,h1,h2⟩
 ·rw[znv h0];rfl
 ·have e:zaB laws ds p=zaB laws ds m.day:=zjf fun d hd=>⟨fun h=>h2 d hd h,fun h=>by omega⟩
  rw[e];unfold zbW;rw[ix_same (p:=q) (q:=p)];intro g hg kI;have mU:=h g.fin;unfold zaO;by_cases h0:g.fin<0
  ·simp[h0]
  ·have aM:g.fin∈zeT laws ds place ds:=List.mem_flatMap.2 ⟨m,hm,List.mem_cons.2 (.inr (List.mem_map.2 ⟨g,List.mem_filter.2 ⟨hg,by simp only[Bool.and_eq_true];exact⟨za3.2 kI,by simpa using(show(0:Int)<=g.fin by omega)⟩⟩,rfl⟩))⟩;have h3:=mU aM;have e2:decide (q<g.fin)=decide (p<g.fin):=decide_eq_decide.2 ⟨fun h=>by omega,fun h=>by omega⟩;rw[e2]
