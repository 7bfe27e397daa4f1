/- Names are names for the program just when they are for the reference. -/
import Derived.Shelf.SlSortCmp.NoneTotal
import Derived.Test.YtjhbofabmpfniaaGreatDoorU0
import Derived.Test.YtjhbofabmpfniaaGreatDoorChecked
import Derived.LaidMore
import Derived.Lay
import Derived.Stop.Joined
import Derived.Stop.LaidErr
set_option linter.unusedSimpArgs false
set_option linter.unusedVariables false
set_option maxRecDepth 100000
set_option maxHeartbeats 4000000
namespace Go.Proofs.YtjhbofabmpfniaaGreatDoor
open Go.RowKit
theorem za2 {a b:ByteArray}:zaf a b=true↔a=b:=by
 unfold zaf;rw[beq_iff_eq,ByteArray.toList_eq,ByteArray.toList_eq];constructor
 ·intro h;exact ByteArray.ext (Array.ext' h)
 ·intro h;rw[h]
theorem zbY (a:ByteArray):zaf a a=true:=za2.2 rfl
theorem zcn {a b:ByteArray}:zaf a b=false↔a≠b:=by rw[<-Bool.not_eq_true,za2]
theorem zf4 {l:List ByteArray} {n:ByteArray}:l.any (zaf n)=true↔n∈l:=by
 rw[List.any_eq_true];constructor
 ·rintro⟨x,hx,h⟩;rw[za2.1 h];exact hx
 ·intro h;exact⟨n,h,zbY n⟩
theorem zdt {s:St} {n c:ByteArray}:c∈zai s n↔(n,c)∈s.children:=by
 unfold zai;rw[List.mem_map];constructor
 ·rintro⟨p,hp,rfl⟩;rw[List.mem_filter,za2]at hp;rw[<-hp.2];exact hp.1
 ·intro h;exact⟨(n,c),List.mem_filter.2 ⟨h,zbY n⟩,rfl⟩
theorem zig {s:St} {n:ByteArray} {out:ByteArray->Prop} (h0: ∀c∈zai s n,out c) (h1: ∀x,out x-> ∀c∈zai s x,out c) {x:ByteArray} (h:Desc s n x):out x:=by
 unfold Desc at h;induction h with
 |single h=>exact h0 _ h
 |tail _ h ih=>exact h1 _ ih _ h
theorem zih {s:St} {n x c:ByteArray} (h:Desc s n x) (hc:c∈zai s x):Desc s n c:=Relation.TransGen.tail h hc
theorem zf5 {s:St} {n c:ByteArray} (hc:c∈zai s n):Desc s n c:=Relation.TransGen.single hc
theorem zgU {s:St} {a b c:ByteArray} (h:Desc s a b) (k:Desc s b c):Desc s a c:=by
 unfold Desc at*;induction k with
 |single h'=>exact Relation.TransGen.tail h h'
 |tail _ h' ih=>exact Relation.TransGen.tail ih h'
theorem zii {s:St} {n x:ByteArray} (h0:zai s n=[]): ¬Desc s n x:=fun h=>zig (out:=fun _=>False) (by rw[h0];simp) (fun _ h=>h.elim) h
theorem zlc: ∀l:List UInt8,Op.bytesLess l l=false
 | []=>rfl
 |a::l=>by rw[Op.bytesLess,zlc l];simp
theorem zij: ∀ {a b c:List UInt8},Op.bytesLess a b=true->Op.bytesLess b c=true->Op.bytesLess a c=true
 |_,[],_,h,_=>by unfold Op.bytesLess at h;simp at h
 |_,_::_,[],_,h=>by unfold Op.bytesLess at h;simp at h
 | [],_::_,_::_,_,_=>rfl
 |a::x,b::y,c::z,h1,h2=>by
  have ih:= @zij x y z;simp only[Op.bytesLess,Bool.or_eq_true,decide_eq_true_eq,Bool.and_eq_true,beq_iff_eq,UInt8.lt_iff_toNat_lt]at h1 h2⊢;rcases h1 with h1|⟨rfl,h1⟩<;>rcases h2 with h2|⟨rfl,h2⟩
  ·exact .inl (by omega)
  ·exact .inl h1
  ·exact .inl h2
  ·exact .inr ⟨rfl,ih h1 h2⟩
theorem zld: ∀a b:List UInt8,Op.bytesLess a b=true\/a=b\/Op.bytesLess b a=true
 | [],[]=> .inr (.inl rfl)
 | [],_::_=> .inl rfl
 |_::_,[]=> .inr (.inr rfl)
 |a::x,b::y=>by
  have ih:=zld x y;simp only[Op.bytesLess,Bool.or_eq_true,decide_eq_true_eq,Bool.and_eq_true,beq_iff_eq,List.cons.injEq,UInt8.lt_iff_toNat_lt];rcases Nat.lt_trichotomy a.toNat b.toNat with h|h|h
  ·exact .inl (.inl h)
  ·have h':a=b:=UInt8.toNat_inj.1 h;subst h';rcases ih with ih|ih|ih
   ·exact .inl (.inr ⟨rfl,ih⟩)
   ·exact .inr (.inl ⟨rfl,ih⟩)
   ·exact .inr (.inr (.inr ⟨rfl,ih⟩))
  ·exact .inr (.inr (.inl h))
theorem zfd (a:ByteArray):zbn a a=false:=zlc _
theorem zb4 {a b c:ByteArray} (h:zbn a b=true) (k:zbn b c=true):zbn a c=true:=zij h k
theorem zdu (a b:ByteArray):zbn a b=true\/a=b\/zbn b a=true:=by
 rcases zld a.toList b.toList with h|h|h
 ·exact .inl h
 ·exact .inr (.inl (za2.1 (by unfold zaf;simpa using h)))
 ·exact .inr (.inr h)
theorem zcH {a b:ByteArray} (h:zbn a b=true):a≠b:=by
 rintro rfl;rw[zfd]at h;cases h
theorem zj1 {a b:ByteArray} (h:zbn a b=true):zbn b a=false:=by
 rw[<-Bool.not_eq_true];intro k;have:=zb4 h k;rw[zfd]at this;cases this
structure GoodParts (l:Parts):Prop where
 asc:l.Pairwise fun a b=>zbn a.1 b.1=true
 pos: ∀p∈l,0<p.2
theorem zbZ (n:ByteArray) (q:Rat): ∀l:Parts,sumQ (za4 l n q)=sumQ l+q
 | []=>by
   unfold za4;split
   ·rename_i h
    have:q=0:=by simpa using h
    subst this;simp[sumQ];grind
   ·simp[sumQ];grind
 |p::r=>by
  have ih:=zbZ n q r;unfold za4;split
  ·rename_i h
   have:q=0:=by simpa using h
   subst this;grind
  ·split
   ·rw[sumQ,ih,sumQ];grind
   ·split
    ·rw[sumQ,sumQ];grind
    ·rw[sumQ,sumQ];grind
theorem zfe {n:ByteArray} {q:Rat}: ∀ {l:Parts} {p:ByteArray×Rat},p∈za4 l n q->p.1=n\/p∈l
 | [],p,h=>by
   unfold za4 at h;split at h
   ·exact .inr h
   ·simp at h;exact .inl (by rw[h])
 |x::r,p,h=>by
  unfold za4 at h;split at h
  ·exact .inr h
  ·split at h
   ·rcases List.mem_cons.1 h with rfl|h
    ·exact .inr (by simp)
    ·rcases zfe h with h|h
     ·exact .inl h
     ·exact .inr (by simp[h])
   ·split at h
    ·rcases List.mem_cons.1 h with rfl|h
     ·exact .inl rfl
     ·exact .inr (by simp[h])
    ·rcases List.mem_cons.1 h with rfl|h
     ·exact .inl rfl
     ·exact .inr h
theorem zbv {n:ByteArray} {q:Rat} (hq:0<=q): ∀ {l:Parts},GoodParts l->GoodParts (za4 l n q)
 | [],_=>by
   unfold za4;split
   ·exact⟨List.Pairwise.nil,by simp⟩
   ·rename_i h
    have:q≠0:=by simpa using h
    exact⟨by simp,by intro p hp;simp at hp;rw[hp];show 0<q;grind⟩
 |x::r,⟨h1,h2⟩=>by
  have hr:GoodParts r:=⟨(List.pairwise_cons.1 h1).2,fun p hp=>h2 p (by simp[hp])⟩
  have hx:=(List.pairwise_cons.1 h1).1;unfold za4;split
  ·exact⟨h1,h2⟩
  ·rename_i h
   have gK:0<q:=by have:q≠0:=by simpa using h
                   grind
   split
   ·rename_i hl
    have ih:=zbv (n:=n) hq hr;refine⟨List.pairwise_cons.2 ⟨fun p hp=> ?_,ih.asc⟩,fun p hp=> ?_⟩
    ·rcases zfe hp with e|hp
     ·rw[e];exact hl
     ·exact hx p hp
    ·rcases List.mem_cons.1 hp with rfl|hp
     ·exact h2 _ (by simp)
     ·exact ih.pos p hp
   ·rename_i hl
    split
    ·rename_i hs
     have e:=za2.1 hs;refine⟨List.pairwise_cons.2 ⟨fun p hp=>by rw[<-e];exact hx p hp,hr.asc⟩,fun p hp=> ?_⟩;rcases List.mem_cons.1 hp with rfl|hp
     ·have:=h2 x (by simp);show 0<x.2+q;grind
     ·exact hr.pos p hp
    ·rename_i hs
     have jG:zbn n x.1=true:=by
      rcases zdu n x.1 with k|k|k
      ·exact k
      ·exact absurd (za2.2 k.symm) hs
      ·exact absurd k hl
     refine⟨List.pairwise_cons.2 ⟨fun p hp=> ?_,h1⟩,fun p hp=> ?_⟩
     ·rcases List.mem_cons.1 hp with rfl|hp
      ·exact jG
      ·exact zb4 jG (hx p hp)
     ·rcases List.mem_cons.1 hp with rfl|hp
      ·exact gK
      ·exact h2 p hp
theorem zdG {n:ByteArray}: ∀ {l:Parts},(∀p∈l,p.1≠n)->zag l n=0/\za0 l n=l
 | [],_=>⟨rfl,rfl⟩
 |x::r,h=>by
  have ih:=zdG (l:=r) fun p hp=>h p (by simp[hp])
  have hx:zaf x.1 n=false:=zcn.2 (h x (by simp));unfold zag za0 at*;rw[List.find?_cons,hx,List.filter_cons,hx];exact⟨ih.1,by simpa using ih.2⟩
theorem zch {n:ByteArray}: ∀ {l:Parts},GoodParts l->sumQ (za0 l n)+zag l n=sumQ l
 | [],_=>by simp only[za0,zag,sumQ,List.filter_nil,List.find?_nil,Option.map_none,Option.getD_none];grind
 |x::r,⟨h1,h2⟩=>by
  have hr:GoodParts r:=⟨(List.pairwise_cons.1 h1).2,fun p hp=>h2 p (by simp[hp])⟩
  have hx:=(List.pairwise_cons.1 h1).1;have ih:=zch (n:=n) hr;by_cases hs:x.1=n
  ·have hn:=zdG (n:=n) (l:=r) fun p hp e=>by
    have:=zcH (hx p hp);exact this (by rw[e,hs])
   have e1:za0 (x::r) n=za0 r n:=by
    unfold za0;rw[List.filter_cons,za2.2 hs];rfl
   have e2:zag (x::r) n=x.2:=by
    unfold zag;rw[List.find?_cons,za2.2 hs];rfl
   rw[e1,e2,hn.2,sumQ];grind
  ·have hf:zaf x.1 n=false:=zcn.2 hs;have e1:za0 (x::r) n=x::za0 r n:=by
    unfold za0;rw[List.filter_cons,hf];rfl
   have e2:zag (x::r) n=zag r n:=by
    unfold zag;rw[List.find?_cons,hf]
   rw[e1,e2,sumQ,sumQ,<-ih];grind
theorem zbI {n:ByteArray} {l:Parts} (h:GoodParts l):GoodParts (za0 l n):=
 ⟨h.asc.sublist List.filter_sublist,fun p hp=>h.pos p ((List.mem_filter.1 hp).1)⟩
theorem zbp: ∀ {l:Parts},(∀p∈l,0<=p.2)->0<=sumQ l
 | [],_=>by simp[sumQ]
 |x::r,h=>by
  have ih:=zbp (l:=r) fun p hp=>h p (by simp[hp])
  have hx:=h x (by simp);rw[sumQ];grind
theorem zgV: ∀ {l:Parts},(∀p∈l,0<=p.2)-> ∀p∈l,p.2<=sumQ l
 |x::r,h,p,hp=>by
  have hr:=zbp (l:=r) fun p hp=>h p (by simp[hp])
  have hx:=h x (by simp);rw[sumQ];rcases List.mem_cons.1 hp with rfl|hp
  ·grind
  ·have:=zgV (l:=r) (fun p hp=>h p (by simp[hp])) p hp;grind
mutual
def okT:Tree->Bool
 | .leaf _=>true
 | .node l=>!l.isEmpty&&okL l
def okL:List Tree->Bool
 | []=>true
 |x::l=>okT x&&okL l
end
theorem zmw: ∀ {l:List Tree},okL l=true↔ ∀x∈l,okT x=true
 | []=>by simp[okL]
 |x::l=>by rw[okL,Bool.and_eq_true,zmw];simp
theorem zkj (s:St) (stems:Bool) (frm:ByteArray): ∀(f:Nat) (n:ByteArray),okL (zb5 s stems frm f n)=true
 |0,_=>rfl
 |f+1,n=>by
  rw[zmw];intro x hx;rw[zb5,List.mem_filterMap]at hx;obtain⟨c,_,hc⟩:=hx;split at hc
  ·cases hc;rfl
  ·split at hc
   ·rename_i hs
    cases hc;rw[Bool.and_eq_true]at hs;rw[okT,hs.2,zkj s stems frm f c];rfl
   ·cases hc
theorem ratN {n:Nat} (h:n≠0):(n:Rat)≠0:=by
 intro e;apply h;have:((n:Int):Rat)=((0:Int):Rat):=by simpa using e
 have:=Rat.intCast_inj.1 this;omega
theorem zcE {a b:Rat} (h:0<=a) (hb:0<=b):0<=a/b:=by
 rw[Rat.div_def];by_cases h0:b=0
 ·subst h0;rw[Rat.inv_zero];grind
 ·have:0<b⁻¹:=Rat.inv_pos.2 (by grind);exact Rat.mul_nonneg h (by grind)
mutual
theorem zgW {each:Rat}: ∀ {l:List Tree} {out o:Parts},okL l=true->zbE each l out=some o->sumQ o=sumQ out+each*(l.length:Rat)
 | [],out,o,_,h=>by
   rw[zbE]at h;cases h;simp only[List.length_nil];have:((0:Nat):Rat)=0:=rfl;grind
 |x::l,out,o,hk,h=>by
  rw[okL,Bool.and_eq_true]at hk;rw[zbE,Option.bind_eq_some_iff]at h;obtain⟨o1,h1,h2⟩:=h;have e1:=znA hk.1 h1;have e2:=zgW hk.2 h2;rw[e2,e1,List.length_cons];have:((l.length+1:Nat):Rat)=(l.length:Rat)+1:=by simp
  grind
theorem znA {each:Rat}: ∀ {x:Tree} {out o:Parts},okT x=true->zem each x out=some o->sumQ o=sumQ out+each
 | .leaf n,out,o,_,h=>by
   rw[zem]at h;split at h
   ·cases h
   ·cases h;exact zbZ n each out
 | .node l,out,o,hk,h=>by
   rw[okT,Bool.and_eq_true]at hk;rw[zem]at h;split at h
   ·cases h
   ·have e:=zgW hk.2 h;rw[e];have h0:l.length≠0:=by
     intro e0;have:=List.eq_nil_of_length_eq_zero e0;rw[this]at hk;exact absurd hk.1 (by decide)
    have:=ratN h0;grind
end
mutual
theorem ze5 {each:Rat} (he:0<=each): ∀ {l:List Tree} {out o:Parts},GoodParts out->zaF out=false->zbE each l out=some o->GoodParts o/\zaF o=false
 | [],out,o,hg,hl,h=>by
   rw[zbE]at h;cases h;exact⟨hg,hl⟩
 |x::l,out,o,hg,hl,h=>by
  rw[zbE,Option.bind_eq_some_iff]at h;obtain⟨o1,h1,h2⟩:=h;have e1:=zik he hg hl h1;exact ze5 he e1.1 e1.2 h2
theorem zik {each:Rat} (he:0<=each): ∀ {x:Tree} {out o:Parts},GoodParts out->zaF out=false->zem each x out=some o->GoodParts o/\zaF o=false
 | .leaf n,out,o,hg,hl,h=>by
   rw[zem]at h;split at h
   ·cases h
   ·rename_i hb
    cases h;exact⟨zbv he hg,by simpa using hb⟩
 | .node l,out,o,hg,hl,h=>by
   rw[zem]at h;split at h
   ·cases h
   ·exact ze5 (zcE he Rat.natCast_nonneg) hg hl h
end
def IsN (n:Nat) (q:Rat):Prop:= ∃k:Int,q*(n:Rat)=(k:Rat)
theorem zkk {n:Nat} {p q:Rat} (h:IsN n p) (k:IsN n q):IsN n (p+q):=by
 obtain⟨a,ha⟩:=h;obtain⟨b,hb⟩:=k;refine⟨a+b,?_⟩;rw[Rat.intCast_add,<-ha,<-hb];grind
theorem zgX {n:Nat} {p q:Rat} (h:IsN n p) (k:IsN n q):IsN n (p-q):=by
 obtain⟨a,ha⟩:=h;obtain⟨b,hb⟩:=k;refine⟨a-b,?_⟩;rw[Rat.intCast_sub,<-ha,<-hb];grind
theorem zkl {n m:Nat} {p q:Rat} (h:IsN n p) (k:IsN m q):IsN (n*m) (p*q):=by
 obtain⟨a,ha⟩:=h;obtain⟨b,hb⟩:=k;refine⟨a*b,?_⟩;rw[Rat.intCast_mul,<-ha,<-hb,Rat.natCast_mul];grind
theorem zle {n m:Nat} {q:Rat} (h:IsN n q):IsN (n*m) q:=by
 obtain⟨a,ha⟩:=h;refine⟨a*m,?_⟩;rw[Rat.intCast_mul,<-ha,Rat.natCast_mul,Rat.intCast_natCast];grind
theorem zgY (n:Nat):IsN n 1:=⟨n,by rw[Rat.intCast_natCast];grind⟩
theorem zkm (n:Nat):IsN n 0:=⟨0,by grind⟩
theorem zkn {n:Nat} {q:Rat} (hn:0<n) (h:IsN n q):(q.den:Int)<=n:=by
 obtain⟨a,ha⟩:=h;have h0:=ratN (n:=n) (by omega);have e:q=Rat.divInt a n:=by
  rw[Rat.divInt_eq_div,Rat.intCast_natCast,<-ha];grind
 rw[e,zek (by omega)];exact Int.ediv_le_self _ (by omega)
theorem zep {num den:Int} (h:za9 16 num den=true):IsN 720720 (Rat.divInt num den):=by
 have hs:=zbj h;unfold za9 at h;simp only[Bool.and_eq_true,decide_eq_true_eq]at h;obtain⟨⟨⟨h1,h2⟩,_⟩,_⟩:=h;obtain⟨m,hm⟩: ∃m:Int,720720=den*m:=by
  have:den=1\/den=2\/den=3\/den=4\/den=5\/den=6\/den=7\/den=8\/den=9\/den=10\/den=11\/den=12\/den=13\/den=14\/den=15\/den=16:=by omega
  rcases this with rfl|rfl|rfl|rfl|rfl|rfl|rfl|rfl|rfl|rfl|rfl|rfl|rfl|rfl|rfl|rfl
  all_goals first|exact⟨720720,rfl⟩|exact⟨360360,rfl⟩|exact⟨240240,rfl⟩|exact⟨180180,rfl⟩|exact⟨144144,rfl⟩|exact⟨120120,rfl⟩|exact⟨102960,rfl⟩|exact⟨90090,rfl⟩|exact⟨80080,rfl⟩|exact⟨72072,rfl⟩|exact⟨65520,rfl⟩|exact⟨60060,rfl⟩|exact⟨55440,rfl⟩|exact⟨51480,rfl⟩|exact⟨48048,rfl⟩|exact⟨45045,rfl⟩
 refine⟨num*m,?_⟩;have hd:(den:Rat)≠0:=ratI (by omega);have e:((720720:Nat):Rat)=(den:Rat)*(m:Rat):=by
  rw[<-Rat.intCast_mul,<-hm];rfl
 rw[Rat.divInt_eq_div,e,Rat.intCast_mul];grind
theorem zcF {n:Nat} {nm:ByteArray} {q:Rat} (hq:IsN n q): ∀ {l:Parts},(∀p∈l,IsN n p.2)-> ∀p∈za4 l nm q,IsN n p.2
 | [],_,p,hp=>by
   unfold za4 at hp;split at hp
   ·cases hp
   ·simp at hp;rw[hp];exact hq
 |x::r,h,p,hp=>by
  have hr:=zcF (nm:=nm) hq (l:=r) fun p hp=>h p (by simp[hp])
  unfold za4 at hp;split at hp
  ·exact h p hp
  ·split at hp
   ·rcases List.mem_cons.1 hp with rfl|hp
    ·exact h _ (by simp)
    ·exact hr p hp
   ·split at hp
    ·rcases List.mem_cons.1 hp with rfl|hp
     ·exact zkk (h x (by simp)) hq
     ·exact h p (by simp[hp])
    ·rcases List.mem_cons.1 hp with rfl|hp
     ·exact hq
     ·exact h p hp
theorem zc4 {n:Nat} (h0:0<n) (h1:n<=1000000000) {l:Parts} (h: ∀p∈l,IsN n p.2):zaF l=false:=by
 unfold zaF;rw[List.any_eq_false];intro p hp;have:=zkn h0 (h p hp);unfold bigQ;simp;omega
structure WillOk (l:Parts):Prop where
 pos: ∀p∈l,0<p.2
 isN: ∀p∈l,IsN 720720 p.2
 le:sumQ l<=1
theorem zil {s:St} {frm:ByteArray}: ∀ {l out:Parts} {rest:Rat},(∀p∈l,0<p.2)->(∀p∈l,IsN 720720 p.2)->sumQ l<=rest->GoodParts out->(∀p∈out,IsN 720720 p.2)->IsN 720720 rest->
 GoodParts (zcp s frm l out rest).1/\(∀p∈(zcp s frm l out rest).1,IsN 720720 p.2)/\IsN 720720 (zcp s frm l out rest).2/\0<=(zcp s frm l out rest).2/\sumQ (zcp s frm l out rest).1+(zcp s frm l out rest).2=sumQ out+rest
 | [],out,rest,_,_,hs,hg,hn,hr=>by
   rw[zcp];exact⟨hg,hn,hr,by simpa[sumQ]using hs,rfl⟩
 |p::l,out,rest,hp,hN,hs,hg,hn,hr=>by
  have iX:=hp p (by simp);have hl:=fun q (hq:q∈l)=>hp q (by simp[hq])
  have vI:=fun q (hq:q∈l)=>hN q (by simp[hq])
  rw[sumQ]at hs;rw[zcp];split
  ·have ih:=zil (s:=s) (frm:=frm) hl vI (rest:=rest-p.2) (out:=za4 out p.1 p.2) (by grind) (zbv (by grind) hg) (zcF (hN p (by simp)) hn) (zgX hr (hN p (by simp)));refine⟨ih.1,ih.2.1,ih.2.2.1,ih.2.2.2.1,?_⟩;rw[ih.2.2.2.2,zbZ];grind
  ·exact zil (s:=s) (frm:=frm) hl vI (by grind) hg hn hr
theorem zd7:GoodParts []:=⟨List.Pairwise.nil,by simp⟩
theorem ze6 {s:St} {law:Law} {n:ByteArray} {o:Parts} (hw:WillOk (zbs s n)) (hl:za9 16 law.num law.den=true) (h:zct s law n=some o):GoodParts o/\sumQ o=1/\zaF o=false:=by
 unfold zct at h;have hg:=zil (s:=s) (frm:=n) (out:=[]) (rest:=1) hw.pos hw.isN hw.le zd7 (by simp) (zgY _);generalize hq:zcp s n (zbs s n) [] 1=q at*;obtain⟨out,rest⟩:=q;dsimp only at h hg;obtain⟨g1,g2,g3,g4,g5⟩:=hg;rw[sumQ]at g5;split at h
 ·rename_i h0
  cases h;have:rest=0:=by simpa using h0
  exact⟨g1,by grind,zc4 (by decide) (by decide) g2⟩
 rename_i h0
 have pV:rest≠0:=by simpa using h0
 generalize cn:(if zdZ s (zaJ s n) n=true then zaJ s n else⟨#[]⟩)=sp at*;split at h
 ·cases h;refine⟨zbv g4 g1,by rw[zbZ];grind,zc4 (by decide) (by decide) (zcF g3 g2)⟩
 rename_i ai
 have ag:(zb5 s law.stems n (zaW s) n).length≠0:=by
  intro e;rw[List.eq_nil_of_length_eq_zero e]at ai;exact ai rfl
 have bJ:=zkj s law.stems n (zaW s) n;generalize zb5 s law.stems n (zaW s) n=ts at*;obtain⟨_,_,l1,l2⟩:=zbj hl;have hd:za9 16 law.num law.den=true:=hl;have hN:IsN 720720 (Rat.divInt law.num law.den):=zep hl;have key: ∃own out2,own=(if noB sp=true then 0 else rest*Rat.divInt law.num law.den)/\out2=(if noB sp=true then out else za4 out sp own)/\0<=own/\own<=rest/\GoodParts out2/\sumQ out2=sumQ out+own/\zaF out2=false:=by
  by_cases hs:noB sp=true
  ·exact⟨0,out,by rw[if_pos hs],by rw[if_pos hs],by grind,g4,g1,by grind,zc4 (by decide) (by decide) g2⟩
  ·have h1:0<=rest*Rat.divInt law.num law.den:=Rat.mul_nonneg g4 l1;have h2:rest*Rat.divInt law.num law.den<=rest:=by
    have:=Rat.mul_le_mul_of_nonneg_left l2 g4;grind
   refine⟨rest*Rat.divInt law.num law.den,za4 out sp (rest*Rat.divInt law.num law.den),by rw[if_neg hs],by rw[if_neg hs],h1,h2,zbv h1 g1,zbZ _ _ _,?_⟩;have gZ: ∃d:Nat,0<d/\d<=16/\IsN d (Rat.divInt law.num law.den):=by
    unfold za9 at hd;simp only[Bool.and_eq_true,decide_eq_true_eq]at hd;refine⟨law.den.toNat,by omega,by omega,law.num,?_⟩;have hz:(law.den:Rat)≠0:=ratI (by omega);have e:((law.den.toNat:Nat):Rat)=(law.den:Rat):=by rw[<-Rat.intCast_natCast,Int.toNat_of_nonneg (by omega)]
    rw[Rat.divInt_eq_div,e];grind
   obtain⟨d,d0,d1,CQ⟩:=gZ;exact zc4 (n:=720720*d) (by omega) (by omega) (zcF (zkl g3 CQ) fun p hp=>zle (g2 p hp))
 obtain⟨own,out2,ho,tT,k0,k1,k2,k3,k4⟩:=key;rw[<-ho,<-tT]at h;split at h
 ·rename_i hz
  cases h;have:rest-own=0:=by simpa using hz
  exact⟨k2,by grind,k4⟩
 ·split at h
  ·cases h
  ·have i8:0<=(rest-own)/(ts.length:Rat):=zcE (by grind) Rat.natCast_nonneg;obtain⟨m1,m2⟩:=ze5 i8 k2 k4 h;refine⟨m1,?_,m2⟩;rw[zgW bJ h,k3];have:=ratN ag;grind
theorem zim {own:Rat} (h0:0<=own): ∀ {l out o:Parts},(∀p∈l,0<=p.2)->GoodParts out->zaF out=false->zb8 own l out=some o->GoodParts o/\zaF o=false/\sumQ o=sumQ out+own*sumQ l
 | [],out,o,_,hg,hl,h=>by
   rw[zb8]at h;cases h;exact⟨hg,hl,by rw[sumQ];grind⟩
 |p::l,out,o,hp,hg,hl,h=>by
  rw[zb8]at h;split at h
  ·cases h
  split at h
  ·cases h
  ·rename_i hb
   have hm:0<=own*p.2:=Rat.mul_nonneg h0 (hp p (by simp));obtain⟨h1,h2,h3⟩:=zim h0 (fun q hq=>hp q (by simp[hq])) (zbv hm hg) (by simpa using hb) h;refine⟨h1,h2,?_⟩;rw[h3,zbZ,sumQ];grind
structure GoodG (g:Grave):Prop where
 good:GoodParts g.holders
 small:zaF g.holders=false
 one:g.holders=[]\/sumQ g.holders=1
theorem zbA {l:Parts} (h:GoodParts l) (n:ByteArray):0<=zag l n:=by
 unfold zag;cases hf:l.find? (fun p=>zaf p.1 n)with
 |none=>exact Rat.le_refl
 |some p=>
  have:=h.pos p (List.mem_of_find?_eq_some hf);show 0<=p.2;grind
theorem zdm {l:Parts} {n:ByteArray} (h:zag l n≠0):l≠[]:=by
 rintro rfl;exact h rfl
theorem large_sub {l m:Parts} (h: ∀p∈m,p∈l) (hl:zaF l=false):zaF m=false:=by
 unfold zaF at*;rw[List.any_eq_false]at*;exact fun p hp=>hl p (h p hp)
theorem zd8 {l:Parts} (n:ByteArray) (h:zaF l=false):zaF (za0 l n)=false:=large_sub (fun p hp=>(List.mem_filter.1 hp).1) h
theorem zfU {n:ByteArray} {q:Rat} (hq:bigQ q=false): ∀ {l:Parts},(∀p∈l,p.1≠n)->zaF l=false->zaF (za4 l n q)=false
 | [],_,_=>by
   unfold za4;split
   ·rfl
   ·simp[zaF,hq]
 |x::r,hn,hl=>by
  have pJ:bigQ x.2=false/\zaF r=false:=by simpa[zaF]using hl
  have ih:=zfU hq (l:=r) (fun p hp=>hn p (by simp[hp])) pJ.2;unfold za4;split
  ·exact hl
  ·split
   ·unfold zaF at ih⊢;rw[List.any_cons,pJ.1,ih];rfl
   ·split
    ·rename_i hs
     exact absurd (za2.1 hs) (hn x (by simp))
    ·unfold zaF at hl⊢;rw[List.any_cons,hq,hl];rfl
theorem zj2 {l:Parts} {n:ByteArray}: ∀p∈za0 l n,p.1≠n:=by
 intro p hp;unfold za0 at hp;have:=(List.mem_filter.1 hp).2;exact zcn.1 (by simpa using this)
theorem zko {g:Grave} {frm:ByteArray} {l out:Parts} (hg:GoodG g) (hs:zag g.holders frm≠0) (hp: ∀p∈l,0<p.2) (hl:sumQ l<=1) (hk:bigQ (zag g.holders frm*(1-sumQ l))=false)
 (h:zb8 (zag g.holders frm) l (za4 (za0 g.holders frm) frm (zag g.holders frm*(1-sumQ l)))=some out):GoodG {g with holders:=out}:=by
 have h0:=zbA hg.good frm;have jC:0<=zag g.holders frm*(1-sumQ l):=Rat.mul_nonneg h0 (by grind);obtain⟨h1,h2,h3⟩:=zim h0 (fun p KP=>by have:=hp p KP;grind) (zbv jC (zbI hg.good)) (zfU hk zj2 (zd8 frm hg.small)) h;refine⟨h1,h2, .inr ?_⟩;have hw:=zch (n:=frm) hg.good;rcases hg.one with e|e
 ·exact absurd e (zdm hs)
 ·show sumQ out=1;rw[h3,zbZ];grind
theorem sum_div (d:Rat): ∀l:Parts,sumQ (l.map fun p=>(p.1,p.2/d))=sumQ l/d
 | []=>by simp only[List.map_nil,sumQ];rw[Rat.div_def];grind
 |p::l=>by
  rw[List.map_cons,sumQ,sumQ,sum_div d l];rw[Rat.div_def,Rat.div_def,Rat.div_def];grind
theorem sum_zero {l:Parts} (h: ∀p∈l,0<p.2) (hs:sumQ l=0):l=[]:=by
 cases l with
 |nil=>rfl
 |cons x r=>
  have hx:=h x (by simp);have:=zbp (l:=r) fun p hp=>by have:=h p (by simp[hp]);grind
  rw[sumQ]at hs;grind
theorem zj3 {l:Parts} (h: ∀p∈l,0<p.2):0<=sumQ l:=zbp fun p hp=>by have:=h p hp;grind
theorem zjk {g:Grave} {frm:ByteArray} (hg:GoodG g) (hs:zag g.holders frm≠0) (hl:zaF ((za0 g.holders frm).map fun p=>(p.1,p.2/(1-zag g.holders frm)))=false):
 GoodG {g with holders:=(za0 g.holders frm).map fun p=>(p.1,p.2/(1-zag g.holders frm))}:=by
 have hw:=zch (n:=frm) hg.good;have h1:sumQ g.holders=1:=by
  rcases hg.one with e|e
  ·exact absurd e (zdm hs)
  ·exact e
 have iQ:=zbI (n:=frm) hg.good;have i8:=zj3 iQ.pos;by_cases hz:1-zag g.holders frm=0
 ·have he:za0 g.holders frm=[]:=sum_zero iQ.pos (by grind);have e2:((za0 g.holders frm).map fun p=>(p.1,p.2/(1-zag g.holders frm)))=[]:=by rw[he];rfl
  rw[e2];exact⟨zd7,rfl, .inl rfl⟩
 ·have hd:0<1-zag g.holders frm:=by grind
  refine⟨⟨List.pairwise_map.2 iQ.asc,fun p hp=> ?_⟩,hl, .inr ?_⟩
  ·obtain⟨q,hq,rfl⟩:=List.mem_map.1 hp;have:=iQ.pos q hq;show 0<q.2/(1-zag g.holders frm);rw[Rat.div_def];exact Rat.mul_pos this (Rat.inv_pos.2 hd)
  ·show sumQ _=1;rw[sum_div,show sumQ (za0 g.holders frm)=1-zag g.holders frm by grind,Rat.div_def];exact Rat.mul_inv_cancel _ hz
theorem zlf {g:Grave} {n:ByteArray} {bD out:Parts} (hg:GoodG g) (hs:zag g.holders n≠0) (hh:GoodParts bD) (h1:sumQ bD=1) (h:zb8 (zag g.holders n) bD (za0 g.holders n)=some out):GoodG {g with holders:=out,died:=g.died++[n]}:=by
 obtain⟨k1,k2,k3⟩:=zim (zbA hg.good n) (fun p hp=>by have:=hh.pos p hp;grind) (zbI hg.good) (zd8 n hg.small) h;refine⟨k1,k2, .inr ?_⟩;have hw:=zch (n:=n) hg.good;rcases hg.one with e|e
 ·exact absurd e (zdm hs)
 ·show sumQ out=1;rw[k3,h1];grind
theorem zgp {s:ByteArray} (h:zaR s=true):noB s=false:=by
 unfold zaR at h;simp only[Bool.and_eq_true,Bool.not_eq_true']at h;exact h.2.1
structure OkD (d:Deed):Prop where
 kind:0<=d.kind/\d.kind<=8
 day:0<=d.day/\d.day<=200000
 years:0<=d.years/\d.years<=99
 cls:0<=d.cls/\d.cls<=4
 len:d.to.length<=8
 names: ∀p∈d.to,zaR p.name=true
 place:(d.kind=0\/d.kind=1\/d.kind=2\/d.kind=3)->zaR d.place=true
 frm: ¬(d.kind=0\/d.kind=3)->zaR d.frm=true
 grantor:(d.kind=0\/d.kind=3)->noB d.frm=true
 parts:(d.kind=0\/d.kind=1\/d.kind=4)->d.to≠[]/\zcB true (d.kind==0) d.frm d.to=true
 one:(d.kind=5\/d.kind=6\/d.kind=7)->d.to.length=1/\zcB false false d.frm d.to=true
 none:(d.kind=2\/d.kind=3\/d.kind=8)->d.to=[]
theorem zf6 {n lo hi:Int}:inR n lo hi=true↔lo<=n/\n<=hi:=by unfold inR;simp
theorem zdP {d:Deed} (h:za5 d=0):OkD d:=by
 unfold za5 at h;split at h
 ·simp at h
 rename_i h1
 split at h
 ·simp at h
 rename_i h2
 split at h
 ·simp at h
 rename_i h3
 split at h
 ·simp at h
 rename_i h4
 split at h
 ·simp at h
 rename_i h5
 simp only[Bool.not_eq_true',Bool.not_eq_false,zf6]at h1;simp only[Bool.or_eq_true,Bool.not_eq_true',not_or,Bool.not_eq_false,zbk,zf6]at h2;simp only[Bool.or_eq_true,Bool.not_eq_true',not_or,Bool.not_eq_false,List.all_eq_true,zbx]at h4;simp only[Bool.not_eq_true',Bool.not_eq_false]at h5;simp only[decide_eq_true_eq,Nat.not_lt]at h3;unfold zfS at h5;obtain⟨⟨hd,hc⟩,hy⟩:=h2;obtain⟨⟨hp,hf⟩,hn⟩:=h4;have fT:d.kind=0\/d.kind=1\/d.kind=2\/d.kind=3\/d.kind=4\/d.kind=5\/d.kind=6\/d.kind=7\/d.kind=8:=by omega
 refine⟨h1,hd,hy,hc,h3,hn,?_,?_,?_,?_,?_,?_⟩;all_goals rcases fT with k|k|k|k|k|k|k|k|k<;>simp_all
theorem zin {s:St} {a b x:ByteArray}:zai {s with children:=s.children++[(a,b)]} x=zai s x++(if zaf a x then[b]else[]):=by
 unfold zai;rw[List.filter_append,List.map_append];congr 1
 by_cases h:zaf a x=true
 ·rw[if_pos h,List.filter_cons,if_pos h];rfl
 ·rw[if_neg h,List.filter_cons,if_neg h];rfl
theorem zmx {s:St} {a b:ByteArray} (h: ∀x,¬Desc s x x) (hn: ¬Desc s b a) (ai:a≠b): ∀x,¬Desc {s with children:=s.children++[(a,b)]} x x:=by
 have key: ∀x y,Desc {s with children:=s.children++[(a,b)]} x y->Desc s x y\/((x=a\/Desc s x a)/\(y=b\/Desc s b y)):=by
  intro x y uc;unfold Desc at uc;induction uc with
  |single hc=>
   rw[zin]at hc;rcases List.mem_append.1 hc with hc|hc
   ·exact .inl (zf5 hc)
   ·split at hc
    ·rename_i hs
     simp only[List.mem_singleton]at hc;exact .inr ⟨.inl (za2.1 hs).symm, .inl hc⟩
    ·cases hc
  |tail _ hc ih=>
   rw[zin]at hc;rcases List.mem_append.1 hc with hc|hc
   ·rcases ih with ih|⟨i1,i2⟩
    ·exact .inl (zih ih hc)
    ·refine .inr ⟨i1, .inr ?_⟩;rcases i2 with i2|i2
     ·rw[i2]at hc;exact zf5 hc
     ·exact zih i2 hc
   ·split at hc
    ·rename_i hs
     simp only[List.mem_singleton]at hc;have e:=za2.1 hs;rcases ih with ih|⟨i1,i2⟩
     ·exact .inr ⟨.inr (by rw[e];exact ih), .inl hc⟩
     ·exfalso
      rcases i2 with i2|i2
      ·exact ai (e.trans i2)
      ·exact hn (by rw[e];exact i2)
    ·cases hc
 intro x hx;rcases key x x hx with k|⟨k1,k2⟩
 ·exact h x k
 ·rcases k1 with rfl|k1<;>rcases k2 with k2|k2
  ·exact ai k2
  ·exact hn k2
  ·rw[k2]at k1;exact hn k1
  ·exact hn (zgU k2 k1)
structure GoodSt (s:St) (last:Int):Prop where
 graves: ∀g∈s.graves,GoodG g
 force: ∀(i j:Nat) (gi gj:Grave),s.graves[i]?=some gi->s.graves[j]?=some gj->gi.place=gj.place-> ∀day,last<=day->zaU gi day=true->zaU gj day=true->i=j
 wills: ∀n,WillOk (zbs s n)
 acyc: ∀a,¬Desc s a a
 kids: ∀c∈s.children,noB c.1=false/\noB c.2=false
 marr: ∀m∈s.marriages,m.1≠m.2/\noB m.1=false/\noB m.2=false
 willNames: ∀w∈s.wills,∀p∈w.2,noB p.1=false
 dead: ∀n∈s.dead,noB n=false
theorem zdQ (last:Int):GoodSt zbz last:=by
 refine⟨by simp[zbz],by simp[zbz],fun n=>⟨by simp[zbz,zbs],by simp[zbz,zbs],by simp only[zbz,zbs,List.reverse_nil,List.find?_nil,Option.map_none,Option.getD_none,sumQ];decide⟩,fun a=>zii rfl,by simp[zbz],by simp[zbz],by simp[zbz],by simp[zbz]⟩
theorem zgZ {g:Grave} {d e:Int} (h:d<=e) (hf:zaU g e=true):zaU g d=true:=by
 unfold zaU at*;simp only[Bool.and_eq_true,Bool.or_eq_true,decide_eq_true_eq]at*;refine⟨hf.1,?_⟩;rcases hf.2 with k|k
 ·exact .inl k
 ·exact .inr (by omega)
theorem zbJ {s:St} {place:ByteArray} {day:Int} {i:Nat} (h:zaO s place day=some i): ∃g,s.graves[i]?=some g/\g.place=place/\zaU g day=true:=by
 unfold zaO at h;rw[List.findIdx?_eq_some_iff_getElem]at h;obtain⟨hi,h1,_⟩:=h;rw[Bool.and_eq_true,za2]at h1;exact⟨_,List.getElem?_eq_getElem hi,h1.1,h1.2⟩
theorem zhr {s:St} {place:ByteArray} {day:Int} (h:zaO s place day=none): ∀g∈s.graves,g.place=place->zaU g day=false:=by
 unfold zaO at h;rw[List.findIdx?_eq_none_iff]at h;intro g hg hp;have:=h g hg;rw[za2.2 hp,Bool.true_and]at this;exact this
end Go.Proofs.YtjhbofabmpfniaaGreatDoor
namespace Go.Proofs.YtjhbofabmpfniaaGreatDoor
open Go.RowKit Go.Shelf
def zlg:Go.Shelf.Ren:=⟨fun|6=>152|15=>145|14=>211|28=>208|29=>209|20=>227|21=>247|22=>248|23=>249|24=>250|25=>251|26=>252|27=>253|46=>264|47=>243|48=>244|49=>265|50=>266|57=>277|n=>n,fun|22=>39|24=>75|25=>170|3=>3|39=>190|0=>0|53=>239|55=>241|4=>4|46=>232|45=>231|50=>182|5=>5|9=>9|66=>265|70=>269|76=>280|77=>281|n=>n,fun|n=>n⟩
theorem znB:Go.Proofs.SlLaysF0.n6 Tryz.prog zlg:= {
 mixed:=by kernel_rfl
 f6:=⟨Tryz.f152.name,by decide,Tryz.func152.trans (congrArg some (by kernel_rfl))⟩
 f14:=⟨Tryz.f211.name,by decide,Tryz.func211.trans (congrArg some (by kernel_rfl))⟩
 f15:=Tryz.func145.trans (congrArg some (by kernel_rfl))
 f20:=⟨Tryz.f227.name,by decide,Tryz.func227.trans (congrArg some (by kernel_rfl))⟩
 f21:=⟨Tryz.f247.name,by decide,Tryz.func247.trans (congrArg some (by kernel_rfl))⟩
 f22:=⟨Tryz.f248.name,by decide,Tryz.func248.trans (congrArg some (by kernel_rfl))⟩
 f23:=⟨Tryz.f249.name,by decide,Tryz.func249.trans (congrArg some (by kernel_rfl))⟩
 f24:=⟨Tryz.f250.name,by decide,Tryz.func250.trans (congrArg some (by kernel_rfl))⟩
 f25:=⟨Tryz.f251.name,by decide,Tryz.func251.trans (congrArg some (by kernel_rfl))⟩
 f26:=⟨Tryz.f252.name,by decide,Tryz.func252.trans (congrArg some (by kernel_rfl))⟩
 f27:=⟨Tryz.f253.name,by decide,Tryz.func253.trans (congrArg some (by kernel_rfl))⟩
 f28:=Tryz.func208.trans (congrArg some (by kernel_rfl))
 f29:=Tryz.func209.trans (congrArg some (by kernel_rfl))
 f46:=⟨Tryz.f264.name,by decide,Tryz.func264.trans (congrArg some (by kernel_rfl))⟩
 f47:=Tryz.func243.trans (congrArg some (by kernel_rfl))
 f48:=Tryz.func244.trans (congrArg some (by kernel_rfl))
 f49:=⟨Tryz.f265.name,by decide,Tryz.func265.trans (congrArg some (by kernel_rfl))⟩
 f50:=⟨Tryz.f266.name,by decide,Tryz.func266.trans (congrArg some (by kernel_rfl))⟩
 f57:=⟨Tryz.f277.name,by decide,Tryz.func277.trans (congrArg some (by kernel_rfl))⟩
 t0:=Tryz.underlying0
 a0:=Tryz.isAgg0
 z0:=Tryz.sizeOf0
 v0:=Tryz.zeroValue0
 t3:=Tryz.underlying3
 a3:=Tryz.isAgg3
 z3:=Tryz.sizeOf3
 v3:=Tryz.zeroValue3
 t4:=Tryz.underlying4
 a4:=Tryz.isAgg4
 z4:=Tryz.sizeOf4
 v4:=Tryz.zeroValue4
 t5:=Tryz.underlying5
 a5:=Tryz.isAgg5
 z5:=Tryz.sizeOf5
 v5:=Tryz.zeroValue5
 t9:=Tryz.underlying9
 a9:=Tryz.isAgg9
 z9:=Tryz.sizeOf9
 v9:=Tryz.zeroValue9
 t22:=Tryz.underlying39
 a22:=Tryz.isAgg39
 z22:=Tryz.sizeOf39
 v22:=Tryz.zeroValue39
 t25:=Tryz.underlying170
 a25:=Tryz.isAgg170
 z25:=Tryz.sizeOf170
 v25:=Tryz.zeroValue170
 t39:=Tryz.underlying190
 a39:=Tryz.isAgg190
 z39:=Tryz.sizeOf190
 v39:=Tryz.zeroValue190
 t45:=Tryz.underlying231
 a45:=Tryz.isAgg231
 z45:=Tryz.sizeOf231
 v45:=Tryz.zeroValue231
 t46:=Tryz.underlying232
 a46:=Tryz.isAgg232
 z46:=Tryz.sizeOf232
 v46:=Tryz.zeroValue232
 t50:=Tryz.underlying182
 a50:=Tryz.isAgg182
 z50:=Tryz.sizeOf182
 v50:=Tryz.zeroValue182
 t53:=Tryz.underlying239
 a53:=Tryz.isAgg239
 z53:=Tryz.sizeOf239
 v53:=Tryz.zeroValue239
 t55:=Tryz.underlying241
 a55:=Tryz.isAgg241
 z55:=Tryz.sizeOf241
 v55:=Tryz.zeroValue241
 t66:=Tryz.underlying265
 a66:=Tryz.isAgg265
 z66:=Tryz.sizeOf265
 v66:=Tryz.zeroValue265
 t70:=Tryz.underlying269
 a70:=Tryz.isAgg269
 z70:=Tryz.sizeOf269
 v70:=Tryz.zeroValue269
 t76:=Tryz.underlying280
 a76:=Tryz.isAgg280
 z76:=Tryz.sizeOf280
 v76:=Tryz.zeroValue280
 t77:=Tryz.underlying281
 a77:=Tryz.isAgg281
 z77:=Tryz.sizeOf281
 v77:=Tryz.zeroValue281}
end Go.Proofs.YtjhbofabmpfniaaGreatDoor
namespace Go.Proofs.YtjhbofabmpfniaaGreatDoor
open Go.ChangeShapes Go.WideShapes Go.ChangeAt Go.RowKit Go.Deep
theorem zmy {α:Type} {Q:Nat->α->Prop}: ∀n:Nat,(∀i,i<n-> ∃x,Q i x)-> ∃l:List α,l.length=n/\ ∀(i:Nat) (x:α),l[i]?=some x->Q i x
 |0,_=>⟨[],rfl,fun i x h=>by simp at h⟩
 |n+1,h=>by
  obtain⟨l,hl,hq⟩:=zmy n (fun i hi=>h i (by omega));obtain⟨x,hx⟩:=h n (by omega);refine⟨l++[x],by simp[hl],fun i y hy=> ?_⟩;by_cases hi:i<n
  ·rw[List.getElem?_append_left (by omega)]at hy;exact hq i y hy
  ·by_cases he:i=n
   ·subst he;rw[List.getElem?_append_right (by omega),hl]at hy;simp at hy;subst hy;exact hx
   ·rw[List.getElem?_append_right (by omega)]at hy;have:i-l.length≠0:=by omega
    obtain⟨m,hm⟩:=Nat.exists_eq_succ_of_ne_zero this;rw[hm]at hy;simp at hy
section
variable {H:Type} {enc:TypeId×Value->H} {P:Program} {w:World} {base:Nat} {spare:Nat->Bool} {held:Bool}
theorem zj4 {α:Type} {f:α->List Value} {size:Nat} (hsz:0<size) (ag: ∀x,(f x).length=size) {t e:TypeId} {fuel:Nat} {cs:List Value} {x:DataW H×List MemPlace} (ht:P.underlying t=some (.slice e)) (hC:P.cellsOf e=size)
 (mx: ∀(n:Nat) (cs:List Value) (y:DataW H×List MemPlace),DataW.trod enc P w base spare held n e cs=some y-> ∃s:α,cs=f s) (h:DataW.trod enc P w base spare held fuel t cs=some x):
 ∃(A:Option Addr) (n c:Nat) (xs:List α),cs=[.slice A n c]/\n=xs.length/\Sl w size f A xs/\xs.length<=c/\c<=maxLen:=by
 rcases open_slice ht h with⟨rfl,_⟩|⟨a,len,cap,m,n,D,Pl,rfl,_,hl,hm,cY,_,hi⟩
 ·exact⟨none,0,0,[],rfl,rfl,Sl.nil,Nat.le_refl _,Nat.zero_le _⟩
 ·have bN:len<=m:=by rw[cY];split<;>omega
  obtain⟨l,fg,hq⟩:=zmy (Q:=fun i (s:α)=> ∀j,j<size->w.cell? ((a.add (i*size)).add j)=(f s)[j]?) len (fun i f9=>by
   obtain⟨cs',hc,hr⟩:=hi i (by omega);obtain⟨s,rfl⟩:=mx _ _ _ hr;rw[hC]at hc
   exact⟨s,(World.cells?_some hc).2.2⟩)
  refine⟨some a,len,cap,l,rfl,fg.symm,fun hp=> ?_,by omega,hm⟩;have h0:0<l.length:=hp;have hx:=hq 0 l[0] (List.getElem?_eq_getElem h0) 0 hsz;have hv: ∃v,(f l[0])[0]?=some v:=⟨_,List.getElem?_eq_getElem (by rw[ag];exact hsz)⟩
  obtain⟨v,hv⟩:=hv;rw[hv]at hx;have cn:=World.cell?_spot hx;have cW:=World.block_lt_of_cell? _ _ hx;obtain⟨b,off,spot⟩:=a;have sD:spot=none:=by simpa[Addr.add]using cn
  subst sD;refine⟨b,off,rfl,by simpa[Addr.add]using cW,fun k y hy j u hu=> ?_⟩;have hj:j<size:=by have:=(List.getElem?_eq_some_iff.1 hu).1;rw[ag]at this;exact this
  have:=hq k y hy j hj;rw[hu]at this;rw[<-this];congr 1
  unfold Addr.add;split<;>split<;>simp_all<;>omega
end
theorem zlh {H:Type} {enc:TypeId×Value->H} {a:Assume} {C:Checked} {os:Os} {f:FuncId} {fn:Func} {s:ChangeSpec} {conds:List PathCond} {apart fresh handsOn again:Bool} {X:World->Array Value->Prop}
 (hX: ∀(w w':World) (args:Array Value),w.heap=w'.heap->X w args->X w' args)
 (own:ownKnob C.prog.godebug=none) (started:os.Started) (noInit:C.prog.inits.idxOf? f=none) (CV:C.prog.funcs[f]?=some fn)
 (witness: ∃(w:World) (tape:Tape) (i:Input),w.os=os/\(w.forCall tape i).Shaped C.prog/\i.vars=[]/\Input.okWide C.prog (w.forCall tape i) .any w.heap.size f i/\
   ((s.pre enc C.prog fn conds apart (w.forCall tape i).memory i.args/\X (w.forCall tape i).memory i.args)/\sizedMet enc C.prog fn (OpenSpec.ofChange s) apart (w.forCall tape i).memory i.args)/\a.holds C.prog (lone (Frame.enter C.prog f i.args .normal) [] (w.forCall tape i)))
 (contract: ∀(W:World) (base:Nat) (args:Array Value) (ds gs:List (DataW H)) (before:List MemPlace),
   (∀(j:Nat) t v,fn.params[j]?=some t->args[j]?=some v->Value.okWide C.prog W .any base t v)->
   DataW.Whole enc C.prog fn.params.toList s.vars apart W args.toList ds gs before->X W args->W.ShapedOpen C.prog->
   Calls C.prog f args W fun e W'=> ∃v,e= .returned v/\s.post enc C.prog fn apart fresh handsOn again W args v W'):
 ReturnsInHanded a C os f .any (fun w args=>(s.pre enc C.prog fn conds apart w args/\X w args)/\sizedMet enc C.prog fn (OpenSpec.ofChange s) apart w args) (s.post enc C.prog fn apart fresh handsOn again):=by
 refine returnsInHanded_of_calls own started noInit witness fun w tape i _ bO _ bJ sy _=> ?_
 obtain⟨_,_,_,fn',CW,_,_,_,_,iH⟩:=bJ;obtain rfl:fn'=fn:=Option.some.inj (CW.symm.trans CV);obtain⟨⟨⟨ds,gs,before,hw,_⟩,hx⟩,_⟩:=sy;refine(contract (w.forCall tape i) w.heap.size i.args ds gs before iH (DataW.Whole.of_heap (w':=w.forCall tape i) (by rfl) hw) (hX _ _ _ (by rfl) hx) bO).mono fun e W' h=> ?_
 obtain⟨v,rfl,hp⟩:=h;exact ChangeSpec.post_blind hp
theorem own_knob:ownKnob Tryz.prog.godebug=none:=by kernel_rfl
theorem laid_out:laidOutB Tryz.prog=true:=by kernel_rfl
end Go.Proofs.YtjhbofabmpfniaaGreatDoor
namespace Go.Proofs.YtjhbofabmpfniaaGreatDoor
open Go.RowKit
theorem znC: ∀(l:List Int) (i:Nat),nmGo l (i+1)=zjj l
 | [],_=>rfl
 |c::l,i=>by
  rw[nmGo,zjj,znC l (i+1)];have h:(!(zcW c)&&(i+1==0||(c != 45&&(decide (c<48)||decide (57<c)))))=(!zcW c&&!zkY c&&c != 45):=by
   cases zcW c
   ·have h0:(i+1==0)=false:=by simp
    rw[h0];by_cases h1:c=45
    ·subst h1;rfl
    ·have h2:(c != 45)=true:=by simpa using h1
     rw[h2,zkY];by_cases h3:c<48
     ·have h4: ¬48<=c:=by omega
      simp only[h3,h4,decide_true,decide_false,Bool.not_false,Bool.true_and,Bool.false_or,Bool.true_or,Bool.false_and]
     ·have h4:48<=c:=by omega
      by_cases h5:57<c
      ·have h6: ¬c<=57:=by omega
       simp only[h3,h4,h5,h6,decide_true,decide_false,Bool.not_false,Bool.true_and,Bool.false_or,Bool.true_or,Bool.false_and,Bool.or_true]
      ·have h6:c<=57:=by omega
       simp only[h3,h4,h5,h6,decide_true,decide_false,Bool.not_false,Bool.true_and,Bool.false_or,Bool.true_or,Bool.false_and,Bool.or_true,Bool.or_false,Bool.not_true]
   ·rfl
  rw[h]
theorem zmz (s:ByteArray):s.toList.isEmpty=decide ((s.size:Int)<1):=by
 have e:s.toList.length=s.size:=by rw[ByteArray.toList_eq,Array.length_toList];rfl
 generalize s.size=n at*;cases hl:s.toList with
 |nil=>
  rw[hl]at e;subst e;rfl
 |cons a l=>
  rw[hl,List.length_cons]at e;have h: ¬((n:Int)<1):=by omega
  rw[decide_eq_false h];rfl
theorem zdv (s:ByteArray):zaR s=zcA s:=by
 unfold zaR zcA;rw[zmz];have hl:=zgP s;cases hb:zdq s with
 |nil=>
  rw[hb]at hl;have h0:(s.size:Int)<1:=by simp at hl;omega
  simp[h0]
 |cons c l=>
  rw[hb]at hl;have h0: ¬(s.size:Int)<1:=by simp at hl;omega
  have h1:nmGo (c::l) 0=if !zcW c then false else zjj l:=by rw[nmGo,znC];simp
  rw[h1];simp only[h0,decide_false,Bool.not_false,Bool.true_and,Bool.false_or,List.getD_cons_zero,List.drop_succ_cons,List.drop_zero];cases zcW c<;>by_cases h2:(12:Int)<s.size<;>simp[h2]<;>omega
end Go.Proofs.YtjhbofabmpfniaaGreatDoor
