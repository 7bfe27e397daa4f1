/- Names are names for the program just when they are for the reference. -/
import Derived.Shelf.SlSortCmp.NoneTotal
import Derived.Test.YtckkbkdcdkhglaaGreatDoorU0
import Derived.Test.YtckkbkdcdkhglaaGreatDoorChecked
import Derived.LaidMore
import Derived.Lay
import Derived.Stop.Joined
import Derived.Stop.LaidErr
set_option linter.unusedSimpArgs false
set_option linter.unusedVariables false
set_option maxRecDepth 100000
set_option maxHeartbeats 4000000
namespace Go.Proofs.YtckkbkdcdkhglaaGreatDoor
open Go.RowKit
theorem zat {a b:ByteArray}:zae a b=true↔a=b:=by
 unfold zae;rw[beq_iff_eq,ByteArray.toList_eq,ByteArray.toList_eq];constructor
 ·intro h;exact ByteArray.ext (Array.ext' h)
 ·intro h;rw[h]
theorem zbW (a:ByteArray):zae a a=true:=zat.2 rfl
theorem zco {a b:ByteArray}:zae a b=false↔a≠b:=by rw[<-Bool.not_eq_true,zat]
theorem zfx {l:List ByteArray} {n:ByteArray}:l.any (zae n)=true↔n∈l:=by
 rw[List.any_eq_true];constructor
 ·rintro⟨x,hx,h⟩;rw[zat.1 h];exact hx
 ·intro h;exact⟨n,h,zbW n⟩
theorem zdr {s:St} {n c:ByteArray}:c∈zai s n↔(n,c)∈s.children:=by
 unfold zai;rw[List.mem_map];constructor
 ·rintro⟨p,hp,rfl⟩;rw[List.mem_filter,zat]at hp;rw[<-hp.2];exact hp.1
 ·intro h;exact⟨(n,c),List.mem_filter.2 ⟨h,zbW n⟩,rfl⟩
theorem zic {s:St} {n:ByteArray} {out:ByteArray->Prop} (h0: ∀c∈zai s n,out c) (h1: ∀x,out x-> ∀c∈zai s x,out c) {x:ByteArray} (h:Desc s n x):out x:=by
 unfold Desc at h;induction h with
 |single h=>exact h0 _ h
 |tail _ h ih=>exact h1 _ ih _ h
theorem zid {s:St} {n x c:ByteArray} (h:Desc s n x) (hc:c∈zai s x):Desc s n c:=Relation.TransGen.tail h hc
theorem zfy {s:St} {n c:ByteArray} (hc:c∈zai s n):Desc s n c:=Relation.TransGen.single hc
theorem zgP {s:St} {a b c:ByteArray} (h:Desc s a b) (k:Desc s b c):Desc s a c:=by
 unfold Desc at*;induction k with
 |single h'=>exact Relation.TransGen.tail h h'
 |tail _ h' ih=>exact Relation.TransGen.tail ih h'
theorem zie {s:St} {n x:ByteArray} (h0:zai s n=[]): ¬Desc s n x:=fun h=>zic (out:=fun _=>False) (by rw[h0];simp) (fun _ h=>h.elim) h
theorem zlc: ∀l:List UInt8,Op.bytesLess l l=false
 | []=>rfl
 |a::l=>by rw[Op.bytesLess,zlc l];simp
theorem zif: ∀ {a b c:List UInt8},Op.bytesLess a b=true->Op.bytesLess b c=true->Op.bytesLess a c=true
 |_,[],_,h,_=>by unfold Op.bytesLess at h;simp at h
 |_,_::_,[],_,h=>by unfold Op.bytesLess at h;simp at h
 | [],_::_,_::_,_,_=>rfl
 |a::x,b::y,c::z,h1,h2=>by
  have ih:= @zif x y z;simp only[Op.bytesLess,Bool.or_eq_true,decide_eq_true_eq,Bool.and_eq_true,beq_iff_eq,UInt8.lt_iff_toNat_lt]at h1 h2⊢;rcases h1 with h1|⟨rfl,h1⟩<;>rcases h2 with h2|⟨rfl,h2⟩
  ·exact .inl (by omega)
  ·exact .inl h1
  ·exact .inl h2
  ·exact .inr ⟨rfl,ih h1 h2⟩
theorem zld: ∀a b:List UInt8,Op.bytesLess a b=true\/a=b\/Op.bytesLess b a=true
 | [],[]=> .inr (.inl rfl)
 | [],_::_=> .inl rfl
 |_::_,[]=> .inr (.inr rfl)
 |a::x,b::y=>by
  have ih:=zld x y;simp only[Op.bytesLess,Bool.or_eq_true,decide_eq_true_eq,Bool.and_eq_true,beq_iff_eq,List.cons.injEq,UInt8.lt_iff_toNat_lt];rcases Nat.lt_trichotomy a.toNat b.toNat with h|h|h
  ·exact .inl (.inl h)
  ·have h':a=b:=UInt8.toNat_inj.1 h;subst h';rcases ih with ih|ih|ih
   ·exact .inl (.inr ⟨rfl,ih⟩)
   ·exact .inr (.inl ⟨rfl,ih⟩)
   ·exact .inr (.inr (.inr ⟨rfl,ih⟩))
  ·exact .inr (.inr (.inl h))
theorem zeU (a:ByteArray):zbo a a=false:=zlc _
theorem zb1 {a b c:ByteArray} (h:zbo a b=true) (k:zbo b c=true):zbo a c=true:=zif h k
theorem zds (a b:ByteArray):zbo a b=true\/a=b\/zbo b a=true:=by
 rcases zld a.toList b.toList with h|h|h
 ·exact .inl h
 ·exact .inr (.inl (zat.1 (by unfold zae;simpa using h)))
 ·exact .inr (.inr h)
theorem zcG {a b:ByteArray} (h:zbo a b=true):a≠b:=by
 rintro rfl;rw[zeU]at h;cases h
theorem zj3 {a b:ByteArray} (h:zbo a b=true):zbo b a=false:=by
 rw[<-Bool.not_eq_true];intro k;have:=zb1 h k;rw[zeU]at this;cases this
structure GoodParts (l:Parts):Prop where
 asc:l.Pairwise fun a b=>zbo a.1 b.1=true
 pos: ∀p∈l,0<p.2
theorem zbX (n:ByteArray) (q:Rat): ∀l:Parts,sumQ (za3 l n q)=sumQ l+q
 | []=>by
   unfold za3;split
   ·rename_i h
    have:q=0:=by simpa using h
    subst this;simp[sumQ];grind
   ·simp[sumQ];grind
 |p::r=>by
  have ih:=zbX n q r;unfold za3;split
  ·rename_i h
   have:q=0:=by simpa using h
   subst this;grind
  ·split
   ·rw[sumQ,ih,sumQ];grind
   ·split
    ·rw[sumQ,sumQ];grind
    ·rw[sumQ,sumQ];grind
theorem zeV {n:ByteArray} {q:Rat}: ∀ {l:Parts} {p:ByteArray×Rat},p∈za3 l n q->p.1=n\/p∈l
 | [],p,h=>by
   unfold za3 at h;split at h
   ·exact .inr h
   ·simp at h;exact .inl (by rw[h])
 |x::r,p,h=>by
  unfold za3 at h;split at h
  ·exact .inr h
  ·split at h
   ·rcases List.mem_cons.1 h with rfl|h
    ·exact .inr (by simp)
    ·rcases zeV h with h|h
     ·exact .inl h
     ·exact .inr (by simp[h])
   ·split at h
    ·rcases List.mem_cons.1 h with rfl|h
     ·exact .inl rfl
     ·exact .inr (by simp[h])
    ·rcases List.mem_cons.1 h with rfl|h
     ·exact .inl rfl
     ·exact .inr h
theorem zbw {n:ByteArray} {q:Rat} (hq:0<=q): ∀ {l:Parts},GoodParts l->GoodParts (za3 l n q)
 | [],_=>by
   unfold za3;split
   ·exact⟨List.Pairwise.nil,by simp⟩
   ·rename_i h
    have:q≠0:=by simpa using h
    exact⟨by simp,by intro p hp;simp at hp;rw[hp];show 0<q;grind⟩
 |x::r,⟨h1,h2⟩=>by
  have hr:GoodParts r:=⟨(List.pairwise_cons.1 h1).2,fun p hp=>h2 p (by simp[hp])⟩
  have hx:=(List.pairwise_cons.1 h1).1;unfold za3;split
  ·exact⟨h1,h2⟩
  ·rename_i h
   have gN:0<q:=by have:q≠0:=by simpa using h
                   grind
   split
   ·rename_i hl
    have ih:=zbw (n:=n) hq hr;refine⟨List.pairwise_cons.2 ⟨fun p hp=> ?_,ih.asc⟩,fun p hp=> ?_⟩
    ·rcases zeV hp with e|hp
     ·rw[e];exact hl
     ·exact hx p hp
    ·rcases List.mem_cons.1 hp with rfl|hp
     ·exact h2 _ (by simp)
     ·exact ih.pos p hp
   ·rename_i hl
    split
    ·rename_i hs
     have e:=zat.1 hs;refine⟨List.pairwise_cons.2 ⟨fun p hp=>by rw[<-e];exact hx p hp,hr.asc⟩,fun p hp=> ?_⟩;rcases List.mem_cons.1 hp with rfl|hp
     ·have:=h2 x (by simp);show 0<x.2+q;grind
     ·exact hr.pos p hp
    ·rename_i hs
     have jy:zbo n x.1=true:=by
      rcases zds n x.1 with k|k|k
      ·exact k
      ·exact absurd (zat.2 k.symm) hs
      ·exact absurd k hl
     refine⟨List.pairwise_cons.2 ⟨fun p hp=> ?_,h1⟩,fun p hp=> ?_⟩
     ·rcases List.mem_cons.1 hp with rfl|hp
      ·exact jy
      ·exact zb1 jy (hx p hp)
     ·rcases List.mem_cons.1 hp with rfl|hp
      ·exact gN
      ·exact h2 p hp
theorem zdF {n:ByteArray}: ∀ {l:Parts},(∀p∈l,p.1≠n)->zaf l n=0/\zas l n=l
 | [],_=>⟨rfl,rfl⟩
 |x::r,h=>by
  have ih:=zdF (l:=r) fun p hp=>h p (by simp[hp])
  have hx:zae x.1 n=false:=zco.2 (h x (by simp));unfold zaf zas at*;rw[List.find?_cons,hx,List.filter_cons,hx];exact⟨ih.1,by simpa using ih.2⟩
theorem zck {n:ByteArray}: ∀ {l:Parts},GoodParts l->sumQ (zas l n)+zaf l n=sumQ l
 | [],_=>by simp only[zas,zaf,sumQ,List.filter_nil,List.find?_nil,Option.map_none,Option.getD_none];grind
 |x::r,⟨h1,h2⟩=>by
  have hr:GoodParts r:=⟨(List.pairwise_cons.1 h1).2,fun p hp=>h2 p (by simp[hp])⟩
  have hx:=(List.pairwise_cons.1 h1).1;have ih:=zck (n:=n) hr;by_cases hs:x.1=n
  ·have hn:=zdF (n:=n) (l:=r) fun p hp e=>by
    have:=zcG (hx p hp);exact this (by rw[e,hs])
   have e1:zas (x::r) n=zas r n:=by
    unfold zas;rw[List.filter_cons,zat.2 hs];rfl
   have e2:zaf (x::r) n=x.2:=by
    unfold zaf;rw[List.find?_cons,zat.2 hs];rfl
   rw[e1,e2,hn.2,sumQ];grind
  ·have hf:zae x.1 n=false:=zco.2 hs;have e1:zas (x::r) n=x::zas r n:=by
    unfold zas;rw[List.filter_cons,hf];rfl
   have e2:zaf (x::r) n=zaf r n:=by
    unfold zaf;rw[List.find?_cons,hf]
   rw[e1,e2,sumQ,sumQ,<-ih];grind
theorem zbH {n:ByteArray} {l:Parts} (h:GoodParts l):GoodParts (zas l n):=
 ⟨h.asc.sublist List.filter_sublist,fun p hp=>h.pos p ((List.mem_filter.1 hp).1)⟩
theorem zbr: ∀ {l:Parts},(∀p∈l,0<=p.2)->0<=sumQ l
 | [],_=>by simp[sumQ]
 |x::r,h=>by
  have ih:=zbr (l:=r) fun p hp=>h p (by simp[hp])
  have hx:=h x (by simp);rw[sumQ];grind
theorem zgQ: ∀ {l:Parts},(∀p∈l,0<=p.2)-> ∀p∈l,p.2<=sumQ l
 |x::r,h,p,hp=>by
  have hr:=zbr (l:=r) fun p hp=>h p (by simp[hp])
  have hx:=h x (by simp);rw[sumQ];rcases List.mem_cons.1 hp with rfl|hp
  ·grind
  ·have:=zgQ (l:=r) (fun p hp=>h p (by simp[hp])) p hp;grind
mutual
def okT:Tree->Bool
 | .leaf _=>true
 | .node l=>!l.isEmpty&&okL l
def okL:List Tree->Bool
 | []=>true
 |x::l=>okT x&&okL l
end
theorem zmr: ∀ {l:List Tree},okL l=true↔ ∀x∈l,okT x=true
 | []=>by simp[okL]
 |x::l=>by rw[okL,Bool.and_eq_true,zmr];simp
theorem zkj (s:St) (stems:Bool) (frm:ByteArray): ∀(f:Nat) (n:ByteArray),okL (zb2 s stems frm f n)=true
 |0,_=>rfl
 |f+1,n=>by
  rw[zmr];intro x hx;rw[zb2,List.mem_filterMap]at hx;obtain⟨c,_,hc⟩:=hx;split at hc
  ·cases hc;rfl
  ·split at hc
   ·rename_i hs
    cases hc;rw[Bool.and_eq_true]at hs;rw[okT,hs.2,zkj s stems frm f c];rfl
   ·cases hc
theorem ratN {n:Nat} (h:n≠0):(n:Rat)≠0:=by
 intro e;apply h;have:((n:Int):Rat)=((0:Int):Rat):=by simpa using e
 have:=Rat.intCast_inj.1 this;omega
theorem zcE {a b:Rat} (h:0<=a) (hb:0<=b):0<=a/b:=by
 rw[Rat.div_def];by_cases h0:b=0
 ·subst h0;rw[Rat.inv_zero];grind
 ·have:0<b⁻¹:=Rat.inv_pos.2 (by grind);exact Rat.mul_nonneg h (by grind)
mutual
theorem zgR {each:Rat}: ∀ {l:List Tree} {out o:Parts},okL l=true->zbD each l out=some o->sumQ o=sumQ out+each*(l.length:Rat)
 | [],out,o,_,h=>by
   rw[zbD]at h;cases h;simp only[List.length_nil];have:((0:Nat):Rat)=0:=rfl;grind
 |x::l,out,o,hk,h=>by
  rw[okL,Bool.and_eq_true]at hk;rw[zbD,Option.bind_eq_some_iff]at h;obtain⟨o1,h1,h2⟩:=h;have e1:=zn2 hk.1 h1;have e2:=zgR hk.2 h2;rw[e2,e1,List.length_cons];have:((l.length+1:Nat):Rat)=(l.length:Rat)+1:=by simp
  grind
theorem zn2 {each:Rat}: ∀ {x:Tree} {out o:Parts},okT x=true->zei each x out=some o->sumQ o=sumQ out+each
 | .leaf n,out,o,_,h=>by
   rw[zei]at h;split at h
   ·cases h
   ·cases h;exact zbX n each out
 | .node l,out,o,hk,h=>by
   rw[okT,Bool.and_eq_true]at hk;rw[zei]at h;split at h
   ·cases h
   ·have e:=zgR hk.2 h;rw[e];have h0:l.length≠0:=by
     intro e0;have:=List.eq_nil_of_length_eq_zero e0;rw[this]at hk;exact absurd hk.1 (by decide)
    have:=ratN h0;grind
end
mutual
theorem ze2 {each:Rat} (he:0<=each): ∀ {l:List Tree} {out o:Parts},GoodParts out->zaE out=false->zbD each l out=some o->GoodParts o/\zaE o=false
 | [],out,o,hg,hl,h=>by
   rw[zbD]at h;cases h;exact⟨hg,hl⟩
 |x::l,out,o,hg,hl,h=>by
  rw[zbD,Option.bind_eq_some_iff]at h;obtain⟨o1,h1,h2⟩:=h;have e1:=zig he hg hl h1;exact ze2 he e1.1 e1.2 h2
theorem zig {each:Rat} (he:0<=each): ∀ {x:Tree} {out o:Parts},GoodParts out->zaE out=false->zei each x out=some o->GoodParts o/\zaE o=false
 | .leaf n,out,o,hg,hl,h=>by
   rw[zei]at h;split at h
   ·cases h
   ·rename_i hb
    cases h;exact⟨zbw he hg,by simpa using hb⟩
 | .node l,out,o,hg,hl,h=>by
   rw[zei]at h;split at h
   ·cases h
   ·exact ze2 (zcE he Rat.natCast_nonneg) hg hl h
end
def IsN (n:Nat) (q:Rat):Prop:= ∃k:Int,q*(n:Rat)=(k:Rat)
theorem zkk {n:Nat} {p q:Rat} (h:IsN n p) (k:IsN n q):IsN n (p+q):=by
 obtain⟨a,ha⟩:=h;obtain⟨b,hb⟩:=k;refine⟨a+b,?_⟩;rw[Rat.intCast_add,<-ha,<-hb];grind
theorem zgS {n:Nat} {p q:Rat} (h:IsN n p) (k:IsN n q):IsN n (p-q):=by
 obtain⟨a,ha⟩:=h;obtain⟨b,hb⟩:=k;refine⟨a-b,?_⟩;rw[Rat.intCast_sub,<-ha,<-hb];grind
theorem zkl {n m:Nat} {p q:Rat} (h:IsN n p) (k:IsN m q):IsN (n*m) (p*q):=by
 obtain⟨a,ha⟩:=h;obtain⟨b,hb⟩:=k;refine⟨a*b,?_⟩;rw[Rat.intCast_mul,<-ha,<-hb,Rat.natCast_mul];grind
theorem zle {n m:Nat} {q:Rat} (h:IsN n q):IsN (n*m) q:=by
 obtain⟨a,ha⟩:=h;refine⟨a*m,?_⟩;rw[Rat.intCast_mul,<-ha,Rat.natCast_mul,Rat.intCast_natCast];grind
theorem zgT (n:Nat):IsN n 1:=⟨n,by rw[Rat.intCast_natCast];grind⟩
theorem zkm (n:Nat):IsN n 0:=⟨0,by grind⟩
theorem zkn {n:Nat} {q:Rat} (hn:0<n) (h:IsN n q):(q.den:Int)<=n:=by
 obtain⟨a,ha⟩:=h;have h0:=ratN (n:=n) (by omega);have e:q=Rat.divInt a n:=by
  rw[Rat.divInt_eq_div,Rat.intCast_natCast,<-ha];grind
 rw[e,zeg (by omega)];exact Int.ediv_le_self _ (by omega)
theorem zel {num den:Int} (h:za6 16 num den=true):IsN 720720 (Rat.divInt num den):=by
 have hs:=zbl h;unfold za6 at h;simp only[Bool.and_eq_true,decide_eq_true_eq]at h;obtain⟨⟨⟨h1,h2⟩,_⟩,_⟩:=h;obtain⟨m,hm⟩: ∃m:Int,720720=den*m:=by
  have:den=1\/den=2\/den=3\/den=4\/den=5\/den=6\/den=7\/den=8\/den=9\/den=10\/den=11\/den=12\/den=13\/den=14\/den=15\/den=16:=by omega
  rcases this with rfl|rfl|rfl|rfl|rfl|rfl|rfl|rfl|rfl|rfl|rfl|rfl|rfl|rfl|rfl|rfl
  all_goals first|exact⟨720720,rfl⟩|exact⟨360360,rfl⟩|exact⟨240240,rfl⟩|exact⟨180180,rfl⟩|exact⟨144144,rfl⟩|exact⟨120120,rfl⟩|exact⟨102960,rfl⟩|exact⟨90090,rfl⟩|exact⟨80080,rfl⟩|exact⟨72072,rfl⟩|exact⟨65520,rfl⟩|exact⟨60060,rfl⟩|exact⟨55440,rfl⟩|exact⟨51480,rfl⟩|exact⟨48048,rfl⟩|exact⟨45045,rfl⟩
 refine⟨num*m,?_⟩;have hd:(den:Rat)≠0:=ratI (by omega);have e:((720720:Nat):Rat)=(den:Rat)*(m:Rat):=by
  rw[<-Rat.intCast_mul,<-hm];rfl
 rw[Rat.divInt_eq_div,e,Rat.intCast_mul];grind
theorem zcF {n:Nat} {nm:ByteArray} {q:Rat} (hq:IsN n q): ∀ {l:Parts},(∀p∈l,IsN n p.2)-> ∀p∈za3 l nm q,IsN n p.2
 | [],_,p,hp=>by
   unfold za3 at hp;split at hp
   ·cases hp
   ·simp at hp;rw[hp];exact hq
 |x::r,h,p,hp=>by
  have hr:=zcF (nm:=nm) hq (l:=r) fun p hp=>h p (by simp[hp])
  unfold za3 at hp;split at hp
  ·exact h p hp
  ·split at hp
   ·rcases List.mem_cons.1 hp with rfl|hp
    ·exact h _ (by simp)
    ·exact hr p hp
   ·split at hp
    ·rcases List.mem_cons.1 hp with rfl|hp
     ·exact zkk (h x (by simp)) hq
     ·exact h p (by simp[hp])
    ·rcases List.mem_cons.1 hp with rfl|hp
     ·exact hq
     ·exact h p hp
theorem zc5 {n:Nat} (h0:0<n) (h1:n<=1000000000) {l:Parts} (h: ∀p∈l,IsN n p.2):zaE l=false:=by
 unfold zaE;rw[List.any_eq_false];intro p hp;have:=zkn h0 (h p hp);unfold bigQ;simp;omega
structure WillOk (l:Parts):Prop where
 pos: ∀p∈l,0<p.2
 isN: ∀p∈l,IsN 720720 p.2
 le:sumQ l<=1
theorem zih {s:St} {frm:ByteArray}: ∀ {l out:Parts} {rest:Rat},(∀p∈l,0<p.2)->(∀p∈l,IsN 720720 p.2)->sumQ l<=rest->GoodParts out->(∀p∈out,IsN 720720 p.2)->IsN 720720 rest->
 GoodParts (zcq s frm l out rest).1/\(∀p∈(zcq s frm l out rest).1,IsN 720720 p.2)/\IsN 720720 (zcq s frm l out rest).2/\0<=(zcq s frm l out rest).2/\sumQ (zcq s frm l out rest).1+(zcq s frm l out rest).2=sumQ out+rest
 | [],out,rest,_,_,hs,hg,hn,hr=>by
   rw[zcq];exact⟨hg,hn,hr,by simpa[sumQ]using hs,rfl⟩
 |p::l,out,rest,hp,hN,hs,hg,hn,hr=>by
  have iX:=hp p (by simp);have hl:=fun q (hq:q∈l)=>hp q (by simp[hq])
  have vO:=fun q (hq:q∈l)=>hN q (by simp[hq])
  rw[sumQ]at hs;rw[zcq];split
  ·have ih:=zih (s:=s) (frm:=frm) hl vO (rest:=rest-p.2) (out:=za3 out p.1 p.2) (by grind) (zbw (by grind) hg) (zcF (hN p (by simp)) hn) (zgS hr (hN p (by simp)));refine⟨ih.1,ih.2.1,ih.2.2.1,ih.2.2.2.1,?_⟩;rw[ih.2.2.2.2,zbX];grind
  ·exact zih (s:=s) (frm:=frm) hl vO (by grind) hg hn hr
theorem zd6:GoodParts []:=⟨List.Pairwise.nil,by simp⟩
theorem ze3 {s:St} {law:Law} {n:ByteArray} {o:Parts} (hw:WillOk (zbu s n)) (hl:za6 16 law.num law.den=true) (h:zbZ s law n=some o):GoodParts o/\sumQ o=1/\zaE o=false:=by
 unfold zbZ at h;have hg:=zih (s:=s) (frm:=n) (out:=[]) (rest:=1) hw.pos hw.isN hw.le zd6 (by simp) (zgT _);generalize hq:zcq s n (zbu s n) [] 1=q at*;obtain⟨out,rest⟩:=q;dsimp only at h hg;obtain⟨g1,g2,g3,g4,g5⟩:=hg;rw[sumQ]at g5;split at h
 ·rename_i h0
  cases h;have:rest=0:=by simpa using h0
  exact⟨g1,by grind,zc5 (by decide) (by decide) g2⟩
 rename_i h0
 have pS:rest≠0:=by simpa using h0
 generalize ct:(if zdU s (zaL s n) n=true then zaL s n else⟨#[]⟩)=sp at*;split at h
 ·cases h;refine⟨zbw g4 g1,by rw[zbX];grind,zc5 (by decide) (by decide) (zcF g3 g2)⟩
 rename_i ai
 have ag:(zb2 s law.stems n (zaW s) n).length≠0:=by
  intro e;rw[List.eq_nil_of_length_eq_zero e]at ai;exact ai rfl
 have bp:=zkj s law.stems n (zaW s) n;generalize zb2 s law.stems n (zaW s) n=ts at*;obtain⟨_,_,l1,l2⟩:=zbl hl;have hd:za6 16 law.num law.den=true:=hl;have hN:IsN 720720 (Rat.divInt law.num law.den):=zel hl;have key: ∃own out2,own=(if noB sp=true then 0 else rest*Rat.divInt law.num law.den)/\out2=(if noB sp=true then out else za3 out sp own)/\0<=own/\own<=rest/\GoodParts out2/\sumQ out2=sumQ out+own/\zaE out2=false:=by
  by_cases hs:noB sp=true
  ·exact⟨0,out,by rw[if_pos hs],by rw[if_pos hs],by grind,g4,g1,by grind,zc5 (by decide) (by decide) g2⟩
  ·have h1:0<=rest*Rat.divInt law.num law.den:=Rat.mul_nonneg g4 l1;have h2:rest*Rat.divInt law.num law.den<=rest:=by
    have:=Rat.mul_le_mul_of_nonneg_left l2 g4;grind
   refine⟨rest*Rat.divInt law.num law.den,za3 out sp (rest*Rat.divInt law.num law.den),by rw[if_neg hs],by rw[if_neg hs],h1,h2,zbw h1 g1,zbX _ _ _,?_⟩;have iQ: ∃d:Nat,0<d/\d<=16/\IsN d (Rat.divInt law.num law.den):=by
    unfold za6 at hd;simp only[Bool.and_eq_true,decide_eq_true_eq]at hd;refine⟨law.den.toNat,by omega,by omega,law.num,?_⟩;have hz:(law.den:Rat)≠0:=ratI (by omega);have e:((law.den.toNat:Nat):Rat)=(law.den:Rat):=by rw[<-Rat.intCast_natCast,Int.toNat_of_nonneg (by omega)]
    rw[Rat.divInt_eq_div,e];grind
   obtain⟨d,d0,d1,CB⟩:=iQ;exact zc5 (n:=720720*d) (by omega) (by omega) (zcF (zkl g3 CB) fun p hp=>zle (g2 p hp))
 obtain⟨own,out2,ho,tX,k0,k1,k2,k3,k4⟩:=key;rw[<-ho,<-tX]at h;split at h
 ·rename_i hz
  cases h;have:rest-own=0:=by simpa using hz
  exact⟨k2,by grind,k4⟩
 ·split at h
  ·cases h
  ·have ia:0<=(rest-own)/(ts.length:Rat):=zcE (by grind) Rat.natCast_nonneg;obtain⟨m1,m2⟩:=ze2 ia k2 k4 h;refine⟨m1,?_,m2⟩;rw[zgR bp h,k3];have:=ratN ag;grind
theorem zii {own:Rat} (h0:0<=own): ∀ {l out o:Parts},(∀p∈l,0<=p.2)->GoodParts out->zaE out=false->zb6 own l out=some o->GoodParts o/\zaE o=false/\sumQ o=sumQ out+own*sumQ l
 | [],out,o,_,hg,hl,h=>by
   rw[zb6]at h;cases h;exact⟨hg,hl,by rw[sumQ];grind⟩
 |p::l,out,o,hp,hg,hl,h=>by
  rw[zb6]at h;split at h
  ·cases h
  split at h
  ·cases h
  ·rename_i hb
   have hm:0<=own*p.2:=Rat.mul_nonneg h0 (hp p (by simp));obtain⟨h1,h2,h3⟩:=zii h0 (fun q hq=>hp q (by simp[hq])) (zbw hm hg) (by simpa using hb) h;refine⟨h1,h2,?_⟩;rw[h3,zbX,sumQ];grind
structure GoodG (g:Grave):Prop where
 good:GoodParts g.holders
 small:zaE g.holders=false
 one:g.holders=[]\/sumQ g.holders=1
theorem zb8 {l:Parts} (h:GoodParts l) (n:ByteArray):0<=zaf l n:=by
 unfold zaf;cases hf:l.find? (fun p=>zae p.1 n)with
 |none=>exact Rat.le_refl
 |some p=>
  have:=h.pos p (List.mem_of_find?_eq_some hf);show 0<=p.2;grind
theorem zdk {l:Parts} {n:ByteArray} (h:zaf l n≠0):l≠[]:=by
 rintro rfl;exact h rfl
theorem large_sub {l m:Parts} (h: ∀p∈m,p∈l) (hl:zaE l=false):zaE m=false:=by
 unfold zaE at*;rw[List.any_eq_false]at*;exact fun p hp=>hl p (h p hp)
theorem zd7 {l:Parts} (n:ByteArray) (h:zaE l=false):zaE (zas l n)=false:=large_sub (fun p hp=>(List.mem_filter.1 hp).1) h
theorem zfK {n:ByteArray} {q:Rat} (hq:bigQ q=false): ∀ {l:Parts},(∀p∈l,p.1≠n)->zaE l=false->zaE (za3 l n q)=false
 | [],_,_=>by
   unfold za3;split
   ·rfl
   ·simp[zaE,hq]
 |x::r,hn,hl=>by
  have pH:bigQ x.2=false/\zaE r=false:=by simpa[zaE]using hl
  have ih:=zfK hq (l:=r) (fun p hp=>hn p (by simp[hp])) pH.2;unfold za3;split
  ·exact hl
  ·split
   ·unfold zaE at ih⊢;rw[List.any_cons,pH.1,ih];rfl
   ·split
    ·rename_i hs
     exact absurd (zat.1 hs) (hn x (by simp))
    ·unfold zaE at hl⊢;rw[List.any_cons,hq,hl];rfl
theorem zj4 {l:Parts} {n:ByteArray}: ∀p∈zas l n,p.1≠n:=by
 intro p hp;unfold zas at hp;have:=(List.mem_filter.1 hp).2;exact zco.1 (by simpa using this)
theorem zko {g:Grave} {frm:ByteArray} {l out:Parts} (hg:GoodG g) (hs:zaf g.holders frm≠0) (hp: ∀p∈l,0<p.2) (hl:sumQ l<=1) (hk:bigQ (zaf g.holders frm*(1-sumQ l))=false)
 (h:zb6 (zaf g.holders frm) l (za3 (zas g.holders frm) frm (zaf g.holders frm*(1-sumQ l)))=some out):GoodG {g with holders:=out}:=by
 have h0:=zb8 hg.good frm;have jv:0<=zaf g.holders frm*(1-sumQ l):=Rat.mul_nonneg h0 (by grind);obtain⟨h1,h2,h3⟩:=zii h0 (fun p Kv=>by have:=hp p Kv;grind) (zbw jv (zbH hg.good)) (zfK hk zj4 (zd7 frm hg.small)) h;refine⟨h1,h2, .inr ?_⟩;have hw:=zck (n:=frm) hg.good;rcases hg.one with e|e
 ·exact absurd e (zdk hs)
 ·show sumQ out=1;rw[h3,zbX];grind
theorem sum_div (d:Rat): ∀l:Parts,sumQ (l.map fun p=>(p.1,p.2/d))=sumQ l/d
 | []=>by simp only[List.map_nil,sumQ];rw[Rat.div_def];grind
 |p::l=>by
  rw[List.map_cons,sumQ,sumQ,sum_div d l];rw[Rat.div_def,Rat.div_def,Rat.div_def];grind
theorem sum_zero {l:Parts} (h: ∀p∈l,0<p.2) (hs:sumQ l=0):l=[]:=by
 cases l with
 |nil=>rfl
 |cons x r=>
  have hx:=h x (by simp);have:=zbr (l:=r) fun p hp=>by have:=h p (by simp[hp]);grind
  rw[sumQ]at hs;grind
theorem zj5 {l:Parts} (h: ∀p∈l,0<p.2):0<=sumQ l:=zbr fun p hp=>by have:=h p hp;grind
theorem zjj {g:Grave} {frm:ByteArray} (hg:GoodG g) (hs:zaf g.holders frm≠0) (hl:zaE ((zas g.holders frm).map fun p=>(p.1,p.2/(1-zaf g.holders frm)))=false):
 GoodG {g with holders:=(zas g.holders frm).map fun p=>(p.1,p.2/(1-zaf g.holders frm))}:=by
 have hw:=zck (n:=frm) hg.good;have h1:sumQ g.holders=1:=by
  rcases hg.one with e|e
  ·exact absurd e (zdk hs)
  ·exact e
 have iR:=zbH (n:=frm) hg.good;have ia:=zj5 iR.pos;by_cases hz:1-zaf g.holders frm=0
 ·have he:zas g.holders frm=[]:=sum_zero iR.pos (by grind);have e2:((zas g.holders frm).map fun p=>(p.1,p.2/(1-zaf g.holders frm)))=[]:=by rw[he];rfl
  rw[e2];exact⟨zd6,rfl, .inl rfl⟩
 ·have hd:0<1-zaf g.holders frm:=by grind
  refine⟨⟨List.pairwise_map.2 iR.asc,fun p hp=> ?_⟩,hl, .inr ?_⟩
  ·obtain⟨q,hq,rfl⟩:=List.mem_map.1 hp;have:=iR.pos q hq;show 0<q.2/(1-zaf g.holders frm);rw[Rat.div_def];exact Rat.mul_pos this (Rat.inv_pos.2 hd)
  ·show sumQ _=1;rw[sum_div,show sumQ (zas g.holders frm)=1-zaf g.holders frm by grind,Rat.div_def];exact Rat.mul_inv_cancel _ hz
theorem zlf {g:Grave} {n:ByteArray} {bv out:Parts} (hg:GoodG g) (hs:zaf g.holders n≠0) (hh:GoodParts bv) (h1:sumQ bv=1) (h:zb6 (zaf g.holders n) bv (zas g.holders n)=some out):GoodG {g with holders:=out,died:=g.died++[n]}:=by
 obtain⟨k1,k2,k3⟩:=zii (zb8 hg.good n) (fun p hp=>by have:=hh.pos p hp;grind) (zbH hg.good) (zd7 n hg.small) h;refine⟨k1,k2, .inr ?_⟩;have hw:=zck (n:=n) hg.good;rcases hg.one with e|e
 ·exact absurd e (zdk hs)
 ·show sumQ out=1;rw[k3,h1];grind
theorem zgh {s:ByteArray} (h:zaR s=true):noB s=false:=by
 unfold zaR at h;simp only[Bool.and_eq_true,Bool.not_eq_true']at h;exact h.2.1
structure OkD (d:Deed):Prop where
 kind:0<=d.kind/\d.kind<=8
 day:0<=d.day/\d.day<=200000
 years:0<=d.years/\d.years<=99
 cls:0<=d.cls/\d.cls<=4
 len:d.to.length<=8
 names: ∀p∈d.to,zaR p.name=true
 place:(d.kind=0\/d.kind=1\/d.kind=2\/d.kind=3)->zaR d.place=true
 frm: ¬(d.kind=0\/d.kind=3)->zaR d.frm=true
 grantor:(d.kind=0\/d.kind=3)->noB d.frm=true
 parts:(d.kind=0\/d.kind=1\/d.kind=4)->d.to≠[]/\zcB true (d.kind==0) d.frm d.to=true
 one:(d.kind=5\/d.kind=6\/d.kind=7)->d.to.length=1/\zcB false false d.frm d.to=true
 none:(d.kind=2\/d.kind=3\/d.kind=8)->d.to=[]
theorem zfz {n lo hi:Int}:inR n lo hi=true↔lo<=n/\n<=hi:=by unfold inR;simp
theorem zeW {d:Deed} (h:zaI d=0):OkD d:=by
 unfold zaI at h;split at h
 ·simp at h
 rename_i h1
 split at h
 ·simp at h
 rename_i h2
 split at h
 ·simp at h
 rename_i h3
 split at h
 ·simp at h
 rename_i h4
 split at h
 ·simp at h
 rename_i h5
 simp only[Bool.not_eq_true',Bool.not_eq_false,zfz]at h1;simp only[Bool.or_eq_true,Bool.not_eq_true',not_or,Bool.not_eq_false,zbm,zfz]at h2;simp only[Bool.or_eq_true,Bool.not_eq_true',not_or,Bool.not_eq_false,List.all_eq_true,zby]at h4;simp only[Bool.not_eq_true',Bool.not_eq_false]at h5;simp only[decide_eq_true_eq,Nat.not_lt]at h3;unfold zfI at h5;obtain⟨⟨hd,hc⟩,hy⟩:=h2;obtain⟨⟨hp,hf⟩,hn⟩:=h4;have fY:d.kind=0\/d.kind=1\/d.kind=2\/d.kind=3\/d.kind=4\/d.kind=5\/d.kind=6\/d.kind=7\/d.kind=8:=by omega
 refine⟨h1,hd,hy,hc,h3,hn,?_,?_,?_,?_,?_,?_⟩;all_goals rcases fY with k|k|k|k|k|k|k|k|k<;>simp_all
theorem zij {s:St} {a b x:ByteArray}:zai {s with children:=s.children++[(a,b)]} x=zai s x++(if zae a x then[b]else[]):=by
 unfold zai;rw[List.filter_append,List.map_append];congr 1
 by_cases h:zae a x=true
 ·rw[if_pos h,List.filter_cons,if_pos h];rfl
 ·rw[if_neg h,List.filter_cons,if_neg h];rfl
theorem zms {s:St} {a b:ByteArray} (h: ∀x,¬Desc s x x) (hn: ¬Desc s b a) (ai:a≠b): ∀x,¬Desc {s with children:=s.children++[(a,b)]} x x:=by
 have key: ∀x y,Desc {s with children:=s.children++[(a,b)]} x y->Desc s x y\/((x=a\/Desc s x a)/\(y=b\/Desc s b y)):=by
  intro x y uh;unfold Desc at uh;induction uh with
  |single hc=>
   rw[zij]at hc;rcases List.mem_append.1 hc with hc|hc
   ·exact .inl (zfy hc)
   ·split at hc
    ·rename_i hs
     simp only[List.mem_singleton]at hc;exact .inr ⟨.inl (zat.1 hs).symm, .inl hc⟩
    ·cases hc
  |tail _ hc ih=>
   rw[zij]at hc;rcases List.mem_append.1 hc with hc|hc
   ·rcases ih with ih|⟨i1,i2⟩
    ·exact .inl (zid ih hc)
    ·refine .inr ⟨i1, .inr ?_⟩;rcases i2 with i2|i2
     ·rw[i2]at hc;exact zfy hc
     ·exact zid i2 hc
   ·split at hc
    ·rename_i hs
     simp only[List.mem_singleton]at hc;have e:=zat.1 hs;rcases ih with ih|⟨i1,i2⟩
     ·exact .inr ⟨.inr (by rw[e];exact ih), .inl hc⟩
     ·exfalso
      rcases i2 with i2|i2
      ·exact ai (e.trans i2)
      ·exact hn (by rw[e];exact i2)
    ·cases hc
 intro x hx;rcases key x x hx with k|⟨k1,k2⟩
 ·exact h x k
 ·rcases k1 with rfl|k1<;>rcases k2 with k2|k2
  ·exact ai k2
  ·exact hn k2
  ·rw[k2]at k1;exact hn k1
  ·exact hn (zgP k2 k1)
structure GoodSt (s:St) (last:Int):Prop where
 graves: ∀g∈s.graves,GoodG g
 force: ∀(i j:Nat) (gi gj:Grave),s.graves[i]?=some gi->s.graves[j]?=some gj->gi.place=gj.place-> ∀day,last<=day->zaU gi day=true->zaU gj day=true->i=j
 wills: ∀n,WillOk (zbu s n)
 acyc: ∀a,¬Desc s a a
 kids: ∀c∈s.children,noB c.1=false/\noB c.2=false
 marr: ∀m∈s.marriages,m.1≠m.2/\noB m.1=false/\noB m.2=false
 willNames: ∀w∈s.wills,∀p∈w.2,noB p.1=false
 dead: ∀n∈s.dead,noB n=false
theorem zeX (last:Int):GoodSt zb3 last:=by
 refine⟨by simp[zb3],by simp[zb3],fun n=>⟨by simp[zb3,zbu],by simp[zb3,zbu],by simp only[zb3,zbu,List.reverse_nil,List.find?_nil,Option.map_none,Option.getD_none,sumQ];decide⟩,fun a=>zie rfl,by simp[zb3],by simp[zb3],by simp[zb3],by simp[zb3]⟩
theorem zgU {g:Grave} {d e:Int} (h:d<=e) (hf:zaU g e=true):zaU g d=true:=by
 unfold zaU at*;simp only[Bool.and_eq_true,Bool.or_eq_true,decide_eq_true_eq]at*;refine⟨hf.1,?_⟩;rcases hf.2 with k|k
 ·exact .inl k
 ·exact .inr (by omega)
theorem zbI {s:St} {place:ByteArray} {day:Int} {i:Nat} (h:zaJ s place day=some i): ∃g,s.graves[i]?=some g/\g.place=place/\zaU g day=true:=by
 unfold zaJ at h;rw[List.findIdx?_eq_some_iff_getElem]at h;obtain⟨hi,h1,_⟩:=h;rw[Bool.and_eq_true,zat]at h1;exact⟨_,List.getElem?_eq_getElem hi,h1.1,h1.2⟩
theorem zhn {s:St} {place:ByteArray} {day:Int} (h:zaJ s place day=none): ∀g∈s.graves,g.place=place->zaU g day=false:=by
 unfold zaJ at h;rw[List.findIdx?_eq_none_iff]at h;intro g hg hp;have:=h g hg;rw[zat.2 hp,Bool.true_and]at this;exact this
end Go.Proofs.YtckkbkdcdkhglaaGreatDoor
namespace Go.Proofs.YtckkbkdcdkhglaaGreatDoor
open Go.RowKit Go.Shelf
def zlg:Go.Shelf.Ren:=⟨fun|6=>75|15=>110|14=>109|28=>152|29=>153|20=>144|21=>145|22=>146|23=>147|24=>148|25=>149|26=>150|27=>151|46=>170|47=>171|48=>172|49=>173|50=>174|57=>183|n=>n,fun|22=>28|24=>63|25=>135|3=>3|39=>146|0=>0|53=>169|55=>171|4=>4|46=>191|45=>190|50=>195|5=>5|9=>9|66=>206|70=>210|76=>218|77=>219|n=>n,fun|n=>n⟩
theorem zn3:Go.Proofs.SlLaysF0.n6 Tryz.prog zlg:= {
 mixed:=by kernel_rfl
 f6:=⟨Tryz.f75.name,by decide,Tryz.func75.trans (congrArg some (by kernel_rfl))⟩
 f14:=⟨Tryz.f109.name,by decide,Tryz.func109.trans (congrArg some (by kernel_rfl))⟩
 f15:=Tryz.func110.trans (congrArg some (by kernel_rfl))
 f20:=⟨Tryz.f144.name,by decide,Tryz.func144.trans (congrArg some (by kernel_rfl))⟩
 f21:=⟨Tryz.f145.name,by decide,Tryz.func145.trans (congrArg some (by kernel_rfl))⟩
 f22:=⟨Tryz.f146.name,by decide,Tryz.func146.trans (congrArg some (by kernel_rfl))⟩
 f23:=⟨Tryz.f147.name,by decide,Tryz.func147.trans (congrArg some (by kernel_rfl))⟩
 f24:=⟨Tryz.f148.name,by decide,Tryz.func148.trans (congrArg some (by kernel_rfl))⟩
 f25:=⟨Tryz.f149.name,by decide,Tryz.func149.trans (congrArg some (by kernel_rfl))⟩
 f26:=⟨Tryz.f150.name,by decide,Tryz.func150.trans (congrArg some (by kernel_rfl))⟩
 f27:=⟨Tryz.f151.name,by decide,Tryz.func151.trans (congrArg some (by kernel_rfl))⟩
 f28:=Tryz.func152.trans (congrArg some (by kernel_rfl))
 f29:=Tryz.func153.trans (congrArg some (by kernel_rfl))
 f46:=⟨Tryz.f170.name,by decide,Tryz.func170.trans (congrArg some (by kernel_rfl))⟩
 f47:=Tryz.func171.trans (congrArg some (by kernel_rfl))
 f48:=Tryz.func172.trans (congrArg some (by kernel_rfl))
 f49:=⟨Tryz.f173.name,by decide,Tryz.func173.trans (congrArg some (by kernel_rfl))⟩
 f50:=⟨Tryz.f174.name,by decide,Tryz.func174.trans (congrArg some (by kernel_rfl))⟩
 f57:=⟨Tryz.f183.name,by decide,Tryz.func183.trans (congrArg some (by kernel_rfl))⟩
 t0:=Tryz.underlying0
 a0:=Tryz.isAgg0
 z0:=Tryz.sizeOf0
 v0:=Tryz.zeroValue0
 t3:=Tryz.underlying3
 a3:=Tryz.isAgg3
 z3:=Tryz.sizeOf3
 v3:=Tryz.zeroValue3
 t4:=Tryz.underlying4
 a4:=Tryz.isAgg4
 z4:=Tryz.sizeOf4
 v4:=Tryz.zeroValue4
 t5:=Tryz.underlying5
 a5:=Tryz.isAgg5
 z5:=Tryz.sizeOf5
 v5:=Tryz.zeroValue5
 t9:=Tryz.underlying9
 a9:=Tryz.isAgg9
 z9:=Tryz.sizeOf9
 v9:=Tryz.zeroValue9
 t22:=Tryz.underlying28
 a22:=Tryz.isAgg28
 z22:=Tryz.sizeOf28
 v22:=Tryz.zeroValue28
 t25:=Tryz.underlying135
 a25:=Tryz.isAgg135
 z25:=Tryz.sizeOf135
 v25:=Tryz.zeroValue135
 t39:=Tryz.underlying146
 a39:=Tryz.isAgg146
 z39:=Tryz.sizeOf146
 v39:=Tryz.zeroValue146
 t45:=Tryz.underlying190
 a45:=Tryz.isAgg190
 z45:=Tryz.sizeOf190
 v45:=Tryz.zeroValue190
 t46:=Tryz.underlying191
 a46:=Tryz.isAgg191
 z46:=Tryz.sizeOf191
 v46:=Tryz.zeroValue191
 t50:=Tryz.underlying195
 a50:=Tryz.isAgg195
 z50:=Tryz.sizeOf195
 v50:=Tryz.zeroValue195
 t53:=Tryz.underlying169
 a53:=Tryz.isAgg169
 z53:=Tryz.sizeOf169
 v53:=Tryz.zeroValue169
 t55:=Tryz.underlying171
 a55:=Tryz.isAgg171
 z55:=Tryz.sizeOf171
 v55:=Tryz.zeroValue171
 t66:=Tryz.underlying206
 a66:=Tryz.isAgg206
 z66:=Tryz.sizeOf206
 v66:=Tryz.zeroValue206
 t70:=Tryz.underlying210
 a70:=Tryz.isAgg210
 z70:=Tryz.sizeOf210
 v70:=Tryz.zeroValue210
 t76:=Tryz.underlying218
 a76:=Tryz.isAgg218
 z76:=Tryz.sizeOf218
 v76:=Tryz.zeroValue218
 t77:=Tryz.underlying219
 a77:=Tryz.isAgg219
 z77:=Tryz.sizeOf219
 v77:=Tryz.zeroValue219}
end Go.Proofs.YtckkbkdcdkhglaaGreatDoor
namespace Go.Proofs.YtckkbkdcdkhglaaGreatDoor
open Go.ChangeShapes Go.WideShapes Go.ChangeAt Go.RowKit Go.Deep
theorem zmt {α:Type} {Q:Nat->α->Prop}: ∀n:Nat,(∀i,i<n-> ∃x,Q i x)-> ∃l:List α,l.length=n/\ ∀(i:Nat) (x:α),l[i]?=some x->Q i x
 |0,_=>⟨[],rfl,fun i x h=>by simp at h⟩
 |n+1,h=>by
  obtain⟨l,hl,hq⟩:=zmt n (fun i hi=>h i (by omega));obtain⟨x,hx⟩:=h n (by omega);refine⟨l++[x],by simp[hl],fun i y hy=> ?_⟩;by_cases hi:i<n
  ·rw[List.getElem?_append_left (by omega)]at hy;exact hq i y hy
  ·by_cases he:i=n
   ·subst he;rw[List.getElem?_append_right (by omega),hl]at hy;simp at hy;subst hy;exact hx
   ·rw[List.getElem?_append_right (by omega)]at hy;have:i-l.length≠0:=by omega
    obtain⟨m,hm⟩:=Nat.exists_eq_succ_of_ne_zero this;rw[hm]at hy;simp at hy
section
variable {H:Type} {enc:TypeId×Value->H} {P:Program} {w:World} {base:Nat} {spare:Nat->Bool} {held:Bool}
theorem zj6 {α:Type} {f:α->List Value} {size:Nat} (hsz:0<size) (ag: ∀x,(f x).length=size) {t e:TypeId} {fuel:Nat} {cs:List Value} {x:DataW H×List MemPlace} (ht:P.underlying t=some (.slice e)) (hC:P.cellsOf e=size)
 (mA: ∀(n:Nat) (cs:List Value) (y:DataW H×List MemPlace),DataW.trod enc P w base spare held n e cs=some y-> ∃s:α,cs=f s) (h:DataW.trod enc P w base spare held fuel t cs=some x):
 ∃(A:Option Addr) (n c:Nat) (xs:List α),cs=[.slice A n c]/\n=xs.length/\Sl w size f A xs/\xs.length<=c/\c<=maxLen:=by
 rcases open_slice ht h with⟨rfl,_⟩|⟨a,len,cap,m,n,D,Pl,rfl,_,hl,hm,da,_,hi⟩
 ·exact⟨none,0,0,[],rfl,rfl,Sl.nil,Nat.le_refl _,Nat.zero_le _⟩
 ·have bQ:len<=m:=by rw[da];split<;>omega
  obtain⟨l,fq,hq⟩:=zmt (Q:=fun i (s:α)=> ∀j,j<size->w.cell? ((a.add (i*size)).add j)=(f s)[j]?) len (fun i eb=>by
   obtain⟨cs',hc,hr⟩:=hi i (by omega);obtain⟨s,rfl⟩:=mA _ _ _ hr;rw[hC]at hc
   exact⟨s,(World.cells?_some hc).2.2⟩)
  refine⟨some a,len,cap,l,rfl,fq.symm,fun hp=> ?_,by omega,hm⟩;have h0:0<l.length:=hp;have hx:=hq 0 l[0] (List.getElem?_eq_getElem h0) 0 hsz;have hv: ∃v,(f l[0])[0]?=some v:=⟨_,List.getElem?_eq_getElem (by rw[ag];exact hsz)⟩
  obtain⟨v,hv⟩:=hv;rw[hv]at hx;have ct:=World.cell?_spot hx;have dH:=World.block_lt_of_cell? _ _ hx;obtain⟨b,off,spot⟩:=a;have sA:spot=none:=by simpa[Addr.add]using ct
  subst sA;refine⟨b,off,rfl,by simpa[Addr.add]using dH,fun k y hy j u hu=> ?_⟩;have hj:j<size:=by have:=(List.getElem?_eq_some_iff.1 hu).1;rw[ag]at this;exact this
  have:=hq k y hy j hj;rw[hu]at this;rw[<-this];congr 1
  unfold Addr.add;split<;>split<;>simp_all<;>omega
end
theorem zho {H:Type} {enc:TypeId×Value->H} {a:Assume} {C:Checked} {os:Os} {f:FuncId} {fn:Func} {s:ChangeSpec} {conds:List PathCond} {apart fresh handsOn again:Bool} {X:World->Array Value->Prop}
 (hX: ∀(w w':World) (args:Array Value),w.heap=w'.heap->X w args->X w' args)
 (own:ownKnob C.prog.godebug=none) (started:os.Started) (noInit:C.prog.inits.idxOf? f=none) (wU:C.prog.funcs[f]?=some fn)
 (witness: ∃(w:World) (tape:Tape) (i:Input),w.os=os/\(w.forCall tape i).Shaped C.prog/\i.vars=[]/\Input.okWide C.prog (w.forCall tape i) .any w.heap.size f i/\
   ((s.pre enc C.prog fn conds apart (w.forCall tape i).memory i.args/\X (w.forCall tape i).memory i.args)/\sizedMet enc C.prog fn (OpenSpec.ofChange s) apart (w.forCall tape i).memory i.args)/\a.holds C.prog (lone (Frame.enter C.prog f i.args .normal) [] (w.forCall tape i)))
 (contract: ∀(W:World) (base:Nat) (args:Array Value) (ds gs:List (DataW H)) (before:List MemPlace),
   (∀(j:Nat) t v,fn.params[j]?=some t->args[j]?=some v->Value.okWide C.prog W .any base t v)->
   DataW.Whole enc C.prog fn.params.toList s.vars apart W args.toList ds gs before->X W args->W.ShapedOpen C.prog->
   Calls C.prog f args W fun e W'=> ∃v,e= .returned v/\s.post enc C.prog fn apart fresh handsOn again W args v W'):
 ReturnsInHanded a C os f .any (fun w args=>(s.pre enc C.prog fn conds apart w args/\X w args)/\sizedMet enc C.prog fn (OpenSpec.ofChange s) apart w args) (s.post enc C.prog fn apart fresh handsOn again):=by
 refine returnsInHanded_of_calls own started noInit witness fun w tape i _ bn _ bp sw _=> ?_
 obtain⟨_,_,_,fn',CG,_,_,_,_,cX⟩:=bp;obtain rfl:fn'=fn:=Option.some.inj (CG.symm.trans wU);obtain⟨⟨⟨ds,gs,before,hw,_⟩,hx⟩,_⟩:=sw;refine(contract (w.forCall tape i) w.heap.size i.args ds gs before cX (DataW.Whole.of_heap (w':=w.forCall tape i) (by rfl) hw) (hX _ _ _ (by rfl) hx) bn).mono fun e W' h=> ?_
 obtain⟨v,rfl,hp⟩:=h;exact ChangeSpec.post_blind hp
theorem zn4:ownKnob Tryz.prog.godebug=none:=by kernel_rfl
theorem zkp:laidOutB Tryz.prog=true:=by kernel_rfl
end Go.Proofs.YtckkbkdcdkhglaaGreatDoor
namespace Go.Proofs.YtckkbkdcdkhglaaGreatDoor
open Go.RowKit
theorem zn5: ∀(l:List Int) (i:Nat),nmGo l (i+1)=zjh l
 | [],_=>rfl
 |c::l,i=>by
  rw[nmGo,zjh,zn5 l (i+1)];have h:(!(zcV c)&&(i+1==0||(c != 45&&(decide (c<48)||decide (57<c)))))=(!zcV c&&!zkY c&&c != 45):=by
   cases zcV c
   ·have h0:(i+1==0)=false:=by simp
    rw[h0];by_cases h1:c=45
    ·subst h1;rfl
    ·have h2:(c != 45)=true:=by simpa using h1
     rw[h2,zkY];by_cases h3:c<48
     ·have h4: ¬48<=c:=by omega
      simp only[h3,h4,decide_true,decide_false,Bool.not_false,Bool.true_and,Bool.false_or,Bool.true_or,Bool.false_and]
     ·have h4:48<=c:=by omega
      by_cases h5:57<c
      ·have h6: ¬c<=57:=by omega
       simp only[h3,h4,h5,h6,decide_true,decide_false,Bool.not_false,Bool.true_and,Bool.false_or,Bool.true_or,Bool.false_and,Bool.or_true]
      ·have h6:c<=57:=by omega
       simp only[h3,h4,h5,h6,decide_true,decide_false,Bool.not_false,Bool.true_and,Bool.false_or,Bool.true_or,Bool.false_and,Bool.or_true,Bool.or_false,Bool.not_true]
   ·rfl
  rw[h]
theorem zmu (s:ByteArray):s.toList.isEmpty=decide ((s.size:Int)<1):=by
 have e:s.toList.length=s.size:=by rw[ByteArray.toList_eq,Array.length_toList];rfl
 generalize s.size=n at*;cases hl:s.toList with
 |nil=>
  rw[hl]at e;subst e;rfl
 |cons a l=>
  rw[hl,List.length_cons]at e;have h: ¬((n:Int)<1):=by omega
  rw[decide_eq_false h];rfl
theorem zdt (s:ByteArray):zaR s=zcA s:=by
 unfold zaR zcA;rw[zmu];have hl:=zgK s;cases hb:zdo s with
 |nil=>
  rw[hb]at hl;have h0:(s.size:Int)<1:=by simp at hl;omega
  simp[h0]
 |cons c l=>
  rw[hb]at hl;have h0: ¬(s.size:Int)<1:=by simp at hl;omega
  have h1:nmGo (c::l) 0=if !zcV c then false else zjh l:=by rw[nmGo,zn5];simp
  rw[h1];simp only[h0,decide_false,Bool.not_false,Bool.true_and,Bool.false_or,List.getD_cons_zero,List.drop_succ_cons,List.drop_zero];cases zcV c<;>by_cases h2:(12:Int)<s.size<;>simp[h2]<;>omega
end Go.Proofs.YtckkbkdcdkhglaaGreatDoor

