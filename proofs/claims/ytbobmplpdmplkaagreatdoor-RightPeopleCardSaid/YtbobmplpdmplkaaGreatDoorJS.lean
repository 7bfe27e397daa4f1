import Derived.Shelf.SlicesQ.IndexFunc
import Derived.Shelf.SlicesE.IndexFunc
import Derived.Test.YtbobmplpdmplkaaGreatDoorU0
import Derived.Test.YtbobmplpdmplkaaGreatDoorA1
import Derived.Shelf.Spec.TrailingZeros
set_option linter.all false
set_option maxRecDepth 100000
set_option maxHeartbeats 4000000
namespace Go.Proofs.YtbobmplpdmplkaaGreatDoor
open Go.RowKit
section
open Go.Shelf
def zom:Go.Shelf.Ren:=⟨fun|8=>74|6=>110|n=>n,fun|22=>48|23=>71|25=>140|4=>4|3=>3|0=>0|n=>n,fun|n=>n⟩
theorem cfPart:Go.Proofs.SlLaysH0.n8 Tryz.prog zom:= {
 mixed:=by kernel_rfl
 f6:=⟨Tryz.f110.name,by decide,Tryz.func110.trans (congrArg some (by kernel_rfl))⟩
 f8:=⟨Tryz.f74.name,by decide,Tryz.func74.trans (congrArg some (by kernel_rfl))⟩
 t0:=Tryz.underlying0
 a0:=Tryz.isAgg0
 z0:=Tryz.sizeOf0
 v0:=Tryz.zeroValue0
 t3:=Tryz.underlying3
 a3:=Tryz.isAgg3
 z3:=Tryz.sizeOf3
 v3:=Tryz.zeroValue3
 t4:=Tryz.underlying4
 a4:=Tryz.isAgg4
 z4:=Tryz.sizeOf4
 v4:=Tryz.zeroValue4
 t22:=Tryz.underlying48
 a22:=Tryz.isAgg48
 z22:=Tryz.sizeOf48
 v22:=Tryz.zeroValue48
 t25:=Tryz.underlying140
 a25:=Tryz.isAgg140
 z25:=Tryz.sizeOf140
 v25:=Tryz.zeroValue140}
def cfRec_ren:Go.Shelf.Ren:=⟨fun|8=>81|6=>116|n=>n,fun|22=>68|23=>67|25=>147|4=>4|3=>3|0=>0|n=>n,fun|n=>n⟩
theorem cfRec:Go.Proofs.SlLaysH0.n8 Tryz.prog cfRec_ren:= {
 mixed:=by kernel_rfl
 f6:=⟨Tryz.f116.name,by decide,Tryz.func116.trans (congrArg some (by kernel_rfl))⟩
 f8:=⟨Tryz.f81.name,by decide,Tryz.func81.trans (congrArg some (by kernel_rfl))⟩
 t0:=Tryz.underlying0
 a0:=Tryz.isAgg0
 z0:=Tryz.sizeOf0
 v0:=Tryz.zeroValue0
 t3:=Tryz.underlying3
 a3:=Tryz.isAgg3
 z3:=Tryz.sizeOf3
 v3:=Tryz.zeroValue3
 t4:=Tryz.underlying4
 a4:=Tryz.isAgg4
 z4:=Tryz.sizeOf4
 v4:=Tryz.zeroValue4
 t22:=Tryz.underlying68
 a22:=Tryz.isAgg68
 z22:=Tryz.sizeOf68
 v22:=Tryz.zeroValue68
 t25:=Tryz.underlying147
 a25:=Tryz.isAgg147
 z25:=Tryz.sizeOf147
 v25:=Tryz.zeroValue147}
end
theorem zkU:∀l:List UInt8,Op.bytesLess l l=false
 | []=>rfl
 |a::l=>by rw[Op.bytesLess,zkU l];simp
theorem zhY:∀ {a b c:List UInt8},Op.bytesLess a b=true->Op.bytesLess b c=true->Op.bytesLess a c=true
 |_,[],_,h,_=>by unfold Op.bytesLess at h;simp at h
 |_,_::_,[],_,h=>by unfold Op.bytesLess at h;simp at h
 | [],_::_,_::_,_,_=>rfl
 |a::x,b::y,c::z,h1,h2=>by
  have ih:= @zhY x y z;simp only[Op.bytesLess,Bool.or_eq_true,decide_eq_true_eq,Bool.and_eq_true,beq_iff_eq,UInt8.lt_iff_toNat_lt]at h1 h2⊢;rcases h1 with h1|⟨rfl,h1⟩<;>rcases h2 with h2|⟨rfl,h2⟩
  ·exact .inl (by omega)
  ·exact .inl h1
  ·exact .inl h2
  ·exact .inr ⟨rfl,ih h1 h2⟩
theorem zkV:∀a b:List UInt8,Op.bytesLess a b=true\/a=b\/Op.bytesLess b a=true
 | [],[]=> .inr (.inl rfl)
 | [],_::_=> .inl rfl
 |_::_,[]=> .inr (.inr rfl)
 |a::x,b::y=>by
  have ih:=zkV x y;simp only[Op.bytesLess,Bool.or_eq_true,decide_eq_true_eq,Bool.and_eq_true,beq_iff_eq,List.cons.injEq,UInt8.lt_iff_toNat_lt];rcases Nat.lt_trichotomy a.toNat b.toNat with h|h|h
  ·exact .inl (.inl h)
  ·have h':a=b:=UInt8.toNat_inj.1 h;subst h';rcases ih with ih|ih|ih
   ·exact .inl (.inr ⟨rfl,ih⟩)
   ·exact .inr (.inl ⟨rfl,ih⟩)
   ·exact .inr (.inr (.inr ⟨rfl,ih⟩))
  ·exact .inr (.inr (.inl h))
theorem zeR(a:ByteArray):zbh a a=false:=zkU _
theorem zb1{a b c:ByteArray}(h:zbh a b=true)(k:zbh b c=true):zbh a c=true:=zhY h k
theorem zda(a b:ByteArray):zbh a b=true\/a=b\/zbh b a=true:=by
 rcases zkV a.toList b.toList with h|h|h
 ·exact .inl h
 ·exact .inr (.inl (zau.1 (by unfold zae;simpa using h)))
 ·exact .inr (.inr h)
theorem zc5{a b:ByteArray}(h:zbh a b=true):a≠b:=by
 rintro rfl;rw[zeR]at h;cases h
theorem zgM{a b:ByteArray}(h:zbh a b=true):zbh b a=false:=by
 rw[<-Bool.not_eq_true];intro k;have:=zb1 h k;rw[zeR]at this;cases this
structure GoodParts (l:Parts):Prop where
 asc:l.Pairwise fun a b=>zbh a.1 b.1=true
 pos:∀p∈l,0<p.2
theorem zbV(n:ByteArray)(q:Rat):∀l:Parts,sumQ (za3 l n q)=sumQ l+q
 | []=>by
   unfold za3;split
   ·rename_i h
    have:q=0:=by simpa using h
    subst this;simp[sumQ];grind
   ·simp[sumQ];grind
 |p::r=>by
  have ih:=zbV n q r;unfold za3;split
  ·rename_i h
   have:q=0:=by simpa using h
   subst this;grind
  ·split
   ·rw[sumQ,ih,sumQ];grind
   ·split
    ·rw[sumQ,sumQ];grind
    ·rw[sumQ,sumQ];grind
theorem zeS{n:ByteArray}{q:Rat}:∀ {l:Parts} {p:ByteArray×Rat},p∈za3 l n q->p.1=n\/p∈l
 | [],p,h=>by
   unfold za3 at h;split at h
   ·exact .inr h
   ·simp at h;exact .inl (by rw[h])
 |x::r,p,h=>by
  unfold za3 at h;split at h
  ·exact .inr h
  ·split at h
   ·rcases List.mem_cons.1 h with rfl|h
    ·exact .inr (by simp)
    ·rcases zeS h with h|h
     ·exact .inl h
     ·exact .inr (by simp[h])
   ·split at h
    ·rcases List.mem_cons.1 h with rfl|h
     ·exact .inl rfl
     ·exact .inr (by simp[h])
    ·rcases List.mem_cons.1 h with rfl|h
     ·exact .inl rfl
     ·exact .inr h
theorem zbx{n:ByteArray}{q:Rat}(hq:0<=q):∀ {l:Parts},GoodParts l->GoodParts (za3 l n q)
 | [],_=>by
   unfold za3;split
   ·exact⟨List.Pairwise.nil,by simp⟩
   ·rename_i h
    have:q≠0:=by simpa using h
    exact⟨by simp,by intro p hp;simp at hp;rw[hp];show 0<q;grind⟩
 |x::r,⟨h1,h2⟩=>by
  have hr:GoodParts r:=⟨(List.pairwise_cons.1 h1).2,fun p hp=>h2 p (by simp[hp])⟩
  have hx:=(List.pairwise_cons.1 h1).1;unfold za3;split
  ·exact⟨h1,h2⟩
  ·rename_i h
   have gC:0<q:=by have:q≠0:=by simpa using h
                   grind
   split
   ·rename_i hl
    have ih:=zbx (n:=n) hq hr;refine⟨List.pairwise_cons.2 ⟨fun p hp=>?_,ih.asc⟩,fun p hp=>?_⟩
    ·rcases zeS hp with e|hp
     ·rw[e];exact hl
     ·exact hx p hp
    ·rcases List.mem_cons.1 hp with rfl|hp
     ·exact h2 _ (by simp)
     ·exact ih.pos p hp
   ·rename_i hl
    split
    ·rename_i hs
     have e:=zau.1 hs;refine⟨List.pairwise_cons.2 ⟨fun p hp=>by rw[<-e];exact hx p hp,hr.asc⟩,fun p hp=>?_⟩;rcases List.mem_cons.1 hp with rfl|hp
     ·have:=h2 x (by simp);show 0<x.2+q;grind
     ·exact hr.pos p hp
    ·rename_i hs
     have jv:zbh n x.1=true:=by
      rcases zda n x.1 with k|k|k
      ·exact k
      ·exact absurd (zau.2 k.symm) hs
      ·exact absurd k hl
     refine⟨List.pairwise_cons.2 ⟨fun p hp=>?_,h1⟩,fun p hp=>?_⟩
     ·rcases List.mem_cons.1 hp with rfl|hp
      ·exact jv
      ·exact zb1 jv (hx p hp)
     ·rcases List.mem_cons.1 hp with rfl|hp
      ·exact gC
      ·exact h2 p hp
theorem zdD{n:ByteArray}:∀ {l:Parts},(∀p∈l,p.1≠n)->zag l n=0/\zas l n=l
 | [],_=>⟨rfl,rfl⟩
 |x::r,h=>by
  have ih:=zdD (l:=r) fun p hp=>h p (by simp[hp])
  have hx:zae x.1 n=false:=zcn.2 (h x (by simp));unfold zag zas at*;rw[List.find?_cons,hx,List.filter_cons,hx];exact⟨ih.1,by simpa using ih.2⟩
theorem zcg{n:ByteArray}:∀ {l:Parts},GoodParts l->sumQ (zas l n)+zag l n=sumQ l
 | [],_=>by simp only[zas,zag,sumQ,List.filter_nil,List.find?_nil,Option.map_none,Option.getD_none];grind
 |x::r,⟨h1,h2⟩=>by
  have hr:GoodParts r:=⟨(List.pairwise_cons.1 h1).2,fun p hp=>h2 p (by simp[hp])⟩
  have hx:=(List.pairwise_cons.1 h1).1;have ih:=zcg (n:=n) hr;by_cases hs:x.1=n
  ·have hn:=zdD (n:=n) (l:=r) fun p hp e=>by
    have:=zc5 (hx p hp);exact this (by rw[e,hs])
   have e1:zas (x::r) n=zas r n:=by
    unfold zas;rw[List.filter_cons,zau.2 hs];rfl
   have e2:zag (x::r) n=x.2:=by
    unfold zag;rw[List.find?_cons,zau.2 hs];rfl
   rw[e1,e2,hn.2,sumQ];grind
  ·have hf:zae x.1 n=false:=zcn.2 hs;have e1:zas (x::r) n=x::zas r n:=by
    unfold zas;rw[List.filter_cons,hf];rfl
   have e2:zag (x::r) n=zag r n:=by
    unfold zag;rw[List.find?_cons,hf]
   rw[e1,e2,sumQ,sumQ,<-ih];grind
theorem zbK{n:ByteArray}{l:Parts}(h:GoodParts l):GoodParts (zas l n):=
 ⟨h.asc.sublist List.filter_sublist,fun p hp=>h.pos p ((List.mem_filter.1 hp).1)⟩
theorem zbr:∀ {l:Parts},(∀p∈l,0<=p.2)->0<=sumQ l
 | [],_=>by simp[sumQ]
 |x::r,h=>by
  have ih:=zbr (l:=r) fun p hp=>h p (by simp[hp])
  have hx:=h x (by simp);rw[sumQ];grind
theorem zgN:∀ {l:Parts},(∀p∈l,0<=p.2)->∀p∈l,p.2<=sumQ l
 |x::r,h,p,hp=>by
  have hr:=zbr (l:=r) fun p hp=>h p (by simp[hp])
  have hx:=h x (by simp);rw[sumQ];rcases List.mem_cons.1 hp with rfl|hp
  ·grind
  ·have:=zgN (l:=r) (fun p hp=>h p (by simp[hp])) p hp;grind
mutual
def okT:Tree->Bool
 | .leaf _=>true
 | .node l=>!l.isEmpty&&okL l
def okL:List Tree->Bool
 | []=>true
 |x::l=>okT x&&okL l
end
theorem zmq:∀ {l:List Tree},okL l=true↔ ∀x∈l,okT x=true
 | []=>by simp[okL]
 |x::l=>by rw[okL,Bool.and_eq_true,zmq];simp
theorem zka(s:St)(stems:Bool)(frm:ByteArray):∀(f:Nat) (n:ByteArray),okL (zb2 s stems frm f n)=true
 |0,_=>rfl
 |f+1,n=>by
  rw[zmq];intro x hx;rw[zb2,List.mem_filterMap]at hx;obtain⟨c,_,hc⟩:=hx;split at hc
  ·cases hc;rfl
  ·split at hc
   ·rename_i hs
    cases hc;rw[Bool.and_eq_true]at hs;rw[okT,hs.2,zka s stems frm f c];rfl
   ·cases hc
theorem ratN{n:Nat}(h:n≠0):(n:Rat)≠0:=by
 intro e;apply h;have:((n:Int):Rat)=((0:Int):Rat):=by simpa using e
 have:=Rat.intCast_inj.1 this;omega
theorem zcF{a b:Rat}(h:0<=a)(hb:0<=b):0<=a/b:=by
 rw[Rat.div_def];by_cases h0:b=0
 ·subst h0;rw[Rat.inv_zero];grind
 ·have:0<b⁻¹:=Rat.inv_pos.2 (by grind);exact Rat.mul_nonneg h (by grind)
mutual
theorem zgO{each:Rat}:∀ {l:List Tree} {out o:Parts},okL l=true->zbG each l out=some o->sumQ o=sumQ out+each*(l.length:Rat)
 | [],out,o,_,h=>by
   rw[zbG]at h;cases h;simp only[List.length_nil];have:((0:Nat):Rat)=0:=rfl;grind
 |x::l,out,o,hk,h=>by
  rw[okL,Bool.and_eq_true]at hk;rw[zbG,Option.bind_eq_some_iff]at h;obtain⟨o1,h1,h2⟩:=h;have e1:=zn5 hk.1 h1;have e2:=zgO hk.2 h2;rw[e2,e1,List.length_cons];have:((l.length+1:Nat):Rat)=(l.length:Rat)+1:=by simp
  grind
theorem zn5{each:Rat}:∀ {x:Tree} {out o:Parts},okT x=true->zeg each x out=some o->sumQ o=sumQ out+each
 | .leaf n,out,o,_,h=>by
   rw[zeg]at h;split at h
   ·cases h
   ·cases h;exact zbV n each out
 | .node l,out,o,hk,h=>by
   rw[okT,Bool.and_eq_true]at hk;rw[zeg]at h;split at h
   ·cases h
   ·have e:=zgO hk.2 h;rw[e];have h0:l.length≠0:=by
     intro e0;have:=List.eq_nil_of_length_eq_zero e0;rw[this]at hk;exact absurd hk.1 (by decide)
    have:=ratN h0;grind
end
mutual
theorem ze0{each:Rat}(he:0<=each):∀ {l:List Tree} {out o:Parts},GoodParts out->zaE out=false->zbG each l out=some o->GoodParts o/\zaE o=false
 | [],out,o,hg,hl,h=>by
   rw[zbG]at h;cases h;exact⟨hg,hl⟩
 |x::l,out,o,hg,hl,h=>by
  rw[zbG,Option.bind_eq_some_iff]at h;obtain⟨o1,h1,h2⟩:=h;have e1:=zhZ he hg hl h1;exact ze0 he e1.1 e1.2 h2
theorem zhZ{each:Rat}(he:0<=each):∀ {x:Tree} {out o:Parts},GoodParts out->zaE out=false->zeg each x out=some o->GoodParts o/\zaE o=false
 | .leaf n,out,o,hg,hl,h=>by
   rw[zeg]at h;split at h
   ·cases h
   ·rename_i hb
    cases h;exact⟨zbx he hg,by simpa using hb⟩
 | .node l,out,o,hg,hl,h=>by
   rw[zeg]at h;split at h
   ·cases h
   ·exact ze0 (zcF he Rat.natCast_nonneg) hg hl h
end
theorem zon:∀a b:Fin 64,a.val*64+b.val≠0->zcV 12 (a.val*64+b.val)=Lib.ctz 64 (a.val*64+b.val)::zcV 12 ((a.val*64+b.val) &&& (a.val*64+b.val-1)):=by decide+kernel
theorem zoo(x:Nat)(hx:x<4096)(h0:x≠0):zcV 12 x=Lib.ctz 64 x::zcV 12 (x &&& (x-1)):=by
 have h:=zon ⟨x/64,by omega⟩ ⟨x%64,by omega⟩;have e:x/64*64+x%64=x:=by omega
 simp only[e]at h;exact h h0
theorem bits_up{n x:Nat}(hn:n<=12)(hx:x<2^n):zcV n x=zcV 12 x:=by
 unfold zcV;have h:List.range 12=List.range n++(List.range (12-n)).map (n+ ·):=by
  rw[<-List.range_add];congr 1
  omega
 rw[h,List.filter_append];have h2:((List.range (12-n)).map (n+ ·)).filter (fun i=>x.testBit i)=[]:=by
  rw[List.filter_eq_nil_iff];intro i hi;obtain⟨j,_,rfl⟩:=List.mem_map.1 hi;have:x.testBit (n+j)=false:=Nat.testBit_lt_two_pow (Nat.lt_of_lt_of_le hx (Nat.pow_le_pow_right (by decide) (by omega)));rw[this];decide
 rw[h2,List.append_nil]
theorem zia{n x:Nat}(hx:x<2^n):x &&& (x-1)<2^n:=Nat.lt_of_le_of_lt Nat.and_le_left hx
theorem bits_step{n x:Nat}(hn:n<=12)(hx:x<2^n)(h0:x≠0):zcV n x=Lib.ctz 64 x::zcV n (x &&& (x-1)):=by
 have nw:x<4096:=Nat.lt_of_lt_of_le hx (Nat.pow_le_pow_right (n:=2) (by decide) hn);rw[bits_up hn hx,bits_up hn (zia hx)];exact zoo x nw h0
theorem bits_none(n:Nat):zcV n 0=[]:=by
 unfold zcV;rw[List.filter_eq_nil_iff];intro i _;simp
theorem zkW{x:Nat}(h0:x≠0):x &&& (x-1)<x:=Nat.lt_of_le_of_lt Nat.and_le_right (by omega)
