import Derived.Shelf.Small.Strs
import Derived.Shelf.SlicesE.Clone
import Derived.Shelf.SlicesE.Index
import Derived.Shelf.SlicesQ.Contains
import Derived.Shelf.Spec.TrailingZeros
import Derived.Test.YtegdimedhfafjaaGreatDoorJ5
set_option linter.all false
set_option maxRecDepth 100000
set_option maxHeartbeats 4000000
namespace Go.Proofs.YtegdimedhfafjaaGreatDoor
open Go.RowKit
attribute [local go_sem] World.cell?_alloc_mark zaf za5 zao za8 zav zaw zax zay zaz za0 za1
attribute [local go_sem] zaq zad
section
open Go.Shelf
def zou:Go.Shelf.Ren:=⟨fun|106=>133|213=>163|265=>187|n=>n,fun|9=>9|3=>3|n=>n,fun|n=>n⟩
theorem cmpStr:Go.Proofs.Lays.n106 Tryz.prog zou:= {
 mixed:=by kernel_rfl
 f106:=Tryz.func133.trans (congrArg some Mcn)
 f213:=Tryz.func163.trans (congrArg some Mcn)
 f265:=Tryz.func187.trans (congrArg some Mcn)
 t3:=Tryz.underlying3
 a3:=Tryz.isAgg3
 z3:=Tryz.sizeOf3
 v3:=Tryz.zeroValue3
 t9:=Tryz.underlying9
 a9:=Tryz.isAgg9
 z9:=Tryz.sizeOf9
 v9:=Tryz.zeroValue9}
def coStr_ren:Go.Shelf.Ren:=⟨fun|31=>37|29=>71|n=>n,fun|22=>38|23=>9|4=>4|3=>3|0=>0|n=>n,fun|n=>n⟩
theorem coStr:Go.Proofs.SlLaysE.n31 Tryz.prog coStr_ren:= {
 mixed:=by kernel_rfl
 f29:=⟨Tryz.f71.name,by decide,Tryz.func71.trans (congrArg some Mcn)⟩
 f31:=⟨Tryz.f37.name,by decide,Tryz.func37.trans (congrArg some Mcn)⟩
 t0:=Tryz.underlying0
 a0:=Tryz.isAgg0
 z0:=Tryz.sizeOf0
 v0:=Tryz.zeroValue0
 t3:=Tryz.underlying3
 a3:=Tryz.isAgg3
 z3:=Tryz.sizeOf3
 v3:=Tryz.zeroValue3
 t4:=Tryz.underlying4
 a4:=Tryz.isAgg4
 z4:=Tryz.sizeOf4
 v4:=Tryz.zeroValue4
 t22:=Tryz.underlying38
 a22:=Tryz.isAgg38
 z22:=Tryz.sizeOf38
 v22:=Tryz.zeroValue38
 a23:=Tryz.isAgg9
 z23:=Tryz.sizeOf9}
def zov:Go.Shelf.Ren:=⟨fun|7=>69|6=>114|n=>n,fun|22=>37|24=>122|4=>4|0=>0|3=>3|n=>n,fun|n=>n⟩
theorem coPair:Go.Proofs.SlLaysQ.n7 Tryz.prog zov:= {
 mixed:=by kernel_rfl
 f6:=⟨Tryz.f114.name,by decide,Tryz.func114.trans (congrArg some Mcn)⟩
 f7:=⟨Tryz.f69.name,by decide,Tryz.func69.trans (congrArg some Mcn)⟩
 t0:=Tryz.underlying0
 a0:=Tryz.isAgg0
 z0:=Tryz.sizeOf0
 v0:=Tryz.zeroValue0
 t3:=Tryz.underlying3
 a3:=Tryz.isAgg3
 z3:=Tryz.sizeOf3
 v3:=Tryz.zeroValue3
 t4:=Tryz.underlying4
 a4:=Tryz.isAgg4
 z4:=Tryz.sizeOf4
 v4:=Tryz.zeroValue4
 t22:=Tryz.underlying37
 a22:=Tryz.isAgg37
 z22:=Tryz.sizeOf37
 v22:=Tryz.zeroValue37}
def zow:Go.Shelf.Ren:=⟨fun|27=>73|28=>116|29=>117|n=>n,fun|25=>127|3=>3|27=>158|22=>160|4=>4|53=>197|0=>0|5=>5|54=>198|n=>n,fun|0=>1|1=>2|n=>n⟩
theorem tzBits:Go.Proofs.Lays7.n27 Tryz.prog zow:= {
 mixed:=by kernel_rfl
 f27:=Tryz.func73.trans (congrArg some Mcn)
 f28:=Tryz.func116.trans (congrArg some Mcn)
 f29:=Tryz.func117.trans (congrArg some Mcn)
 t0:=Tryz.underlying0
 a0:=Tryz.isAgg0
 z0:=Tryz.sizeOf0
 v0:=Tryz.zeroValue0
 i0:=by kernel_rfl
 t3:=Tryz.underlying3
 a3:=Tryz.isAgg3
 z3:=Tryz.sizeOf3
 v3:=Tryz.zeroValue3
 i3:=by kernel_rfl
 t4:=Tryz.underlying4
 a4:=Tryz.isAgg4
 z4:=Tryz.sizeOf4
 v4:=Tryz.zeroValue4
 i4:=by kernel_rfl
 t5:=Tryz.underlying5
 a5:=Tryz.isAgg5
 z5:=Tryz.sizeOf5
 v5:=Tryz.zeroValue5
 i5:=by kernel_rfl
 t22:=Tryz.underlying160
 a22:=Tryz.isAgg160
 z22:=Tryz.sizeOf160
 v22:=Tryz.zeroValue160
 i22:=by kernel_rfl
 t25:=Tryz.underlying127
 a25:=Tryz.isAgg127
 z25:=Tryz.sizeOf127
 v25:=Tryz.zeroValue127
 i25:=by kernel_rfl
 t27:=Tryz.underlying158
 a27:=Tryz.isAgg158
 z27:=Tryz.sizeOf158
 v27:=Tryz.zeroValue158
 i27:=by kernel_rfl
 t53:=Tryz.underlying197
 a53:=Tryz.isAgg197
 z53:=Tryz.sizeOf197
 v53:=Tryz.zeroValue197
 i53:=by kernel_rfl
 t54:=Tryz.underlying198
 a54:=Tryz.isAgg198
 z54:=Tryz.sizeOf198
 g0:=by kernel_rfl
 g1:=by kernel_rfl}
end
theorem zlb:∀l:List UInt8,Op.bytesLess l l=false
 | []=>rfl
 |a::l=>by rw[Op.bytesLess,zlb l];simp
theorem zie:∀ {a b c:List UInt8},Op.bytesLess a b=true->Op.bytesLess b c=true->Op.bytesLess a c=true
 |_,[],_,h,_=>by unfold Op.bytesLess at h;simp at h
 |_,_::_,[],_,h=>by unfold Op.bytesLess at h;simp at h
 | [],_::_,_::_,_,_=>rfl
 |a::x,b::y,c::z,h1,h2=>by
  have ih:= @zie x y z;simp only[Op.bytesLess,Bool.or_eq_true,decide_eq_true_eq,Bool.and_eq_true,beq_iff_eq,UInt8.lt_iff_toNat_lt]at h1 h2⊢;rcases h1 with h1|⟨rfl,h1⟩<;>rcases h2 with h2|⟨rfl,h2⟩
  ·exact .inl Mcm
  ·exact .inl h1
  ·exact .inl h2
  ·exact .inr ⟨rfl,ih h1 h2⟩
theorem zlc:∀a b:List UInt8,Op.bytesLess a b=true\/a=b\/Op.bytesLess b a=true
 | [],[]=> .inr (.inl rfl)
 | [],_::_=> .inl rfl
 |_::_,[]=> .inr (.inr rfl)
 |a::x,b::y=>by
  have ih:=zlc x y;simp only[Op.bytesLess,Bool.or_eq_true,decide_eq_true_eq,Bool.and_eq_true,beq_iff_eq,List.cons.injEq,UInt8.lt_iff_toNat_lt];rcases Nat.lt_trichotomy a.toNat b.toNat with h|h|h
  ·exact .inl (.inl h)
  ·have h':a=b:=UInt8.toNat_inj.1 h;subst h';rcases ih with ih|ih|ih
   ·exact .inl (.inr ⟨rfl,ih⟩)
   ·exact .inr (.inl ⟨rfl,ih⟩)
   ·exact .inr (.inr (.inr ⟨rfl,ih⟩))
  ·exact .inr (.inr (.inl h))
theorem zeZ(a:ByteArray):zbq a a=false:=zlb _
theorem zb6{a b c:ByteArray}(h:zbq a b=true)(k:zbq b c=true):zbq a c=true:=zie h k
theorem zdq(a b:ByteArray):zbq a b=true\/a=b\/zbq b a=true:=by
 rcases zlc a.toList b.toList with h|h|h
 ·exact .inl h
 ·exact .inr (.inl (za2.1 (by unfold zae;simpa using h)))
 ·exact .inr (.inr h)
theorem zcC{a b:ByteArray}(h:zbq a b=true):a≠b:=by
 rintro rfl;rw[zeZ]at h;cases h
theorem zj0{a b:ByteArray}(h:zbq a b=true):zbq b a=false:=by
 rw[<-Bool.not_eq_true];intro k;have:=zb6 h k;rw[zeZ]at this;cases this
structure GoodParts (l:Parts):Prop where
 asc:l.Pairwise fun a b=>zbq a.1 b.1=true
 pos:∀p∈l,0<p.2
theorem zbY(n:ByteArray)(q:Rat):∀l:Parts,sumQ (za4 l n q)=sumQ l+q
 | []=>by
   unfold za4;split
   ·rename_i h
    have:q=0:=by simpa using h
    subst this;simp[sumQ];grind
   ·simp[sumQ];grind
 |p::r=>by
  have ih:=zbY n q r;unfold za4;split
  ·rename_i h
   have:q=0:=by simpa using h
   subst this;grind
  ·split
   ·rw[sumQ,ih,sumQ];grind
   ·split
    ·rw[sumQ,sumQ];grind
    ·rw[sumQ,sumQ];grind
theorem zfa{n:ByteArray}{q:Rat}:∀ {l:Parts} {p:ByteArray×Rat},p∈za4 l n q->p.1=n\/p∈l
 | [],p,h=>by
   unfold za4 at h;split at h
   ·exact .inr h
   ·simp at h;exact .inl (by rw[h])
 |x::r,p,h=>by
  unfold za4 at h;split at h
  ·exact .inr h
  ·split at h
   ·rcases List.mem_cons.1 h with rfl|h
    ·exact .inr Mcp
    ·rcases zfa h with h|h
     ·exact .inl h
     ·exact .inr (by simp[h])
   ·split at h
    ·exact Mbv
    ·exact MbL
theorem zbx{n:ByteArray}{q:Rat}(hq:0<=q):∀ {l:Parts},GoodParts l->GoodParts (za4 l n q)
 | [],_=>by
   unfold za4;split
   ·exact⟨List.Pairwise.nil,by simp⟩
   ·rename_i h
    have:q≠0:=by simpa using h
    exact⟨by simp,by intro p hp;simp at hp;rw[hp];show 0<q;grind⟩
 |x::r,⟨h1,h2⟩=>by
  have hr:GoodParts r:=⟨(List.pairwise_cons.1 h1).2,fun p hp=>h2 p McX⟩
  have hx:=(List.pairwise_cons.1 h1).1;unfold za4;split
  ·exact⟨h1,h2⟩
  ·rename_i h
   have gR:0<q:=by have:q≠0:=by simpa using h
                   grind
   split
   ·rename_i hl
    have ih:=zbx (n:=n) hq hr;refine⟨List.pairwise_cons.2 ⟨fun p hp=>?_,ih.asc⟩,fun p hp=>?_⟩
    ·rcases zfa hp with e|hp
     ·rw[e];exact hl
     ·exact hx p hp
    ·rcases List.mem_cons.1 hp with rfl|hp
     ·exact h2 _ Mcp
     ·exact ih.pos p hp
   ·rename_i hl
    split
    ·rename_i hs
     have e:=za2.1 hs;refine⟨List.pairwise_cons.2 ⟨fun p hp=>by rw[<-e];exact hx p hp,hr.asc⟩,fun p hp=>?_⟩;rcases List.mem_cons.1 hp with rfl|hp
     ·have:=h2 x Mcp;show 0<x.2+q;grind
     ·exact hr.pos p hp
    ·rename_i hs
     have gK:zbq n x.1=true:=by
      rcases zdq n x.1 with k|k|k
      ·exact k
      ·exact absurd (za2.2 k.symm) hs
      ·exact absurd k hl
     refine⟨List.pairwise_cons.2 ⟨fun p hp=>?_,h1⟩,fun p hp=>?_⟩
     ·rcases List.mem_cons.1 hp with rfl|hp
      ·exact gK
      ·exact zb6 gK (hx p hp)
     ·rcases List.mem_cons.1 hp with rfl|hp
      ·exact gR
      ·exact h2 p hp
theorem zdE{n:ByteArray}:∀ {l:Parts},(∀p∈l,p.1≠n)->zag l n=0/\zat l n=l
 | [],_=>⟨rfl,rfl⟩
 |x::r,h=>by
  have ih:=zdE (l:=r) fun p hp=>h p McX
  have hx:zae x.1 n=false:=zcm.2 (h x Mcp);unfold zag zat at*;rw[List.find?_cons,hx,List.filter_cons,hx];exact⟨ih.1,by simpa using ih.2⟩
theorem zcg{n:ByteArray}:∀ {l:Parts},GoodParts l->sumQ (zat l n)+zag l n=sumQ l
 | [],_=>by simp only[zat,zag,sumQ,List.filter_nil,List.find?_nil,Option.map_none,Option.getD_none];grind
 |x::r,⟨h1,h2⟩=>by
  have hr:GoodParts r:=⟨(List.pairwise_cons.1 h1).2,fun p hp=>h2 p McX⟩
  have hx:=(List.pairwise_cons.1 h1).1;have ih:=zcg (n:=n) hr;by_cases hs:x.1=n
  ·have hn:=zdE (n:=n) (l:=r) fun p hp e=>by
    have:=zcC (hx p hp);exact this (by rw[e,hs])
   have e1:zat (x::r) n=zat r n:=by
    unfold zat;rw[List.filter_cons,za2.2 hs];rfl
   have e2:zag (x::r) n=x.2:=by
    unfold zag;rw[List.find?_cons,za2.2 hs];rfl
   rw[e1,e2,hn.2,sumQ];grind
  ·have hf:zae x.1 n=false:=zcm.2 hs;have e1:zat (x::r) n=x::zat r n:=by
    unfold zat;rw[List.filter_cons,hf];rfl
   have e2:zag (x::r) n=zag r n:=by
    unfold zag;rw[List.find?_cons,hf]
   rw[e1,e2,sumQ,sumQ,<-ih];grind
theorem zbK{n:ByteArray}{l:Parts}(h:GoodParts l):GoodParts (zat l n):=
 ⟨h.asc.sublist List.filter_sublist,fun p hp=>h.pos p ((List.mem_filter.1 hp).1)⟩
theorem zbs:∀ {l:Parts},(∀p∈l,0<=p.2)->0<=sumQ l
 | [],_=>by simp[sumQ]
 |x::r,h=>by
  have ih:=zbs (l:=r) fun p hp=>h p McX
  have hx:=h x Mcp;rw[sumQ];grind
theorem zgV:∀ {l:Parts},(∀p∈l,0<=p.2)->∀p∈l,p.2<=sumQ l
 |x::r,h,p,hp=>by
  have hr:=zbs (l:=r) fun p hp=>h p McX
  have hx:=h x Mcp;rw[sumQ];rcases List.mem_cons.1 hp with rfl|hp
  ·grind
  ·have:=zgV (l:=r) (fun p hp=>h p McX) p hp;grind
mutual
def okT:Tree->Bool
 | .leaf _=>true
 | .node l=>!l.isEmpty&&okL l
def okL:List Tree->Bool
 | []=>true
 |x::l=>okT x&&okL l
end
theorem zmy:∀ {l:List Tree},okL l=true↔ ∀x∈l,okT x=true
 | []=>by simp[okL]
 |x::l=>by rw[okL,Bool.and_eq_true,zmy];simp
theorem zkg(s:St)(stems:Bool)(frm:ByteArray):∀(f:Nat) (n:ByteArray),okL (zb7 s stems frm f n)=true
 |0,_=>rfl
 |f+1,n=>by
  rw[zmy];intro x hx;rw[zb7,List.mem_filterMap]at hx;obtain⟨c,_,hc⟩:=hx;split at hc
  ·cases hc;rfl
  ·split at hc
   ·rename_i hs
    cases hc;rw[Bool.and_eq_true]at hs;rw[okT,hs.2,zkg s stems frm f c];rfl
   ·cases hc
theorem ratN{n:Nat}(h:n≠0):(n:Rat)≠0:=by
 intro e;apply h;have:((n:Int):Rat)=((0:Int):Rat):=by simpa using e
 have:=Rat.intCast_inj.1 this;omega
theorem zc8{a b:Rat}(h:0<=a)(hb:0<=b):0<=a/b:=by
 rw[Rat.div_def];by_cases h0:b=0
 ·subst h0;rw[Rat.inv_zero];grind
 ·have:0<b⁻¹:=Rat.inv_pos.2 McG;exact Rat.mul_nonneg h McG
mutual
theorem zgW{each:Rat}:∀ {l:List Tree} {out o:Parts},okL l=true->zbG each l out=some o->sumQ o=sumQ out+each*(l.length:Rat)
 | [],out,o,_,h=>by
   rw[zbG]at h;cases h;simp only[List.length_nil];have:((0:Nat):Rat)=0:=rfl;grind
 |x::l,out,o,hk,h=>by
  rw[okL,Bool.and_eq_true]at hk;rw[zbG,Option.bind_eq_some_iff]at h;obtain⟨o1,h1,h2⟩:=h;have e1:=znD hk.1 h1;have e2:=zgW hk.2 h2;rw[e2,e1,List.length_cons];have:((l.length+1:Nat):Rat)=(l.length:Rat)+1:=by simp
  grind
theorem znD{each:Rat}:∀ {x:Tree} {out o:Parts},okT x=true->zek each x out=some o->sumQ o=sumQ out+each
 | .leaf n,out,o,_,h=>by
   rw[zek]at h;split at h
   ·cases h
   ·cases h;exact zbY n each out
 | .node l,out,o,hk,h=>by
   rw[okT,Bool.and_eq_true]at hk;rw[zek]at h;split at h
   ·cases h
   ·have e:=zgW hk.2 h;rw[e];have h0:l.length≠0:=by
     intro e0;have:=List.eq_nil_of_length_eq_zero e0;rw[this]at hk;exact absurd hk.1 Mco
    have:=ratN h0;grind
end
mutual
theorem ze5{each:Rat}(he:0<=each):∀ {l:List Tree} {out o:Parts},GoodParts out->zaF out=false->zbG each l out=some o->GoodParts o/\zaF o=false
 | [],out,o,hg,hl,h=>by
   rw[zbG]at h;cases h;exact⟨hg,hl⟩
 |x::l,out,o,hg,hl,h=>by
  rw[zbG,Option.bind_eq_some_iff]at h;obtain⟨o1,h1,h2⟩:=h;have e1:=zif he hg hl h1;exact ze5 he e1.1 e1.2 h2
theorem zif{each:Rat}(he:0<=each):∀ {x:Tree} {out o:Parts},GoodParts out->zaF out=false->zek each x out=some o->GoodParts o/\zaF o=false
 | .leaf n,out,o,hg,hl,h=>by
   rw[zek]at h;split at h
   ·cases h
   ·rename_i hb
    cases h;exact⟨zbx he hg,by simpa using hb⟩
 | .node l,out,o,hg,hl,h=>by
   rw[zek]at h;split at h
   ·cases h
   ·exact ze5 (zc8 he Rat.natCast_nonneg) hg hl h
end
def IsN(n:Nat)(q:Rat):Prop:= ∃k:Int,q*(n:Rat)=(k:Rat)
theorem zkh{n:Nat}{p q:Rat}(h:IsN n p)(k:IsN n q):IsN n (p+q):=by
 obtain⟨a,ha⟩:=h;obtain⟨b,hb⟩:=k;refine⟨a+b,?_⟩;rw[Rat.intCast_add,<-ha,<-hb];grind
theorem zgX{n:Nat}{p q:Rat}(h:IsN n p)(k:IsN n q):IsN n (p-q):=by
 obtain⟨a,ha⟩:=h;obtain⟨b,hb⟩:=k;refine⟨a-b,?_⟩;rw[Rat.intCast_sub,<-ha,<-hb];grind
theorem zki{n m:Nat}{p q:Rat}(h:IsN n p)(k:IsN m q):IsN (n*m) (p*q):=by
 obtain⟨a,ha⟩:=h;obtain⟨b,hb⟩:=k;refine⟨a*b,?_⟩;rw[Rat.intCast_mul,<-ha,<-hb,Rat.natCast_mul];grind
theorem zld{n m:Nat}{q:Rat}(h:IsN n q):IsN (n*m) q:=by
 obtain⟨a,ha⟩:=h;refine⟨a*m,?_⟩;rw[Rat.intCast_mul,<-ha,Rat.natCast_mul,Rat.intCast_natCast];grind
theorem zgY(n:Nat):IsN n 1:=⟨n,by rw[Rat.intCast_natCast];grind⟩
theorem zkj(n:Nat):IsN n 0:=⟨0,by grind⟩
theorem zkk{n:Nat}{q:Rat}(hn:0<n)(h:IsN n q):(q.den:Int)<=n:=by
 obtain⟨a,ha⟩:=h;have h0:=ratN (n:=n) Mcm;have e:q=Rat.divInt a n:=by
  rw[Rat.divInt_eq_div,Rat.intCast_natCast,<-ha];grind
 rw[e,zei Mcm];exact Int.ediv_le_self _ Mcm
theorem zep{num den:Int}(h:za9 16 num den=true):IsN 720720 (Rat.divInt num den):=by
 have hs:=zbk h;unfold za9 at h;simp only[Bool.and_eq_true,decide_eq_true_eq]at h;obtain⟨⟨⟨h1,h2⟩,_⟩,_⟩:=h;obtain⟨m,hm⟩:∃m:Int,720720=den*m:=by
  have:den=1\/den=2\/den=3\/den=4\/den=5\/den=6\/den=7\/den=8\/den=9\/den=10\/den=11\/den=12\/den=13\/den=14\/den=15\/den=16:=by omega
  rcases this with rfl|rfl|rfl|rfl|rfl|rfl|rfl|rfl|rfl|rfl|rfl|rfl|rfl|rfl|rfl|rfl
  all_goals first|exact⟨720720,rfl⟩|exact⟨360360,rfl⟩|exact⟨240240,rfl⟩|exact⟨180180,rfl⟩|exact⟨144144,rfl⟩|exact⟨120120,rfl⟩|exact⟨102960,rfl⟩|exact⟨90090,rfl⟩|exact⟨80080,rfl⟩|exact⟨72072,rfl⟩|exact⟨65520,rfl⟩|exact⟨60060,rfl⟩|exact⟨55440,rfl⟩|exact⟨51480,rfl⟩|exact⟨48048,rfl⟩|exact⟨45045,rfl⟩
 refine⟨num*m,?_⟩;have hd:(den:Rat)≠0:=ratI Mcm;have e:((720720:Nat):Rat)=(den:Rat)*(m:Rat):=by
  rw[<-Rat.intCast_mul,<-hm];rfl
 rw[Rat.divInt_eq_div,e,Rat.intCast_mul];grind
theorem zc9{n:Nat}{nm:ByteArray}{q:Rat}(hq:IsN n q):∀ {l:Parts},(∀p∈l,IsN n p.2)->∀p∈za4 l nm q,IsN n p.2
 | [],_,p,hp=>by
   unfold za4 at hp;split at hp
   ·cases hp
   ·simp at hp;rw[hp];exact hq
 |x::r,h,p,hp=>by
  have hr:=zc9 (nm:=nm) hq (l:=r) fun p hp=>h p McX
  unfold za4 at hp;split at hp
  ·exact h p hp
  ·split at hp
   ·rcases List.mem_cons.1 hp with rfl|hp
    ·exact h _ Mcp
    ·exact hr p hp
   ·split at hp
    ·rcases List.mem_cons.1 hp with rfl|hp
     ·exact zkh (h x Mcp) hq
     ·exact h p McX
    ·rcases List.mem_cons.1 hp with rfl|hp
     ·exact hq
     ·exact h p hp
theorem zc1{n:Nat}(h0:0<n)(h1:n<=1000000000){l:Parts}(h:∀p∈l,IsN n p.2):zaF l=false:=by
 unfold zaF;rw[List.any_eq_false];intro p hp;have:=zkk h0 (h p hp);unfold bigQ;simp;omega
structure WillOk (l:Parts):Prop where
 pos:∀p∈l,0<p.2
 isN:∀p∈l,IsN 720720 p.2
 le:sumQ l<=1
theorem zig{s:St}{frm:ByteArray}:∀ {l out:Parts} {rest:Rat},(∀p∈l,0<p.2)->(∀p∈l,IsN 720720 p.2)->sumQ l<=rest->GoodParts out->(∀p∈out,IsN 720720 p.2)->IsN 720720 rest->
 GoodParts (zco s frm l out rest).1/\(∀p∈(zco s frm l out rest).1,IsN 720720 p.2)/\IsN 720720 (zco s frm l out rest).2/\0<=(zco s frm l out rest).2/\sumQ (zco s frm l out rest).1+(zco s frm l out rest).2=sumQ out+rest
 | [],out,rest,_,_,hs,hg,hn,hr=>by
   rw[zco];exact⟨hg,hn,hr,by simpa[sumQ]using hs,rfl⟩
 |p::l,out,rest,hp,hN,hs,hg,hn,hr=>by
  have j8:=hp p Mcp;have hl:=fun q (hq:q∈l)=>hp q Mdl
  have we:=fun q (hq:q∈l)=>hN q Mdl
  rw[sumQ]at hs;rw[zco];split
  ·have ih:=zig (s:=s) (frm:=frm) hl we (rest:=rest-p.2) (out:=za4 out p.1 p.2) McG (zbx McG hg) (zc9 (hN p Mcp) hn) (zgX hr (hN p Mcp));refine⟨ih.1,ih.2.1,ih.2.2.1,ih.2.2.2.1,?_⟩;rw[ih.2.2.2.2,zbY];grind
  ·exact zig (s:=s) (frm:=frm) hl we McG hg hn hr
theorem zd6:GoodParts []:=⟨List.Pairwise.nil,by simp⟩
theorem ze6{s:St}{law:Law}{n:ByteArray}{o:Parts}(hw:WillOk (zbw s n))(hl:za9 16 law.num law.den=true)(h:zcE s law n=some o):GoodParts o/\sumQ o=1/\zaF o=false:=by
 unfold zcE at h;have hg:=zig (s:=s) (frm:=n) (out:=[]) (rest:=1) hw.pos hw.isN hw.le zd6 Mcp (zgY _);generalize hq:zco s n (zbw s n) [] 1=q at*;obtain⟨out,rest⟩:=q;dsimp only at h hg;obtain⟨g1,g2,g3,g4,g5⟩:=hg;rw[sumQ]at g5;split at h
 ·rename_i h0
  cases h;have:rest=0:=by simpa using h0
  exact⟨g1,by grind,zc1 Mco Mco g2⟩
 rename_i h0
 have qg:rest≠0:=Mdg;generalize cj:(if zdX s (zaK s n) n=true then zaK s n else⟨#[]⟩)=sp at*;split at h
 ·cases h;refine⟨zbx g4 g1,by rw[zbY];grind,zc1 Mco Mco (zc9 g3 g2)⟩
 rename_i ai
 have ag:(zb7 s law.stems n (zaX s) n).length≠0:=by
  intro e;rw[List.eq_nil_of_length_eq_zero e]at ai;exact ai rfl
 have bH:=zkg s law.stems n (zaX s) n;generalize zb7 s law.stems n (zaX s) n=ts at*;obtain⟨_,_,l1,l2⟩:=zbk hl;have hd:za9 16 law.num law.den=true:=hl;have hN:IsN 720720 (Rat.divInt law.num law.den):=zep hl;have key:∃own out2,own=(if noB sp=true then 0 else rest*Rat.divInt law.num law.den)/\out2=(if noB sp=true then out else za4 out sp own)/\0<=own/\own<=rest/\GoodParts out2/\sumQ out2=sumQ out+own/\zaF out2=false:=by
  by_cases hs:noB sp=true
  ·exact⟨0,out,by rw[if_pos hs],by rw[if_pos hs],by grind,g4,g1,by grind,zc1 Mco Mco g2⟩
  ·have h1:0<=rest*Rat.divInt law.num law.den:=Rat.mul_nonneg g4 l1;have h2:rest*Rat.divInt law.num law.den<=rest:=by
    have:=Rat.mul_le_mul_of_nonneg_left l2 g4;grind
   refine⟨rest*Rat.divInt law.num law.den,za4 out sp (rest*Rat.divInt law.num law.den),by rw[if_neg hs],by rw[if_neg hs],h1,h2,zbx h1 g1,zbY _ _ _,?_⟩;have kT:∃d:Nat,0<d/\d<=16/\IsN d (Rat.divInt law.num law.den):=by
    exact MO
   obtain⟨d,d0,d1,Df⟩:=kT;exact zc1 (n:=720720*d) Mcm Mcm (zc9 (zki g3 Df) fun p hp=>zld (g2 p hp))
 obtain⟨own,out2,ho,uj,k0,k1,k2,k3,k4⟩:=key;rw[<-ho,<-uj]at h;split at h
 ·rename_i hz
  cases h;have:rest-own=0:=by simpa using hz
  exact⟨k2,by grind,k4⟩
 ·split at h
  ·cases h
  ·have ia:0<=(rest-own)/(ts.length:Rat):=zc8 McG Rat.natCast_nonneg;obtain⟨m1,m2⟩:=ze5 ia k2 k4 h;refine⟨m1,?_,m2⟩;rw[zgW bH h,k3];have:=ratN ag;grind
theorem zih{own:Rat}(h0:0<=own):∀ {l out o:Parts},(∀p∈l,0<=p.2)->GoodParts out->zaF out=false->zb9 own l out=some o->GoodParts o/\zaF o=false/\sumQ o=sumQ out+own*sumQ l
 | [],out,o,_,hg,hl,h=>by
   rw[zb9]at h;cases h;exact⟨hg,hl,by rw[sumQ];grind⟩
 |p::l,out,o,hp,hg,hl,h=>by
  rw[zb9]at h;split at h
  ·cases h
  split at h
  ·cases h
  ·rename_i hb
   have hm:0<=own*p.2:=Rat.mul_nonneg h0 (hp p Mcp);obtain⟨h1,h2,h3⟩:=zih h0 (fun q hq=>hp q Mdl) (zbx hm hg) Mev h;refine⟨h1,h2,?_⟩;rw[h3,zbY,sumQ];grind
structure GoodG (g:Grave):Prop where
 good:GoodParts g.holders
 small:zaF g.holders=false
 one:g.holders=[]\/sumQ g.holders=1
theorem zbB{l:Parts}(h:GoodParts l)(n:ByteArray):0<=zag l n:=by
 unfold zag;cases hf:l.find? (fun p=>zae p.1 n)with
 |none=>exact Rat.le_refl
 |some p=>
  have:=h.pos p (List.mem_of_find?_eq_some hf);show 0<=p.2;grind
theorem zdh{l:Parts}{n:ByteArray}(h:zag l n≠0):l≠[]:=by
 rintro rfl;exact h rfl
theorem large_sub{l m:Parts}(h:∀p∈m,p∈l)(hl:zaF l=false):zaF m=false:=by
 unfold zaF at*;rw[List.any_eq_false]at*;exact fun p hp=>hl p (h p hp)
theorem zd7{l:Parts}(n:ByteArray)(h:zaF l=false):zaF (zat l n)=false:=large_sub (fun p hp=>(List.mem_filter.1 hp).1) h
theorem zfR{n:ByteArray}{q:Rat}(hq:bigQ q=false):∀ {l:Parts},(∀p∈l,p.1≠n)->zaF l=false->zaF (za4 l n q)=false
 | [],_,_=>by
   unfold za4;split
   ·rfl
   ·simp[zaF,hq]
 |x::r,hn,hl=>by
  have pW:bigQ x.2=false/\zaF r=false:=by simpa[zaF]using hl
  have ih:=zfR hq (l:=r) (fun p hp=>hn p McX) pW.2;unfold za4;split
  ·exact hl
  ·split
   ·unfold zaF at ih⊢;rw[List.any_cons,pW.1,ih];rfl
   ·split
    ·rename_i hs
     exact absurd (za2.1 hs) (hn x Mcp)
    ·unfold zaF at hl⊢;rw[List.any_cons,hq,hl];rfl
theorem zj1{l:Parts}{n:ByteArray}:∀p∈zat l n,p.1≠n:=by
 intro p hp;unfold zat at hp;have:=(List.mem_filter.1 hp).2;exact zcm.1 (by simpa using this)
theorem zkl{g:Grave}{frm:ByteArray}{l out:Parts}(hg:GoodG g)(hs:zag g.holders frm≠0)(hp:∀p∈l,0<p.2)(hl:sumQ l<=1)(hk:bigQ (zag g.holders frm*(1-sumQ l))=false)
 (h:zb9 (zag g.holders frm) l (za4 (zat g.holders frm) frm (zag g.holders frm*(1-sumQ l)))=some out):GoodG {g with holders:=out}:=by
 have h0:=zbB hg.good frm;have jB:0<=zag g.holders frm*(1-sumQ l):=Rat.mul_nonneg h0 McG;obtain⟨h1,h2,h3⟩:=zih h0 (fun p Ll=>by have:=hp p Ll;grind) (zbx jB (zbK hg.good)) (zfR hk zj1 (zd7 frm hg.small)) h;refine⟨h1,h2,.inr ?_⟩;have hw:=zcg (n:=frm) hg.good;rcases hg.one with e|e
 ·exact absurd e (zdh hs)
 ·show sumQ out=1;rw[h3,zbY];grind
theorem sum_div(d:Rat):∀l:Parts,sumQ (l.map fun p=>(p.1,p.2/d))=sumQ l/d
 | []=>by simp only[List.map_nil,sumQ];rw[Rat.div_def];grind
 |p::l=>by
  rw[List.map_cons,sumQ,sumQ,sum_div d l];rw[Rat.div_def,Rat.div_def,Rat.div_def];grind
theorem sum_zero{l:Parts}(h:∀p∈l,0<p.2)(hs:sumQ l=0):l=[]:=by
 cases l with
 |nil=>rfl
 |cons x r=>
  have hx:=h x Mcp;have:=zbs (l:=r) fun p hp=>by have:=h p McX;grind
  rw[sumQ]at hs;grind
theorem zj2{l:Parts}(h:∀p∈l,0<p.2):0<=sumQ l:=zbs fun p hp=>by have:=h p hp;grind
theorem zjf{g:Grave}{frm:ByteArray}(hg:GoodG g)(hs:zag g.holders frm≠0)(hl:zaF ((zat g.holders frm).map fun p=>(p.1,p.2/(1-zag g.holders frm)))=false):
 GoodG {g with holders:=(zat g.holders frm).map fun p=>(p.1,p.2/(1-zag g.holders frm))}:=by
 have hw:=zcg (n:=frm) hg.good;have h1:sumQ g.holders=1:=by
  rcases hg.one with e|e
  ·exact absurd e (zdh hs)
  ·exact e
 have iU:=zbK (n:=frm) hg.good;have ia:=zj2 iU.pos;by_cases hz:1-zag g.holders frm=0
 ·have he:zat g.holders frm=[]:=sum_zero iU.pos McG;have e2:((zat g.holders frm).map fun p=>(p.1,p.2/(1-zag g.holders frm)))=[]:=by rw[he];rfl
  rw[e2];exact⟨zd6,rfl,.inl rfl⟩
 ·have hd:0<1-zag g.holders frm:=McG;refine⟨⟨List.pairwise_map.2 iU.asc,fun p hp=>?_⟩,hl,.inr ?_⟩
  ·obtain⟨q,hq,rfl⟩:=List.mem_map.1 hp;have:=iU.pos q hq;show 0<q.2/(1-zag g.holders frm);rw[Rat.div_def];exact Rat.mul_pos this (Rat.inv_pos.2 hd)
  ·show sumQ _=1;rw[sum_div,show sumQ (zat g.holders frm)=1-zag g.holders frm by grind,Rat.div_def];exact Rat.mul_inv_cancel _ hz
theorem zle{g:Grave}{n:ByteArray}{bB out:Parts}(hg:GoodG g)(hs:zag g.holders n≠0)(hh:GoodParts bB)(h1:sumQ bB=1)(h:zb9 (zag g.holders n) bB (zat g.holders n)=some out):GoodG {g with holders:=out,died:=g.died++[n]}:=by
 obtain⟨k1,k2,k3⟩:=zih (zbB hg.good n) (fun p hp=>by have:=hh.pos p hp;grind) (zbK hg.good) (zd7 n hg.small) h;refine⟨k1,k2,.inr ?_⟩;have hw:=zcg (n:=n) hg.good;rcases hg.one with e|e
 ·exact absurd e (zdh hs)
 ·show sumQ out=1;rw[k3,h1];grind
theorem zgo{s:ByteArray}(h:zaS s=true):noB s=false:=by
 unfold zaS at h;simp only[Bool.and_eq_true,Bool.not_eq_true']at h;exact h.2.1
structure OkD (d:Deed):Prop where
 kind:0<=d.kind/\d.kind<=8
 day:0<=d.day/\d.day<=200000
 years:0<=d.years/\d.years<=99
 cls:0<=d.cls/\d.cls<=4
 len:d.to.length<=8
 names:∀p∈d.to,zaS p.name=true
 place:(d.kind=0\/d.kind=1\/d.kind=2\/d.kind=3)->zaS d.place=true
 frm:¬(d.kind=0\/d.kind=3)->zaS d.frm=true
 grantor:(d.kind=0\/d.kind=3)->noB d.frm=true
 parts:(d.kind=0\/d.kind=1\/d.kind=4)->d.to≠[]/\zc6 true (d.kind==0) d.frm d.to=true
 one:(d.kind=5\/d.kind=6\/d.kind=7)->d.to.length=1/\zc6 false false d.frm d.to=true
 none:(d.kind=2\/d.kind=3\/d.kind=8)->d.to=[]
theorem zf1{n lo hi:Int}:inR n lo hi=true↔lo<=n/\n<=hi:=by unfold inR;simp
theorem zdN{d:Deed}(h:za3 d=0):OkD d:=by
 unfold za3 at h;split at h
 ·simp at h
 rename_i h1
 split at h
 ·simp at h
 rename_i h2
 split at h
 ·simp at h
 rename_i h3
 split at h
 ·simp at h
 rename_i h4
 split at h
 ·simp at h
 rename_i h5
 simp only[Bool.not_eq_true',Bool.not_eq_false,zf1]at h1;simp only[Bool.or_eq_true,Bool.not_eq_true',not_or,Bool.not_eq_false,zb0,zf1]at h2;simp only[Bool.or_eq_true,Bool.not_eq_true',not_or,Bool.not_eq_false,List.all_eq_true,zb1]at h4;simp only[Bool.not_eq_true',Bool.not_eq_false]at h5;simp only[decide_eq_true_eq,Nat.not_lt]at h3;unfold zfP at h5;obtain⟨⟨hd,hc⟩,hy⟩:=h2;obtain⟨⟨hp,hf⟩,hn⟩:=h4;have fR:d.kind=0\/d.kind=1\/d.kind=2\/d.kind=3\/d.kind=4\/d.kind=5\/d.kind=6\/d.kind=7\/d.kind=8:=Mcm;refine⟨h1,hd,hy,hc,h3,hn,?_,?_,?_,?_,?_,?_⟩;all_goals rcases fR with k|k|k|k|k|k|k|k|k<;>simp_all
theorem zii{s:St}{a b x:ByteArray}:zai {s with children:=s.children++[(a,b)]} x=zai s x++(if zae a x then[b]else[]):=by
 unfold zai;rw[List.filter_append,List.map_append];congr 1
 by_cases h:zae a x=true
 ·rw[if_pos h,List.filter_cons,if_pos h];rfl
 ·rw[if_neg h,List.filter_cons,if_neg h];rfl
theorem zmz{s:St}{a b:ByteArray}(h:∀x,¬Desc s x x)(hn:¬Desc s b a)(ai:a≠b):∀x,¬Desc {s with children:=s.children++[(a,b)]} x x:=by
 have key:∀x y,Desc {s with children:=s.children++[(a,b)]} x y->Desc s x y\/((x=a\/Desc s x a)/\(y=b\/Desc s b y)):=by
  intro x y uw;unfold Desc at uw;induction uw with
  |single hc=>
   rw[zii]at hc;rcases List.mem_append.1 hc with hc|hc
   ·exact .inl (zfz hc)
   ·split at hc
    ·rename_i hs
     simp only[List.mem_singleton]at hc;exact .inr ⟨.inl (za2.1 hs).symm,.inl hc⟩
    ·cases hc
  |tail _ hc ih=>
   rw[zii]at hc;rcases List.mem_append.1 hc with hc|hc
   ·rcases ih with ih|⟨i1,i2⟩
    ·exact .inl (zib ih hc)
    ·refine .inr ⟨i1,.inr ?_⟩;rcases i2 with i2|i2
     ·rw[i2]at hc;exact zfz hc
     ·exact zib i2 hc
   ·split at hc
    ·rename_i hs
     simp only[List.mem_singleton]at hc;have e:=za2.1 hs;rcases ih with ih|⟨i1,i2⟩
     ·exact .inr ⟨.inr (by rw[e];exact ih),.inl hc⟩
     ·exfalso
      rcases i2 with i2|i2
      ·exact ai (e.trans i2)
      ·exact hn (by rw[e];exact i2)
    ·cases hc
 intro x hx;rcases key x x hx with k|⟨k1,k2⟩
 ·exact h x k
 ·rcases k1 with rfl|k1<;>rcases k2 with k2|k2
  ·exact ai k2
  ·exact hn k2
  ·rw[k2]at k1;exact hn k1
  ·exact hn (zgT k2 k1)
structure GoodSt (s:St) (last:Int):Prop where
 graves:∀g∈s.graves,GoodG g
 force:∀(i j:Nat) (gi gj:Grave),s.graves[i]?=some gi->s.graves[j]?=some gj->gi.place=gj.place->∀day,last<=day->zaT gi day=true->zaT gj day=true->i=j
 wills:∀n,WillOk (zbw s n)
 acyc:∀a,¬Desc s a a
 kids:∀c∈s.children,noB c.1=false/\noB c.2=false
 marr:∀m∈s.marriages,m.1≠m.2/\noB m.1=false/\noB m.2=false
 willNames:∀w∈s.wills,∀p∈w.2,noB p.1=false
 dead:∀n∈s.dead,noB n=false
theorem zdO(last:Int):GoodSt zb3 last:=by
 refine⟨by simp[zb3],by simp[zb3],fun n=>⟨by simp[zb3,zbw],by simp[zb3,zbw],by simp only[zb3,zbw,List.reverse_nil,List.find?_nil,Option.map_none,Option.getD_none,sumQ];decide⟩,fun a=>zic rfl,by simp[zb3],by simp[zb3],by simp[zb3],by simp[zb3]⟩
theorem zgZ{g:Grave}{d e:Int}(h:d<=e)(hf:zaT g e=true):zaT g d=true:=by
 unfold zaT at*;simp only[Bool.and_eq_true,Bool.or_eq_true,decide_eq_true_eq]at*;refine⟨hf.1,?_⟩;rcases hf.2 with k|k
 ·exact .inl k
 ·exact .inr Mcm
theorem zcf{s:St}{place:ByteArray}{day:Int}{i:Nat}(h:zaP s place day=some i):∃g,s.graves[i]?=some g/\g.place=place/\zaT g day=true:=by
 unfold zaP at h;rw[List.findIdx?_eq_some_iff_getElem]at h;obtain⟨hi,h1,_⟩:=h;rw[Bool.and_eq_true,za2]at h1;exact⟨_,List.getElem?_eq_getElem hi,h1.1,h1.2⟩
theorem zhr{s:St}{place:ByteArray}{day:Int}(h:zaP s place day=none):∀g∈s.graves,g.place=place->zaT g day=false:=by
 unfold zaP at h;rw[List.findIdx?_eq_none_iff]at h;intro g hg hp;have:=h g hg;rw[za2.2 hp,Bool.true_and]at this;exact this
theorem GoodSt.later{s:St}{a b:Int}(h:GoodSt s a)(cF:a<=b):GoodSt s b:=
 {h with force:=fun i j gi gj hi hj hp day hd h1 h2=>h.force i j gi gj hi hj hp day Mcm h1 h2}
theorem zij:∀ {l:List RPart} {out:Parts},GoodParts out->(∀p∈out,IsN 720720 p.2)->(∀p∈l,0<p.rat/\IsN 720720 p.rat)->
 GoodParts (zbd l out)/\(∀p∈zbd l out,IsN 720720 p.2)/\sumQ (zbd l out)=sumQ out+sumQ (zam l)
 | [],out,h1,h2,_=>⟨h1,h2,by simp only[zbd,List.foldl_nil,zam,List.map_nil,sumQ];grind⟩
 |p::l,out,h1,h2,h=>by
  obtain⟨p1,p2⟩:=h p Mcp;have ih:=zij (l:=l) (zbx (n:=p.name) (q:=p.rat) McG h1) (zc9 p2 h2) fun q hq=>h q Mdl
  have e:zbd (p::l) out=zbd l (za4 out p.name p.rat):=rfl;rw[e];refine⟨ih.1,ih.2.1,?_⟩;rw[ih.2.2,zbY];simp only[zam,List.map_cons,sumQ];grind
theorem zea{all:Bool}{frm:ByteArray}{l:List RPart}(h:zc6 true all frm l=true):(∀p∈l,0<p.rat/\IsN 720720 p.rat/\za9 16 p.num p.den=true)/\sumQ (zam l)<=1/\(all=true->sumQ (zam l)=1)/\∀p∈l,p.name≠frm:=by
 unfold zc6 at h;simp only[if_true,Bool.and_eq_true,List.all_eq_true,Bool.not_eq_true',decide_eq_true_eq,Bool.or_eq_true,bne_iff_ne,ne_eq,beq_iff_eq]at h;obtain⟨⟨_,hn⟩,⟨hs,bG⟩,b9⟩:=h;refine⟨fun p hp=>?_,bG,fun ha=>?_,fun p hp=>zcm.1 (hn p hp)⟩
 ·obtain⟨h1,h2⟩:=hs p hp;have h3:=zbk h1;refine⟨?_,zep h1,h1⟩;have ai:p.rat≠0:=by
   intro k;apply h2;rw[<-h3.1];unfold RPart.rat at k;rw[k];rfl
  have ia:0<=p.rat:=h3.2.2.1;grind
 ·rcases b9 with k|k
  ·rw[ha]at k;cases k
  ·exact k
theorem zj3{all:Bool}{frm:ByteArray}{l:List RPart}(h:zc6 true all frm l=true):WillOk (zam l):=by
 obtain⟨h1,h2,_,_⟩:=zea h;refine⟨fun p hp=>?_,fun p hp=>?_,h2⟩
 ·obtain⟨q,hq,rfl⟩:=List.mem_map.1 hp;exact(h1 q hq).1
 ·obtain⟨q,hq,rfl⟩:=List.mem_map.1 hp;exact(h1 q hq).2.1
theorem zm0{s s':St}{d:Deed}{last:Int}(h:GoodSt s last)(hd:OkD d)(hl:last<=d.day)(hk:d.kind=0)(ht:zcH s d=(s',0)):GoodSt s' d.day:=by
 have h:=h.later hl;unfold zcH at ht;split at ht
 ·simp at ht
 rename_i h1
 split at ht
 ·simp at ht
 split at ht
 ·simp at ht
 simp only[Prod.mk.injEq,and_true]at ht;rw[<-ht];have hx:zaP s d.place d.day=none:=McP;have hn:=zhr hx;obtain⟨nM,yf⟩:=hd.parts (.inl hk);obtain⟨p1,p2,p3,_⟩:=zea yf;obtain⟨g1,g2,g3⟩:=zij (l:=d.to) (out:=[]) zd6 Mcp fun p hp=>⟨(p1 p hp).1,(p1 p hp).2.1⟩
 have g4:sumQ (zbd d.to [])=1:=by
  rw[g3,p3 (by rw[hk];rfl),sumQ];grind
 generalize hg:(⟨d.place,d.cls,if decide (0<d.years)=true then zce d.day d.years else-1,zbd d.to [],[]⟩:Grave)=g;have ua:g.place=d.place:=by rw[<-hg]
 have xl:GoodG g:=by rw[<-hg];exact⟨g1,zc1 Mco Mco g2,.inr g4⟩
 refine {h with graves:=fun x hx=>?_,force:=fun i j gi gj hi hj hp day gD f1 f2=>?_}
 ·rcases List.mem_append.1 hx with hx|hx
  ·exact h.graves x hx
  ·rw[List.mem_singleton.1 hx];exact xl
 ·have hi:(s.graves++[g])[i]?=some gi:=hi;have hj:(s.graves++[g])[j]?=some gj:=hj;rw[List.getElem?_append]at hi hj;split at hi<;>split at hj
  ·exact h.force i j gi gj hi hj hp day gD f1 f2
  ·exfalso
   have e:gj=g:=by
    rw[List.getElem?_cons]at hj;split at hj
    ·exact(Option.some.inj hj).symm
    ·simp at hj
   have:=hn gi (List.mem_of_getElem? hi) (by rw[hp,e,ua]);rw[zgZ gD f1]at this;cases this
  ·exfalso
   have e:gi=g:=by
    rw[List.getElem?_cons]at hi;split at hi
    ·exact(Option.some.inj hi).symm
    ·simp at hi
   have:=hn gj (List.mem_of_getElem? hj) (by rw[<-hp,e,ua]);rw[zgZ gD f2]at this;cases this
  ·have:=(List.getElem?_eq_some_iff.1 hi).1;have:=(List.getElem?_eq_some_iff.1 hj).1;simp at*;omega
theorem zj4{s:St}{i:Nat}{g g':Grave}{day:Int}(h:GoodSt s day)(hi:s.graves[i]?=some g)(hg:GoodG g')(hp:g'.place=g.place)(hf:∀e,day<=e->zaT g' e=true->zaT g e=true):GoodSt (s.withGrave i g') day:=by
 have eU:=(List.getElem?_eq_some_iff.1 hi).1;refine {h with graves:=fun x hx=>?_,force:=fun a b ga gb ha hb qe e he f1 f2=>?_}
 ·rcases List.mem_or_eq_of_mem_set hx with hx|hx
  ·exact h.graves x hx
  ·rw[hx];exact hg
 ·have ha:(s.graves.set i g')[a]?=some ga:=ha;have hb:(s.graves.set i g')[b]?=some gb:=hb;rw[List.getElem?_set]at ha hb;have one:∀(c:Nat) (gc:Grave),(if i=c then if i<s.graves.length then some g' else none else s.graves[c]?)=some gc->∃gc',s.graves[c]?=some gc'/\gc'.place=gc.place/\(zaT gc e=true->zaT gc' e=true):=by
   intro c gc hc;by_cases hic:i=c
   ·rw[if_pos hic,if_pos eU]at hc;cases hc;subst hic;exact⟨g,hi,hp.symm,hf e he⟩
   ·rw[if_neg hic]at hc;exact⟨gc,hc,rfl,id⟩
  obtain⟨ga',a1,a2,a3⟩:=one a ga ha;obtain⟨gb',b1,b2,b3⟩:=one b gb hb;exact h.force a b ga' gb' a1 b1 (by rw[a2,b2,qe]) e he (a3 f1) (b3 f2)
theorem zf2{s:St}{i:Nat}{g:Grave}(h:s.graves[i]?=some g):s.graves.getD i zgl=g:=by
 rw[List.getD_eq_getElem?_getD,h];rfl
theorem ze7{g:Grave}{out:Parts}{died:List ByteArray}{e:Int}(ai:g.holders≠[])(h:zaT {g with holders:=out,died:=died} e=true):zaT g e=true:=by
 unfold zaT at*;simp only[Bool.and_eq_true]at*;refine⟨?_,h.2⟩;cases hg:g.holders with
 |nil=>exact absurd hg ai
 |cons _ _=>rfl
theorem zjg{s s':St}{d:Deed}{last:Int}(h:GoodSt s last)(hd:OkD d)(hl:last<=d.day)(hk:d.kind=1)(ht:zbr s d=(s',0)):GoodSt s' d.day:=by
 have h:=h.later hl;unfold zbr at ht;split at ht
 ·simp at ht
 rename_i i hi
 obtain⟨g,g1,g2,g3⟩:=zcf hi;rw[zf2 g1]at ht;dsimp only at ht;split at ht
 ·simp at ht
 split at ht
 ·simp at ht
 rename_i hs
 have hs:zag g.holders d.frm≠0:=by simpa using hs
 split at ht
 ·simp at ht
 split at ht
 ·simp at ht
 rename_i hb
 split at ht
 ·simp at ht
 rename_i out ho
 simp only[Prod.mk.injEq,and_true]at ht;rw[<-ht];obtain⟨nM,yf⟩:=hd.parts (.inr (.inl hk));have hw:=zj3 yf;have bf:=h.graves g (List.mem_of_getElem? g1);exact zj4 h g1 (zkl bf hs hw.pos hw.le Mev ho) rfl fun e _ hf=>ze7 (died:=g.died) (zdh hs) hf
theorem zik{s s':St}{d:Deed}{last:Int}(h:GoodSt s last)(hl:last<=d.day)(ht:zba s d=(s',0)):GoodSt s' d.day:=by
 have h:=h.later hl;unfold zba at ht;split at ht
 ·simp at ht
 rename_i i hi
 obtain⟨g,g1,g2,g3⟩:=zcf hi;rw[zf2 g1]at ht;dsimp only at ht;split at ht
 ·simp at ht
 rename_i hs
 have hs:zag g.holders d.frm≠0:=by simpa using hs
 split at ht
 ·simp at ht
 rename_i hb
 simp only[Prod.mk.injEq,and_true]at ht;rw[<-ht];have bf:=h.graves g (List.mem_of_getElem? g1);exact zj4 h g1 (zjf bf hs Mev) rfl fun e _ hf=>ze7 (died:=g.died) (zdh hs) hf
theorem zm1{s s':St}{d:Deed}{last:Int}(h:GoodSt s last)(hl:last<=d.day)(ht:zcV s d=(s',0)):GoodSt s' d.day:=by
 have h:=h.later hl;unfold zcV at ht;split at ht
 ·simp at ht
 rename_i i hi
 obtain⟨g,g1,g2,g3⟩:=zcf hi;rw[zf2 g1]at ht;dsimp only at ht;split at ht
 ·simp at ht
 split at ht
 ·simp at ht
 simp only[Prod.mk.injEq,and_true]at ht;rw[<-ht];generalize zce g.fin d.years=fin at*;have bf:=h.graves g (List.mem_of_getElem? g1);have eU:=(List.getElem?_eq_some_iff.1 g1).1;refine {h with graves:=fun x hx=>?_,force:=fun a b ga gb ha hb qe e he f1 f2=>?_}
 ·rcases List.mem_or_eq_of_mem_set hx with hx|hx
  ·exact h.graves x hx
  ·rw[hx];exact⟨bf.good,bf.small,bf.one⟩
 ·have ha:(s.graves.set i {g with fin:=fin})[a]?=some ga:=ha;have hb:(s.graves.set i {g with fin:=fin})[b]?=some gb:=hb;rw[List.getElem?_set]at ha hb;have one:∀(c:Nat) (gc:Grave),(if i=c then if i<s.graves.length then some ({g with fin:=fin}:Grave)else none else s.graves[c]?)=some gc->∃gc',s.graves[c]?=some gc'/\gc'.place=gc.place/\(zaT gc e=true->zaT gc' d.day=true):=by
   intro c gc hc;by_cases hic:i=c
   ·rw[if_pos hic,if_pos eU]at hc;cases hc;subst hic;exact⟨g,g1,rfl,fun _=>g3⟩
   ·rw[if_neg hic]at hc;exact⟨gc,hc,rfl,fun hf=>zgZ he hf⟩
  obtain⟨ga',a1,a2,a3⟩:=one a ga ha;obtain⟨gb',b1,b2,b3⟩:=one b gb hb;exact h.force a b ga' gb' a1 b1 (by rw[a2,b2,qe]) d.day (Int.le_refl _) (a3 f1) (b3 f2)
theorem name_one{d:Deed}(h:d.to.length=1):∃p,d.to=[p]/\zbg d=p.name:=by
 match hd:d.to,h with
 | [p],_=>exact⟨p,rfl,by unfold zbg;rw[hd];rfl⟩
theorem one_ne{d:Deed}(hd:OkD d)(h:d.kind=5\/d.kind=6\/d.kind=7):noB (zbg d)=false/\zbg d≠d.frm/\noB d.frm=false:=by
 obtain⟨h1,h2⟩:=hd.one h;obtain⟨p,hp,hn⟩:=name_one h1;have oS:=hd.names p (by rw[hp];simp);rw[hn];refine⟨zgo oS,?_,zgo (hd.frm Mcm)⟩;unfold zc6 at h2;simp only[Bool.and_eq_true,List.all_eq_true,Bool.not_eq_true']at h2;exact zcm.1 (h2.1.2 p (by rw[hp];simp))
theorem zfS(s:St)(f:ByteArray)(l:Parts)(n:ByteArray):zbw {s with wills:=s.wills++[(f,l)]} n=if zae f n then l else zbw s n:=by
 unfold zbw;rw[List.reverse_append,List.reverse_singleton,List.singleton_append,List.find?_cons];split
 ·rename_i h
  rw[if_pos h];rfl
 ·rename_i h
  rw[if_neg Mc8]
theorem zox{s s':St}{d:Deed}{last:Int}(h:GoodSt s last)(hd:OkD d)(hl:last<=d.day)(hk:d.kind=4)(ht:zgS s d=(s',0)):GoodSt s' d.day:=by
 have h:=h.later hl;unfold zgS at ht;split at ht
 ·simp at ht
 simp only[Prod.mk.injEq,and_true]at ht;rw[<-ht];obtain⟨nM,yf⟩:=hd.parts (.inr (.inr hk));refine {h with wills:=fun n=>?_,willNames:=fun w hw p hp=>?_}
 ·rw[zfS];split
  ·exact zj3 yf
  ·exact h.wills n
 ·rcases List.mem_append.1 hw with hw|hw
  ·exact h.willNames w hw p hp
  ·rw[List.mem_singleton.1 hw]at hp;obtain⟨q,hq,rfl⟩:=List.mem_map.1 hp;exact zgo (hd.names q hq)
theorem zjh{s s':St}{d:Deed}{last:Int}(h:GoodSt s last)(hl:last<=d.day)(ht:zbA s d=(s',0)):GoodSt s' d.day:=by
 have h:=h.later hl;unfold zbA at ht;split at ht
 ·simp at ht
 split at ht
 ·simp at ht
 simp only[Prod.mk.injEq,and_true]at ht;rw[<-ht];exact {h with}
theorem zm2{s s':St}{d:Deed}{last:Int}(h:GoodSt s last)(hd:OkD d)(hl:last<=d.day)(hk:d.kind=7)(ht:zdn s d=(s',0)):GoodSt s' d.day:=by
 have h:=h.later hl;unfold zdn at ht;split at ht
 ·simp at ht
 split at ht
 ·simp at ht
 simp only[Prod.mk.injEq,and_true]at ht;rw[<-ht];obtain⟨h1,h2,h3⟩:=one_ne hd (.inr (.inr hk));refine {h with marr:=fun m hm=>?_};rcases List.mem_append.1 hm with hm|hm
 ·exact h.marr m hm
 ·rw[List.mem_singleton.1 hm];exact⟨h2.symm,h3,h1⟩
theorem zm3{s s':St}{d:Deed}{last:Int}(h:GoodSt s last)(hd:OkD d)(hl:last<=d.day)(hk:d.kind=6)(ht:zc7 s d=(s',0)):GoodSt s' d.day:=by
 have h:=h.later hl;unfold zc7 at ht;split at ht
 ·simp at ht
 split at ht
 ·simp at ht
 split at ht
 ·simp at ht
 rename_i hn
 have hn:¬Desc s (zbg d) d.frm:=by simpa using hn
 simp only[Prod.mk.injEq,and_true]at ht;rw[<-ht];obtain⟨h1,h2,h3⟩:=one_ne hd (.inr (.inl hk));refine {h with acyc:=zmz h.acyc hn h2.symm,kids:=fun c hc=>?_};rcases List.mem_append.1 hc with hc|hc
 ·exact h.kids c hc
 ·rw[List.mem_singleton.1 hc];exact⟨h3,h1⟩
theorem laws_go:∀ {l:List Law} {b:Option Int},zeW l b=0->∀x∈l,za9 16 x.num x.den=true
 |x::l,b,h,y,hy=>by
  unfold zeW at h;split at h
  ·rename_i hb
   simp[h]at hb
  ·rename_i hb
   rcases List.mem_cons.1 hy with rfl|hy
   ·unfold zhp at hb;split at hb
    ·simp at hb
    split at hb
    ·simp at hb
    ·rename_i hq
     simpa using hq
   ·exact laws_go h y hy
theorem zfb{laws:List Law}(h:zaA laws=0)(day:Int):za9 16 (zbb laws day).num (zbb laws day).den=true:=by
 unfold zaA at h;split at h
 ·simp at h
 unfold zbb;cases hl:(laws.filter fun x=>decide (x.frm<=day)).getLast? with
 |none=>decide
 |some x=>
  have hm:=List.mem_of_getLast? hl;exact laws_go h x (List.mem_filter.1 hm).1
theorem zm4{s:St}{n:ByteArray}{day:Int}{bB:Option Parts}:∀ {l l':List Grave} {k:Nat},zb2 s n day bB k l=some l'->l'.length=l.length/\∀(i:Nat) g',l'[i]?=some g'->∃g,l[i]?=some g/\
 (g'=g/\zdo s n day (k+i) g=false\/zdo s n day (k+i) g=true/\∃h out,bB=some h/\zb9 (zag g.holders n) h (zat g.holders n)=some out/\g'= {g with holders:=out,died:=g.died++[n]})
 | [],l',k,h=>by
   unfold zb2 at h;cases h;exact⟨rfl,fun i g' hg=>by simp at hg⟩
 |g::l,l',k,h=>by
  unfold zb2 at h;have step:∀ {r:List Grave} {g':Grave},zb2 s n day bB (k+1) l=some r->l'=g'::r->(g'=g/\zdo s n day k g=false\/zdo s n day k g=true/\∃h out,bB=some h/\zb9 (zag g.holders n) h (zat g.holders n)=some out/\g'= {g with holders:=out,died:=g.died++[n]})->
   l'.length=(g::l).length/\∀(i:Nat) g',l'[i]?=some g'->∃x,(g::l)[i]?=some x/\(g'=x/\zdo s n day (k+i) x=false\/zdo s n day (k+i) x=true/\∃h out,bB=some h/\zb9 (zag x.holders n) h (zat x.holders n)=some out/\g'= {x with holders:=out,died:=x.died++[n]}):=by
   intro r g' hr he hc;obtain⟨i1,i2⟩:=zm4 hr;subst he;refine⟨by simp[i1],fun i x hx=>?_⟩;cases i with
   |zero=>
    simp only[List.getElem?_cons_zero,Option.some.injEq]at hx;subst hx;exact⟨g,rfl,hc⟩
   |succ i=>
    obtain⟨y,y1,y2⟩:=i2 i x (by simpa using hx);exact⟨y,by simpa using y1,by rw[show k+(i+1)=k+1+i by omega];exact y2⟩
  split at h
  ·rename_i hh
   cases bB with
   |none=>simp at h
   |some hs=>
    dsimp only at h;rw[Option.bind_eq_some_iff]at h;obtain⟨out,h1,h2⟩:=h;rw[Option.map_eq_some_iff]at h2;obtain⟨r,h3,h4⟩:=h2;exact step h3 h4.symm (.inr ⟨hh,hs,out,rfl,h1,rfl⟩)
  ·rename_i hh
   rw[Option.map_eq_some_iff]at h;obtain⟨r,h3,h4⟩:=h;exact step h3 h4.symm (.inl ⟨rfl,by simpa using hh⟩)
theorem zm5{laws:List Law}{s s':St}{d:Deed}{last:Int}(h:GoodSt s last)(hd:OkD d)(hl:last<=d.day)(hk:d.kind=8)(aY:zaA laws=0)(ht:zdJ laws s d=(s',0)):GoodSt s' d.day:=by
 have h:=h.later hl;unfold zdJ at ht;split at ht
 ·simp at ht
 split at ht
 ·simp at ht
 rename_i gs aK
 simp only[Prod.mk.injEq,and_true]at ht;rw[<-ht];obtain⟨ag,gZ⟩:=zm4 aK;have one:∀(i:Nat) g',gs[i]?=some g'->∃g,s.graves[i]?=some g/\GoodG g'/\g'.place=g.place/\∀e,zaT g' e=true->zaT g e=true:=by
  intro i g' fC;obtain⟨g,g1,g2⟩:=gZ i g' fC;have bf:=h.graves g (List.mem_of_getElem? g1);rcases g2 with⟨rfl,_⟩|⟨hh,hs,out,e1,e2,rfl⟩
  ·exact⟨g',g1,bf,rfl,fun _=>id⟩
  ·unfold zdo at hh;rw[Bool.and_eq_true]at hh;have ay:zag g.holders d.frm≠0:=by simpa using hh.1
   obtain⟨k1,k2,k3⟩:=ze6 (h.wills d.frm) (zfb aY d.day) e1;exact⟨g,g1,zle bf ay k1 k2 e2,rfl,fun e=>ze7 (zdh ay)⟩
 refine {h with graves:=fun x hx=>?_,force:=fun a b ga gb ha hb qe e he f1 f2=>?_,dead:=fun n hn=>?_}
 ·obtain⟨i,hi⟩:=List.mem_iff_getElem?.1 hx;exact(one i x hi).elim fun _ hg=>hg.2.1
 ·obtain⟨ga',a1,_,a2,a3⟩:=one a ga ha;obtain⟨gb',b1,_,b2,b3⟩:=one b gb hb;exact h.force a b ga' gb' a1 b1 (by rw[<-a2,<-b2,qe]) e he (a3 e f1) (b3 e f2)
 ·rcases List.mem_append.1 hn with hn|hn
  ·exact h.dead n hn
  ·rw[List.mem_singleton.1 hn];exact zgo (hd.frm Mcm)
theorem zf3{laws:List Law}{s s':St}{d:Deed}{last:Int}(h:GoodSt s last)(hd:OkD d)(hl:last<=d.day)(aY:zaA laws=0)(ht:zbp laws s d=(s',0)):GoodSt s' d.day:=by
 have hk:=hd.kind;unfold zbp at ht;split at ht
 ·rename_i k;exact zm0 h hd hl Mey ht
 split at ht
 ·rename_i k;exact zjg h hd hl Mey ht
 split at ht
 ·exact zik h hl ht
 split at ht
 ·exact zm1 h hl ht
 split at ht
 ·rename_i k;exact zox h hd hl Mey ht
 split at ht
 ·exact zjh h hl ht
 split at ht
 ·rename_i k;exact zm3 h hd hl Mey ht
 split at ht
 ·rename_i k;exact zm2 h hd hl Mey ht
 ·rename_i k0 k1 k2 k3 k4 k5 k6 k7
  simp only[beq_iff_eq]at k0 k1 k2 k3 k4 k5 k6 k7;exact zm5 h hd hl Mcm aY ht
theorem zbt(x:ByteArray×Rat)(l:Parts)(n:ByteArray):zag (x::l) n=if zae x.1 n then x.2 else zag l n:=by
 unfold zag;rw[List.find?_cons];split
 ·rename_i h;rw[if_pos h];rfl
 ·rename_i h;rw[if_neg Mc8]
theorem zil{n:ByteArray}{q:Rat}:∀ {l:Parts},GoodParts l->∀m,zag (za4 l n q) m=if zae m n then zag l n+q else zag l m
 | [],_,m=>by
   unfold za4;split
   ·exact Mbd
   ·rw[zbt];by_cases hs:m=n
    ·rw[if_pos (za2.2 hs.symm),if_pos (za2.2 hs)];show q=zag [] n+q;have:zag [] n=0:=rfl;grind
    ·rw[if_neg (by rw[za2];exact fun e=>hs e.symm),if_neg (by rw[za2];exact hs)]
 |x::r,⟨h1,h2⟩,m=>by
  have hr:GoodParts r:=⟨(List.pairwise_cons.1 h1).2,fun p hp=>h2 p McX⟩
  have hx:=(List.pairwise_cons.1 h1).1;unfold za4;split
  ·exact Mbd
  ·split
   ·rename_i hl
    have ai:=zcC hl;have ih:=zil (n:=n) (q:=q) hr m;rw[zbt,ih,zbt,zbt];by_cases hs:m=n
    ·subst hs;rw[if_neg (by rw[za2];exact ai),if_pos (zbX m),if_pos (zbX m),if_neg (by rw[za2];exact ai)]
    ·rw[if_neg (c:=zae m n=true) (by rw[za2];exact hs),if_neg (c:=zae m n=true) (by rw[za2];exact hs)]
   ·split
    ·rename_i hs
     have e:=za2.1 hs;rw[zbt,zbt,zbt];by_cases hm:m=n
     ·subst hm;rw[if_pos (zbX m),if_pos (zbX m),if_pos hs]
     ·rw[if_neg (by rw[za2];exact fun k=>hm k.symm),if_neg MdD,if_neg (by rw[za2,e];exact fun k=>hm k.symm)]
    ·rename_i hl hs
     have gK:∀p∈x::r,p.1≠n:=by
      intro p hp e;rcases List.mem_cons.1 hp with rfl|hp
      ·exact hs (za2.2 e)
      ·rcases zdq x.1 n with k|k|k
       ·exact hl k
       ·exact hs (za2.2 k)
       ·have:=zb6 k (hx p hp);rw[e,zeZ]at this;cases this
     have h0:=(zdE gK).1;rw[zbt];by_cases hm:m=n
     ·subst hm;rw[if_pos (zbX m),if_pos (zbX m),h0];grind
     ·rw[if_neg (by rw[za2];exact fun k=>hm k.symm),if_neg MdD]
theorem zd8{n m:ByteArray}:∀ {l:Parts},zag (zat l n) m=if zae m n then 0 else zag l m
 | []=>by
   have e:zag (zat [] n) m=0:=rfl;have e2:zag [] m=0:=rfl;rw[e,e2];split<;>rfl
 |x::r=>by
  have ih:=zd8 (n:=n) (m:=m) (l:=r);by_cases hx:x.1=n
  ·have e:zat (x::r) n=zat r n:=by
    unfold zat;rw[List.filter_cons,za2.2 hx];rfl
   rw[e,ih,zbt];by_cases hm:m=n
   ·rw[if_pos (za2.2 hm),if_pos (za2.2 hm)]
   ·rw[if_neg MdD,if_neg MdD,if_neg (by rw[za2,hx];exact fun k=>hm k.symm)]
  ·have e:zat (x::r) n=x::zat r n:=by
    unfold zat;rw[List.filter_cons,zcm.2 hx];rfl
   rw[e,zbt,ih,zbt];by_cases hm:m=n
   ·rw[if_pos (c:=zae m n=true) (za2.2 hm),if_pos (c:=zae m n=true) (za2.2 hm),if_neg (by rw[za2,hm];exact hx)]
   ·rw[if_neg (c:=zae m n=true) MdD,if_neg (c:=zae m n=true) MdD]
theorem share_mem{l:Parts}(h:GoodParts l){p:ByteArray×Rat}(hp:p∈l):zag l p.1=p.2:=by
 induction l with
 |nil=>cases hp
 |cons x r ih=>
  obtain⟨h1,h2⟩:=h;have hr:GoodParts r:=⟨(List.pairwise_cons.1 h1).2,fun p hp=>h2 p McX⟩
  have hx:=(List.pairwise_cons.1 h1).1;rw[zbt];rcases List.mem_cons.1 hp with rfl|hp
  ·rw[if_pos (zbX _)]
  ·rw[if_neg (by rw[za2];exact zcC (hx p hp)),ih hr hp]
theorem zhs:∀(a b:List UInt8),decide (Lib.compareBytes a b<0)=Op.bytesLess a b
 | [],[]=>by simp[Lib.compareBytes,Op.bytesLess]
 | [],_::_=>by simp[Lib.compareBytes,Op.bytesLess]
 |_::_,[]=>by simp[Lib.compareBytes,Op.bytesLess]
 |a::xs,b::ys=>by
  have ih:=zhs xs ys;unfold Lib.compareBytes Op.bytesLess;by_cases he:a=b
  ·subst he;simp[UInt8.lt_irrefl,ih]
  ·by_cases h1:a<b
   ·simp[h1]
   ·have h2:b<a:=(UInt8.lt_or_lt_of_ne he).resolve_left h1;simp[h1,h2,he]
theorem zgp:∀(a b:List UInt8),(Lib.compareBytes a b==0)=(a==b)
 | [],[]=>by simp[Lib.compareBytes]
 | [],_::_=>by simp[Lib.compareBytes]
 |_::_,[]=>by simp[Lib.compareBytes]
 |a::xs,b::ys=>by
  have ih:=zgp xs ys;unfold Lib.compareBytes;by_cases he:a=b
  ·subst he;simpa[UInt8.lt_irrefl]using ih
  ·by_cases h1:a<b
   ·simp[h1,he]
   ·have h2:b<a:=(UInt8.lt_or_lt_of_ne he).resolve_left h1;simp[h1,h2,he]
def cmpN(a b:ByteArray):Int:=Lib.compareBytes a.data.toList b.data.toList
theorem znE(a b:ByteArray):decide (cmpN a b<0)=zbq a b:=by
 unfold cmpN zbq;rw[zhs,ByteArray.toList_eq,ByteArray.toList_eq]
theorem cmpN_zero(a b:ByteArray):(cmpN a b==0)=zae a b:=by
 unfold cmpN zae;rw[zgp,ByteArray.toList_eq,ByteArray.toList_eq]
def AscP(l:Parts):Prop:=l.Pairwise fun a b=>zbq a.1 b.1=true
theorem less_up{a b n:ByteArray}(cF:zbq a b=true)(h:zbq a n=false):zbq b n=false:=by
 cases hb:zbq b n
 ·rfl
 ·rw[zb6 cF hb]at h;cases h
def zdP:Parts->ByteArray->Bool
 | [],_=>false
 |p::_,n=>zae p.1 n
def setP:Parts->ByteArray->Rat->Parts
 | [],n,q=>if q==0 then[]else[(n,q)]
 |p::r,n,q=>if zbq p.1 n then p::setP r n q else if zae p.1 n then(if q==0 then r else(n,q)::r)else if q==0 then p::r else(n,q)::p::r
theorem zeq{n:ByteArray}{q:Rat}:∀ {A B:Parts},(∀p∈A,zbq p.1 n=true)->setP (A++B) n q=A++setP B n q
 | [],B,_=>rfl
 |a::A,B,h=>by
  rw[List.cons_append,setP,if_pos (h a Mcp),zeq fun p hp=>h p McX];rfl
theorem zgq{a b:ByteArray}(h:zbq a b=true):zae a b=false:=zcm.2 (zcC h)
theorem zfT{n:ByteArray}:∀ {A B:Parts},(∀p∈A,zbq p.1 n=true)->zag (A++B) n=zag B n
 | [],B,_=>rfl
 |a::A,B,h=>by
  rw[List.cons_append,zbt,zgq (h a Mcp),if_neg Mcp,zfT fun p hp=>h p McX]
theorem zhA{A B:Parts}(h:AscP (A++B)):AscP B:=(List.pairwise_append.1 h).2.1
theorem znF{n:ByteArray}:∀ {B:Parts},(∀p∈B,zbq p.1 n=false)->AscP B->zdP B n=false->zag B n=0
 | [],_,_,_=>rfl
 |b::B,h,ha,hh=>by
  have kQ:=List.pairwise_cons.1 ha;have hb:b.1≠n:=zcm.1 hh;have fS:zbq n b.1=true:=by
   rcases zdq b.1 n with h1|h1|h1
   ·rw[h b Mcp]at h1;cases h1
   ·exact absurd h1 hb
   ·exact h1
  exact(zdE fun p hp=>by
   rcases List.mem_cons.1 hp with rfl|hp
   ·exact hb
   ·exact(zcC (zb6 fS (kQ.1 p hp))).symm).1
theorem zfU{n:ByteArray}{q:Rat}:∀ {A B:Parts},(∀p∈A,zbq p.1 n=true)->za4 (A++B) n q=A++za4 B n q
 | [],B,_=>rfl
 |a::A,B,h=>by
  rw[List.cons_append,za4];by_cases hq:q==0
  ·rw[if_pos hq];have:za4 B n q=B:=by
    cases B with
    |nil=>simp[za4,hq]
    |cons b B=>simp[za4,hq]
   rw[this];rfl
  ·rw[if_neg hq,if_pos (h a Mcp),zfU fun p hp=>h p McX];rfl
theorem zhB(l:Parts)(h:AscP l)(n:ByteArray):∃A B,l=A++B/\(∀p∈A,zbq p.1 n=true)/\(∀p∈B,zbq p.1 n=false):=by
 induction l with
 |nil=>exact⟨[],[],rfl,by simp,by simp⟩
 |cons p l ih=>
  have hp:=List.pairwise_cons.1 h;cases hl:zbq p.1 n
  ·refine⟨[],p::l,rfl,by simp,fun x hx=>?_⟩;rcases List.mem_cons.1 hx with rfl|hx
   ·exact hl
   ·exact less_up (hp.1 x hx) hl
  ·obtain⟨A,B,rfl,h1,h2⟩:=ih hp.2;refine⟨p::A,B,rfl,fun x hx=>?_,h2⟩;rcases List.mem_cons.1 hx with rfl|hx
   ·exact hl
   ·exact h1 x hx
theorem zim{l:Parts}(h:GoodParts l){n:ByteArray}{q:Rat}(hq:0<=q):setP l n (zag l n+q)=za4 l n q:=by
 obtain⟨A,B,rfl,h1,h2⟩:=zhB l h.1 n;rw[zeq h1,zfT h1,zfU h1];congr 1
 have hB:=zhA h.1;cases B with
 |nil=>
  show(if(0:Rat)+q==0 then[]else[(n,0+q)])=if q==0 then[]else[(n,q)];rw[Rat.zero_add]
 |cons b B=>
  have hb:=h2 b Mcp;have Kn:0<b.2:=h.2 b Mcp;cases hs:zae b.1 n
  ·have h0:zag (b::B) n=0:=znF h2 hB hs;rw[h0,Rat.zero_add,setP,za4,hb,hs];simp
  ·rw[zbt,hs,if_pos rfl,setP,za4,hb,hs];have ai:(b.2+q==0)=false:=by
    rw[beq_eq_false_iff_ne];intro e;grind
   rw[ai];by_cases hz:q==0
   ·have:q=0:=by simpa using hz
    subst this;have hJ:b.1=n:=za2.1 hs;simp[Rat.add_zero,<-hJ]
   ·simp[hz]
theorem zhC{l:Parts}(h:AscP l)(n:ByteArray):setP l n 0=zat l n:=by
 obtain⟨A,B,rfl,h1,h2⟩:=zhB l h n;rw[zeq h1];unfold zat;rw[List.filter_append,List.filter_eq_self.2 fun p hp=>by rw[zgq (h1 p hp)];rfl];congr 1
 have hB:=zhA h;cases B with
 |nil=>rfl
 |cons b B=>
  have hb:=h2 b Mcp;have cC:=List.pairwise_cons.1 hB;rw[setP,hb];cases hs:zae b.1 n
  ·have fS:zbq n b.1=true:=by
    rcases zdq b.1 n with h3|h3|h3
    ·rw[hb]at h3;cases h3
    ·exact absurd h3 (zcm.1 hs)
    ·exact h3
   have e:(b::B).filter (fun p=>!zae p.1 n)=b::B:=List.filter_eq_self.2 fun p hp=>by
    rcases List.mem_cons.1 hp with rfl|hp
    ·rw[hs];rfl
    ·rw[zcm.2 (zcC (zb6 fS (cC.1 p hp))).symm];rfl
   rw[e];simp
  ·have hJ:b.1=n:=za2.1 hs;have e:(b::B).filter (fun p=>!zae p.1 n)=B:=by
    rw[List.filter_cons,hs,if_neg Mcp];exact List.filter_eq_self.2 fun p hp=>by rw[zcm.2 (hJ▸(zcC (cC.1 p hp)).symm)];rfl
   rw[e];simp
theorem zin{l:Parts}(h:AscP l)(n:ByteArray)(q:Rat):setP l n q=if q==0 then zat l n else za4 (zat l n) n q:=by
 by_cases hq:q==0
 ·rw[if_pos hq];have:q=0:=by simpa using hq
  rw[this];exact zhC h n
 ·rw[if_neg hq];obtain⟨A,B,rfl,h1,h2⟩:=zhB l h n;rw[zeq h1];have hA:zat (A++B) n=A++zat B n:=by
   unfold zat;rw[List.filter_append,List.filter_eq_self.2 fun p hp=>by rw[zgq (h1 p hp)];rfl]
  rw[hA,zfU h1];congr 1
  have hB:=zhA h;rw[<-zhC hB n];cases B with
  |nil=>simp[setP,za4,hq]
  |cons b B=>
   have hb:=h2 b Mcp;have cC:=List.pairwise_cons.1 hB;have gT:(q==0)=false:=by simpa using hq
   have e0:setP (b::B) n 0=if zae b.1 n then B else b::B:=by rw[setP,hb];simp
   have e1:setP (b::B) n q=if zae b.1 n then(n,q)::B else(n,q)::b::B:=by rw[setP,hb,gT];simp
   rw[e0,e1];cases hs:zae b.1 n
   ·simp only[Bool.false_eq_true,if_false];rw[za4,gT,hb,hs];simp
   ·have hJ:b.1=n:=za2.1 hs;simp only[if_true];cases B with
    |nil=>rw[za4,gT];simp
    |cons c B=>
     have hc:zbq n c.1=true:=hJ▸cC.1 c Mcp;rw[za4,gT,zj0 hc,zcm.2 (zcC hc).symm];simp
theorem zkm{n:ByteArray}{q:Rat}:∀ {l:Parts} {p:ByteArray×Rat},p∈setP l n q->p=(n,q)\/p∈l
 | [],p,h=>by
   unfold setP at h;split at h
   ·simp at h
   ·exact .inl Mc8
 |x::l,p,h=>by
  unfold setP at h;split at h
  ·rcases List.mem_cons.1 h with rfl|h
   ·exact .inr Mcp
   ·rcases zkm h with h|h
    ·exact .inl h
    ·exact .inr (by simp[h])
  ·split at h
   ·split at h
    ·exact .inr (by simp[h])
    ·exact Mbv
   ·split at h
    ·exact .inr h
    ·exact MbL
theorem set_asc{l:Parts}(h:AscP l)(n:ByteArray)(q:Rat):AscP (setP l n q):=by
 obtain⟨A,B,rfl,h1,h2⟩:=zhB l h n;rw[zeq h1];obtain⟨hA,hB,tL⟩:=List.pairwise_append.1 h;have eD:∀b∈B,zae b.1 n=false->zbq n b.1=true:=fun b hb hs=>by
  rcases zdq b.1 n with h3|h3|h3
  ·rw[h2 b hb]at h3;cases h3
  ·exact absurd h3 (zcm.1 hs)
  ·exact h3
 cases B with
 |nil=>
  rw[setP];split
  ·rw[List.append_nil];exact hA
  ·exact List.pairwise_append.2 ⟨hA,List.pairwise_singleton _ _,fun a ha b hb=>by
    rw[List.mem_singleton.1 hb];exact h1 a ha⟩
 |cons b B=>
  have cC:=List.pairwise_cons.1 hB;rw[setP,h2 b Mcp,if_neg Mcp];cases hs:zae b.1 n
  ·rw[if_neg Mcp];split
   ·exact h
   ·refine List.pairwise_append.2 ⟨hA,List.pairwise_cons.2 ⟨fun x hx=>?_,hB⟩,fun a ha x hx=>?_⟩
    ·rcases List.mem_cons.1 hx with rfl|hx
     ·exact eD _ Mcp hs
     ·exact zb6 (eD b Mcp hs) (cC.1 x hx)
    ·rcases List.mem_cons.1 hx with rfl|hx
     ·exact h1 a ha
     ·exact tL a ha x hx
  ·have hJ:b.1=n:=za2.1 hs;rw[if_pos rfl];split
   ·exact List.pairwise_append.2 ⟨hA,cC.2,fun a ha x hx=>tL a ha x (by simp[hx])⟩
   ·refine List.pairwise_append.2 ⟨hA,List.pairwise_cons.2 ⟨fun x hx=>?_,cC.2⟩,fun a ha x hx=>?_⟩
    ·exact hJ▸cC.1 x hx
    ·rcases List.mem_cons.1 hx with rfl|hx
     ·exact h1 a ha
     ·exact tL a ha x (by simp[hx])
theorem zdr{y:Int}(h:0<=y):zeX y=y/4-y/100+y/400:=by
 unfold zeX;rw[Int.tdiv_eq_ediv_of_nonneg h,Int.tdiv_eq_ediv_of_nonneg h,Int.tdiv_eq_ediv_of_nonneg h]
theorem znG{y:Int}(h:0<=y):zgR y=((y%4==0&&y%100 != 0)||y%400==0):=by
 unfold zgR;rw[Int.tmod_eq_emod_of_nonneg h,Int.tmod_eq_emod_of_nonneg h,Int.tmod_eq_emod_of_nonneg h]
def leapQ(y:Int):Bool:=y.tmod 4==0&&(y.tmod 100 != 0||y.tmod 400==0)
theorem leapQ_eq{y:Int}(h:0<=y):leapQ y=zgR y:=by
 rw[znG h];unfold leapQ;rw[Int.tmod_eq_emod_of_nonneg h,Int.tmod_eq_emod_of_nonneg h,Int.tmod_eq_emod_of_nonneg h,Bool.eq_iff_iff];simp only[Bool.and_eq_true,Bool.or_eq_true,beq_iff_eq,bne_iff_ne];omega
def begP(y:Int):Int:=365*(y-1800)+zeX (y-1)-436
theorem zbE(y:Int):zaE y 1=begP y:=by
 unfold zaE begP;simp[ze2]
theorem beg_up{y:Int}(h:1800<=y):begP (y+1)=begP y+365+(if zgR y then 1 else 0):=by
 unfold begP;rw[zdr Mcm,zdr Mcm,znG Mcm];have e:y+1-1=y:=Mcm;rw[e];split
 ·exact Mby
 ·exact Mby
theorem beg_low{day:Int}(h0:0<=day)(h1:day<=200000):begP (1800+day.tdiv 366)<=day:=by
 unfold begP;rw[Int.tdiv_eq_ediv_of_nonneg h0,zdr Mcm];omega
theorem znH{day:Int}(h0:0<=day)(h1:day<=200000):day<begP (1800+day.tdiv 366+10+1):=by
 unfold begP;rw[Int.tdiv_eq_ediv_of_nonneg h0,zdr Mcm];omega
theorem znI(y:Int){m:Nat}(h1:1<=m)(h2:m<=12):za6 y m=if(m:Int)==2&&zgR y then 29 else[31,28,31,30,31,30,31,31,30,31,30,31].getD (m-1) 0:=by
 unfold za6;have:m=1\/m=2\/m=3\/m=4\/m=5\/m=6\/m=7\/m=8\/m=9\/m=10\/m=11\/m=12:=by omega
 rcases this with rfl|rfl|rfl|rfl|rfl|rfl|rfl|rfl|rfl|rfl|rfl|rfl<;>rfl
theorem zd9(y:Int){m:Nat}(h1:1<=m)(h2:m<=12):28<=za6 y m/\za6 y m<=31:=by
 rw[znI y h1 h2];have:m=1\/m=2\/m=3\/m=4\/m=5\/m=6\/m=7\/m=8\/m=9\/m=10\/m=11\/m=12:=by omega
 rcases this with rfl|rfl|rfl|rfl|rfl|rfl|rfl|rfl|rfl|rfl|rfl|rfl<;>simp<;>split<;>simp
theorem zf4(y:Int){m:Nat}(h:1<=m):zaE y (m+1)=zaE y m+za6 y m:=by
 obtain⟨k,rfl⟩:∃k,m=k+1:=⟨m-1,by omega⟩
 unfold zaE;simp only[Nat.add_sub_cancel,ze2];have:((k+1:Nat):Int)=(k:Int)+1:=by omega
 rw[this];omega
theorem zj5{y:Int}(h:1800<=y):zaE (y+1) 1=zaE y 12+za6 y 12:=by
 rw[zbE,beg_up h,<-zbE,show(12:Int)=((12:Nat):Int) by rfl,<-zf4 y Mcm];unfold zaE;have e:ze2 y (12+1-1)=365+(if zgR y then 1 else 0):=by
  simp only[ze2,za6,lensP];cases zgR y<;>simp
 rw[e];simp[ze2];omega
structure DateIs (day y:Int) (m:Nat):Prop where
 y0:1800<=y
 y1:y<=2400
 m0:1<=m
 m1:m<=12
 lo:zaE y m<=day
 hi:day<zaE y m+za6 y m
theorem zlf{day:Int}{f:Nat}{y:Int}(h:zaE (y+1) 1<=day):zel day (f+1) y=zel day f (y+1):=by
 rw[zel,if_pos Mc8]
theorem zlg{day:Int}{y:Int}(h:¬zaE (y+1) 1<=day):∀f,zel day f y=y
 |0=>rfl
 |f+1=>by rw[zel,if_neg Mc8]
theorem zj6{day y:Int}{f m:Nat}(hm:m<12)(h:zaE y (m+1)<=day):zdg day y (f+1) m=zdg day y f (m+1):=by
 rw[zdg,if_pos (by simp[hm,h])]
theorem zj7{day y:Int}{m:Nat}(h:¬(m<12/\zaE y (m+1)<=day)):∀f,zdg day y f m=m
 |0=>rfl
 |f+1=>by rw[zdg,if_neg Mc8]
def zbh(q:Rat):Rat:=if bigQ q then 0 else q
theorem zgr(q:Rat):bigQ (zbh q)=false:=by
 unfold zbh;cases h:bigQ q
 ·simpa using h
 ·simp[bigQ]
theorem zct{q:Rat}(h:0<=q):0<=zbh q:=by
 unfold zbh;split
 ·exact Rat.le_refl
 ·exact h
theorem zha{q:Rat}(h:0<=q):zbh q<=q:=by
 unfold zbh;split
 ·exact h
 ·exact Rat.le_refl
theorem zfc{q:Rat}(h:bigQ q=false):zbh q=q:=by simp[zbh,h]
def zfd(own:Rat)(p:ByteArray×Rat)(x:Parts×Bool):Parts×Bool:=
 (setP x.1 p.1 (zbh (zag x.1 p.1+zbh (own*p.2))),x.2||bigQ (own*p.2)||bigQ (zag x.1 p.1+zbh (own*p.2)))
def zef(own:Rat):Parts->Parts×Bool->Parts×Bool
 | [],x=>x
 |p::l,x=>zef own l (zfd own p x)
theorem zfe(own:Rat):∀(a b:Parts) (x:Parts×Bool),zef own (a++b) x=zef own b (zef own a x)
 | [],_,_=>rfl
 |p::a,b,x=>zfe own a b _
theorem zff{own:Rat}:∀ {l:Parts} {x:Parts×Bool},x.2=true->(zef own l x).2=true
 | [],_,h=>h
 |p::l,x,h=>zff (l:=l) (by simp[zfd,h])
theorem zhD{l:Parts}(h:GoodParts l){n:ByteArray}{q:Rat}(hq:0<=q):GoodParts (setP l n q):=by
 by_cases h0:q=0
 ·subst h0;rw[zhC h.asc];exact zbK h
 ·refine⟨set_asc h.asc n q,fun p hp=>?_⟩;rcases zkm hp with rfl|hp
  ·show 0<q;grind
  ·exact h.pos p hp
theorem zm6{l:Parts}(h:GoodParts l)(n:ByteArray)(q:Rat):sumQ (setP l n q)=sumQ l-zag l n+q:=by
 have hw:=zcg (n:=n) h;rw[zin h.asc];by_cases hq:q==0
 ·rw[if_pos hq];have:q=0:=by simpa using hq
  subst this;grind
 ·rw[if_neg hq,zbY];grind
theorem zer{l:Parts}{n:ByteArray}{q:Rat}(h:zaF l=false)(hq:bigQ q=false):zaF (setP l n q)=false:=by
 unfold zaF at*;rw[List.any_eq_false]at*;intro p hp;rcases zkm hp with rfl|hp
 ·simpa using hq
 ·exact h p hp
theorem zio{n:ByteArray}{q:Rat}:∀ {l:Parts},(setP l n q).length<=l.length+1
 | []=>by unfold setP;split<;>simp
 |x::l=>by
  unfold setP;have:=zio (n:=n) (q:=q) (l:=l);split
  ·simpa using this
  ·split
   ·split<;>simp<;>omega
   ·split<;>simp
theorem zcF{l:Parts}(n:ByteArray)(h:zaF l=false):bigQ (zag l n)=false:=by
 unfold zag;cases hf:l.find? (fun p=>zae p.1 n)with
 |none=>simp[bigQ]
 |some p=>
  unfold zaF at h;rw[List.any_eq_false]at h;simpa using h p (List.mem_of_find?_eq_some hf)
theorem zds{l:Parts}(h:GoodParts l)(n:ByteArray):zag l n<=sumQ l:=by
 have h1:=zcg (n:=n) h;have h2:=zbs (l:=zat l n) fun p hp=>by have:=(zbK h (n:=n)).pos p hp;grind
 grind
theorem zcb{q:Rat}(h0:0<=q)(h1:q<=1)(hb:bigQ q=false):zaJ q:=by
 unfold bigQ at hb;have hd:=q.den_pos;have bF:(q.den:Int)<=1000000000:=Mev;rw[Rat.le_iff]at h0 h1;have h2:0<=q.num:=Mdg;have h3:q.num<=(q.den:Int):=McP;exact⟨by omega,by omega⟩
structure Bd (out:Parts) (t:Rat):Prop where
 good:GoodParts out
 small:zaF out=false
 le:sumQ out<=t
theorem Bd.share{out:Parts}{t:Rat}(h:Bd out t)(ht:t<=1)(n:ByteArray):zaJ (zag out n):=
 zcb (zbB h.good n) (by have:=zds h.good n;have:=h.le;grind) (zcF n h.small)
theorem Bd.set{out:Parts}{t g:Rat}(h:Bd out t)(n:ByteArray)(hg:0<=g):Bd (setP out n (zbh (zag out n+g))) (t+g):=by
 have hs:=zbB h.good n;have h1:0<=zag out n+g:=McG;refine⟨zhD h.good (zct h1),zer h.small (zgr _),?_⟩;rw[zm6 h.good];have:=zha h1;have:=h.le;grind
theorem Bd.gain{own:Rat}{out:Parts}{t:Rat}{p:ByteArray×Rat}{f:Bool}(h:Bd out t)(ho:0<=own)(hp:0<=p.2):Bd (zfd own p (out,f)).1 (t+own*p.2):=by
 have hm:0<=own*p.2:=Rat.mul_nonneg ho hp;have h1:=h.set p.1 (zct hm);have h2:=zha hm;exact⟨h1.good,h1.small,by have:=h1.le;grind [zfd]⟩
theorem znJ{out:Parts}(h:GoodParts out){n:ByteArray}{g:Rat}(hg:0<=g)(hb:bigQ (zag out n+g)=false):setP out n (zbh (zag out n+g))=za4 out n g:=by
 rw[zfc hb,zim h hg]
theorem zlh{n:ByteArray}{q:Rat}:∀ {l:Parts},GoodParts l->0<q->(n,zag l n+q)∈za4 l n q
 | [],_,hq=>by
   have:(q==0)=false:=by rw[beq_eq_false_iff_ne];grind
   simp[za4,this,zag,Rat.zero_add]
 |x::l,h,hq=>by
  have gR:(q==0)=false:=by rw[beq_eq_false_iff_ne];grind
  have ht:GoodParts l:=⟨(List.pairwise_cons.1 h.asc).2,fun p hp=>h.pos p McX⟩
  rw[za4,gR];cases hl:zbq x.1 n
  ·cases hs:zae x.1 n
   ·have aa:zbq n x.1=true:=by
     rcases zdq x.1 n with h1|h1|h1
     ·rw[hl]at h1;cases h1
     ·exact absurd h1 (zcm.1 hs)
     ·exact h1
    have h0:zag (x::l) n=0:=(zdE fun p hp=>by
     rcases List.mem_cons.1 hp with rfl|hp
     ·exact(zcC aa).symm
     ·exact(zcC (zb6 aa ((List.pairwise_cons.1 h.asc).1 p hp))).symm).1
    simp[h0,Rat.zero_add]
   ·rw[zbt,hs];simp
  ·rw[zbt,zgq hl];simp only[Bool.false_eq_true,if_false,if_true];exact List.mem_cons_of_mem _ (zlh ht hq)
theorem zfg{out:Parts}(h:GoodParts out)(hs:zaF out=false){n:ByteArray}{g:Rat}(hg:0<=g):zaF (za4 out n g)=bigQ (zag out n+g):=by
 by_cases h0:g=0
 ·subst h0;have:za4 out n 0=out:=by cases out<;>simp[za4]
  rw[this,hs,Rat.add_zero,zcF n hs]
 ·cases hb:bigQ (zag out n+g)
  ·rw[<-zim h hg];exact zer hs hb
  ·unfold zaF;rw[List.any_eq_true];exact⟨_,zlh h McG,hb⟩
theorem zip{own:Rat}(ho:0<=own):∀ {l out:Parts},(∀p∈l,0<=p.2)->GoodParts out->zaF out=false->
 (∀o,zb9 own l out=some o->zef own l (out,false)=(o,false))/\(zb9 own l out=none->(zef own l (out,false)).2=true)
 | [],out,_,_,_=>by
   refine⟨fun o h=>?_,fun h=>?_⟩
   ·rw[zb9]at h;cases h;rfl
   ·rw[zb9]at h;cases h
 |p::l,out,hp,hg,hs=>by
  have hm:0<=own*p.2:=Rat.mul_nonneg ho (hp p Mcp);rw[zb9];show(∀o,_=_->zef own l (zfd own p (out,false))=_)/\(_->(zef own l (zfd own p (out,false))).2=true);cases h1:bigQ (own*p.2)
  ·have dP:zbh (own*p.2)=own*p.2:=zfc h1;have cx:=zfg hg hs (n:=p.1) hm;rw[if_neg Mcp];cases h2:bigQ (zag out p.1+own*p.2)
   ·have e:zfd own p (out,false)=(za4 out p.1 (own*p.2),false):=by
     unfold zfd;simp only[dP,h1,h2,Bool.or_self];rw[znJ hg hm h2]
    rw[cx,h2,if_neg Mcp,e];exact zip ho (fun q hq=>hp q Mdl) (zbx hm hg) (by rw[cx,h2])
   ·rw[cx,h2,if_pos rfl];refine⟨fun o h=>by(cases h),fun _=>zff ?_⟩;simp[zfd,dP,h2]
  ·rw[if_pos rfl];refine⟨fun o h=>by(cases h),fun _=>zff ?_⟩;simp[zfd,h1]
theorem zm7{own:Rat}(ho:0<=own):∀ {l out:Parts} {f:Bool} {t:Rat},(∀p∈l,0<=p.2)->Bd out t->Bd (zef own l (out,f)).1 (t+own*sumQ l)
 | [],out,f,t,_,h=>by
   show Bd out (t+own*0);rw[Rat.mul_zero,Rat.add_zero];exact h
 |p::l,out,f,t,hp,h=>by
  have h1:=zm7 ho (l:=l) (f:=(zfd own p (out,f)).2) (fun q hq=>hp q Mdl) (h.gain (f:=f) ho (hp p Mcp));have e:t+own*p.2+own*sumQ l=t+own*sumQ (p::l):=by rw[sumQ];grind
  rw[e]at h1;exact h1
def zcu(hs:Parts)(frm:ByteArray)(tl:Parts):Parts×Bool:=
 zef (zag hs frm) tl (setP hs frm (zbh (zag hs frm*(1-sumQ tl))),bigQ (zag hs frm*(1-sumQ tl)))
theorem zkn{hs tl:Parts}{frm:ByteArray}(hg:GoodParts hs)(hl:zaF hs=false)(hp:∀p∈tl,0<=p.2)(h1:sumQ tl<=1):
 (if bigQ (zag hs frm*(1-sumQ tl))then none else zb9 (zag hs frm) tl (za4 (zat hs frm) frm (zag hs frm*(1-sumQ tl))))=if(zcu hs frm tl).2 then none else some (zcu hs frm tl).1:=by
 have ho:=zbB hg frm;have hk:0<=zag hs frm*(1-sumQ tl):=Rat.mul_nonneg ho McG;unfold zcu;cases hb:bigQ (zag hs frm*(1-sumQ tl))
 ·rw[zfc hb,if_neg Mcp];have e:setP hs frm (zag hs frm*(1-sumQ tl))=za4 (zat hs frm) frm (zag hs frm*(1-sumQ tl)):=by
   rw[zin hg.asc];split
   ·rename_i h0
    have:zag hs frm*(1-sumQ tl)=0:=by simpa using h0
    rw[this];cases zat hs frm<;>simp[za4]
   ·rfl
  have aK:=zhD hg (n:=frm) hk;have sV:=zer (n:=frm) hl hb;obtain⟨g1,g2⟩:=zip ho hp aK sV;rw[e]at g1 g2⊢;cases hx:zb9 (zag hs frm) tl (za4 (zat hs frm) frm (zag hs frm*(1-sumQ tl)))with
  |none=>rw[g2 hx,if_pos rfl]
  |some o=>rw[g1 o hx,if_neg Mcp]
 ·rw[if_pos rfl,zff rfl,if_pos rfl]
theorem rAbs_any(n:Int)(w:World)(h:n.natAbs<=4611686018427387904):Calls Tryz.prog 135 #[.int .i64 n] w (Ret0 w (.int .i64 (n.natAbs:Int))):=by
 have h0: -4611686018427387904<=n:=Mcm;have h1:n<=4611686018427387904:=Mcm;have hw:IntKind.i64.wrap (-n)= -n:=McZ;clear h;go_enter Tryz.func135,Tryz.ntmps135
 by_cases h:n<0
 ·go_wp2_with fail
  go_ret
  exact⟨by rw[show((n.natAbs:Nat):Int)= -n by omega];first|rfl|(show Ending.returned (Value.int .i64 (max n (-n)))=_;rw[show max n (-n)= -n by omega]),rfl⟩
 ·by_cases h2:n=0
  ·subst h2;exact MaF
  ·go_wp2_with fail
   go_ret
   exact⟨by rw[show((n.natAbs:Nat):Int)=n by omega];first|rfl|(show Ending.returned (Value.int .i64 (max n (-n)))=_;rw[show max n (-n)=n by omega]),rfl⟩
theorem znK(a b:Int)(w:World)(ha:a.natAbs<=4611686018427387904)(hb:b.natAbs<=4611686018427387904):Calls Tryz.prog 96 #[.int .i64 a,.int .i64 b] w (Ret w (.int .i64 (Int.gcd a b))):=by
 go_enter Tryz.func96,Tryz.ntmps96
 go_wp2_with fail
 go_loopw [0,1] (fun x y wr=>∃p q:Int,x=.int .i64 p/\y=.int .i64 q/\p.natAbs<=4611686018427387904/\q.natAbs<=4611686018427387904/\Hid (Int.gcd a b=Int.gcd p q)/\∃z,wr=w.ext z) (fun _ y _=>(intOf y).natAbs)
 case atStart=>exact⟨a,b,rfl,rfl,ha,hb,rfl,zaV (Below.refl _ _)⟩
 case round=>
  obtain⟨p,q,rfl,rfl,hp,hq,HG,z,rfl⟩:=hrel;by_cases hz:q=0
  ·subst hz;have HP:=zHi hp;clear hp hq;go_wp2_with (go_at_call 135;go_must(refine(rAbs_any _ _ HP.o).mono ?_);rintro e wq ⟨rfl,rfl⟩)
   go_ret
   exact Ret.of (zbC (by rw[HG.o];simp[Int.gcd])) Bw
  ·have gT:(q==0)=false:=by simp[hz]
   have hm:=tmod_lt p q hz;have hG:=zHi (zn7 p q);have qm:IntKind.i64.wrap (p.tmod q)=p.tmod q:=IntWalk.i64_in _ Mcm;go_wp2_with fail
   go_quiet (fail)
   go_wp2_with fail
   all_goals(first
    |(go_round
      case rel=>exact⟨q,p.tmod q,rfl,rfl,hq,by omega,by show _=_;rw[HG.o,hG.o],zaV Bw⟩
      case measure=>simp only[intOf];omega))
theorem ze8(a b:Int)(w:World)(ha:a.natAbs<=4611686018427387904)(b8:0<b)(hb:b<=4611686018427387904):Calls Tryz.prog 165 #[.int .i64 a,.int .i64 b] w (Ret w (zaC (Rat.divInt a b))):=by
 have hg:=zn8 (a:=a) b8;obtain⟨g,HG⟩:∃g:Int,g=(Int.gcd a b:Int):=⟨_,rfl⟩
 have oH:0<g:=Mcm;have sz:(g==0)=false:=Mcr;have e1:a.tdiv g=(Rat.divInt a b).num:=by rw[zfw b8,HG,zej (Int.gcd_dvd_left ..)]
 have e2:b.tdiv g=((Rat.divInt a b).den:Int):=by rw[zei b8,HG,zej (Int.gcd_dvd_right ..)]
 have n1:(a.tdiv g).natAbs<=4611686018427387904:=Nat.le_trans (Int.natAbs_tdiv_le_natAbs _ _) ha;have n2:(b.tdiv g).natAbs<=4611686018427387904:=Nat.le_trans (Int.natAbs_tdiv_le_natAbs _ _) Mcm;have w1:wrap64 (a.tdiv g)=a.tdiv g:=by unfold wrap64;omega
 have w2:wrap64 (b.tdiv g)=b.tdiv g:=by unfold wrap64;omega
 have HA:=zHi ha;have hJ:b.natAbs<=4611686018427387904:=Mcm;have Kn:¬b<0:=Mcm;obtain⟨HB,E1,E2⟩:=yH3 hJ e1 e2;clear ha hb b8 hg e1 e2 n1 n2 hJ;go_enter Tryz.func165,Tryz.ntmps165
 go_wp2_with (go_at_call 96;refine(znK _ _ _ HA.o HB.o).mono ?_;rintro e w1 ⟨rfl,z1,rfl⟩;rw[<-HG])
 go_region
 go_wp2_with fail
 refine bodyPost_ret (v:=zaC (Rat.divInt a b)) ?_ rfl ?_
 ·refine zaZ rfl _ _ w.heap.size _ _ rfl ?_ ?_
  ·rw[<-E1.o];simp[go_sem];rw[<-HG];exact w1
  ·rw[<-E2.o];simp[go_sem];rw[<-HG];exact w2
 ·exact Ret.of rfl Bw
theorem rAddI(a b c d:Int)(w:World)(ha:a.natAbs<=1000000000)(hb:b.natAbs<=1000000000)(hc:c.natAbs<=1000000000)(hd:d.natAbs<=1000000000)(b8:0<b)(iv:0<d)(_h:True):Calls Tryz.prog 137 #[.agg #[.int .i64 a,.int .i64 b],.agg #[.int .i64 c,.int .i64 d]] w (Ret w (zaC (Rat.divInt (a*d+c*b) (b*d)))):=by
 have m1:=zaN ha hd;have m2:=zaN hc hb;have m3:=zaN hb hd;have m4:0<b*d:=Int.mul_pos b8 iv;obtain⟨m1,n1⟩:=m1;obtain⟨m2,n2⟩:=m2;obtain⟨m3,n3⟩:=m3;have w1:IntKind.i64.wrap (a*d)=a*d:=IntWalk.i64_in _ Mcm;have w2:IntKind.i64.wrap (c*b)=c*b:=IntWalk.i64_in _ Mcm;have w3:IntKind.i64.wrap (b*d)=b*d:=IntWalk.i64_in _ Mcm;have m5:=zaN ha hc;obtain⟨m5,n5⟩:=m5;have m6:=zaN hb hc;obtain⟨m6,n6⟩:=m6;have w5:IntKind.i64.wrap (a*c)=a*c:=IntWalk.i64_in _ Mcm;have w6:IntKind.i64.wrap (b*c)=b*c:=IntWalk.i64_in _ Mcm;have hs:(a*d+c*b).natAbs<=4611686018427387904:=Mcm;have hl:(b*d)<=4611686018427387904:=Mcm;have h4:0<(b*d):=m4;obtain⟨HS,HL,H4⟩:=yH3 hs hl h4;clear hs hl m4 h4 ha hb hc hd;go_enter Tryz.func137,Tryz.ntmps137
 go_wp2_with (go_at_call 165;go_must(refine(ze8 _ _ _ HS.o H4.o HL.o).mono ?_);rintro e w1 ⟨rfl,z1,rfl⟩;simp only[zaC])
 refine bodyPost_ret (v:=zaC (Rat.divInt (a*d+c*b) (b*d))) ?_ rfl ?_
 ·exact Maz
 ·exact Ret.of rfl Bw
theorem znL(p q:Rat)(w:World)(cj:zaJ p)(dP:zaJ q):Calls Tryz.prog 137 #[zaC p,zaC q] w (Ret w (zaC (p+q))):=by
 rw[zjt];exact rAddI _ _ _ _ _ cj.1 (by have:=cj.2;omega) dP.1 (by have:=dP.2;omega) (zbW p) (zbW q) trivial
theorem rSubI(a b c d:Int)(w:World)(ha:a.natAbs<=1000000000)(hb:b.natAbs<=1000000000)(hc:c.natAbs<=1000000000)(hd:d.natAbs<=1000000000)(b8:0<b)(iv:0<d)(_h:True):Calls Tryz.prog 145 #[.agg #[.int .i64 a,.int .i64 b],.agg #[.int .i64 c,.int .i64 d]] w (Ret w (zaC (Rat.divInt (a*d-c*b) (b*d)))):=by
 have m1:=zaN ha hd;have m2:=zaN hc hb;have m3:=zaN hb hd;have m4:0<b*d:=Int.mul_pos b8 iv;obtain⟨m1,n1⟩:=m1;obtain⟨m2,n2⟩:=m2;obtain⟨m3,n3⟩:=m3;have w1:IntKind.i64.wrap (a*d)=a*d:=IntWalk.i64_in _ Mcm;have w2:IntKind.i64.wrap (c*b)=c*b:=IntWalk.i64_in _ Mcm;have w3:IntKind.i64.wrap (b*d)=b*d:=IntWalk.i64_in _ Mcm;have m5:=zaN ha hc;obtain⟨m5,n5⟩:=m5;have m6:=zaN hb hc;obtain⟨m6,n6⟩:=m6;have w5:IntKind.i64.wrap (a*c)=a*c:=IntWalk.i64_in _ Mcm;have w6:IntKind.i64.wrap (b*c)=b*c:=IntWalk.i64_in _ Mcm;have hs:(a*d-c*b).natAbs<=4611686018427387904:=Mcm;have hl:(b*d)<=4611686018427387904:=Mcm;have h4:0<(b*d):=m4;obtain⟨HS,HL,H4⟩:=yH3 hs hl h4;clear hs hl m4 h4 ha hb hc hd;go_enter Tryz.func145,Tryz.ntmps145
 go_wp2_with (go_at_call 165;go_must(refine(ze8 _ _ _ HS.o H4.o HL.o).mono ?_);rintro e w1 ⟨rfl,z1,rfl⟩;simp only[zaC])
 refine bodyPost_ret (v:=zaC (Rat.divInt (a*d-c*b) (b*d))) ?_ rfl ?_
 ·exact Maz
 ·exact Ret.of rfl Bw
theorem zhE(p q:Rat)(w:World)(cj:zaJ p)(dP:zaJ q):Calls Tryz.prog 145 #[zaC p,zaC q] w (Ret w (zaC (p-q))):=by
 rw[zju];exact rSubI _ _ _ _ _ cj.1 (by have:=cj.2;omega) dP.1 (by have:=dP.2;omega) (zbW p) (zbW q) trivial
theorem ziq(w:World):Calls Tryz.prog 136 #[] w (Ret w (.agg #[.int .i64 0,.int .i64 1])):=by
 go_enter Tryz.func136,Tryz.ntmps136
 go_wp2_with fail
 refine bodyPost_ret (v:=.agg #[.int .i64 0,.int .i64 1]) ?_ rfl ?_
 ·exact MbG
 ·exact Ret.of rfl Bw
