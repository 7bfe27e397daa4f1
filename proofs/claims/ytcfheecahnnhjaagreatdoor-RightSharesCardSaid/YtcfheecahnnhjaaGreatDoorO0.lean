import Derived.Shelf.Small.Strs
import Derived.Shelf.SlicesE.Clone
import Derived.Shelf.SlicesE.Index
import Derived.Shelf.SlicesQ.Contains
import Derived.Shelf.Spec.TrailingZeros
import Derived.Test.YtcfheecahnnhjaaGreatDoorE4
import Derived.Shelf.SlSortCmp.NoneTotal
import Derived.Test.YtcfheecahnnhjaaGreatDoorJ2
import Derived.StillTail
set_option linter.all false
set_option maxRecDepth 100000
set_option maxHeartbeats 4000000
namespace Go.Proofs.YtcfheecahnnhjaaGreatDoor
attribute [local go_sem] World.cell?_alloc_mark zag za4 zar zaB zaw zax zay zaz za0 za1 za2
attribute [local go_sem] zas zad
section
open Go.RowKit Go.Shelf
def zou:Go.Shelf.Ren:=⟨fun|106=>83|213=>115|265=>150|n=>n,fun|9=>9|3=>3|n=>n,fun|n=>n⟩
theorem cmpStr:Go.Proofs.Lays.n106 Tryz.prog zou:= {
 mixed:=by kernel_rfl
 f106:=Tryz.func83.trans (congrArg some (by kernel_rfl))
 f213:=Tryz.func115.trans (congrArg some (by kernel_rfl))
 f265:=Tryz.func150.trans (congrArg some (by kernel_rfl))
 t3:=Tryz.underlying3
 a3:=Tryz.isAgg3
 z3:=Tryz.sizeOf3
 v3:=Tryz.zeroValue3
 t9:=Tryz.underlying9
 a9:=Tryz.isAgg9
 z9:=Tryz.sizeOf9
 v9:=Tryz.zeroValue9}
def coStr_ren:Go.Shelf.Ren:=⟨fun|31=>41|29=>66|n=>n,fun|22=>36|23=>9|4=>4|3=>3|0=>0|n=>n,fun|n=>n⟩
theorem coStr:Go.Proofs.SlLaysE.n31 Tryz.prog coStr_ren:= {
 mixed:=by kernel_rfl
 f29:=⟨Tryz.f66.name,by decide,Tryz.func66.trans (congrArg some (by kernel_rfl))⟩
 f31:=⟨Tryz.f41.name,by decide,Tryz.func41.trans (congrArg some (by kernel_rfl))⟩
 t0:=Tryz.underlying0
 a0:=Tryz.isAgg0
 z0:=Tryz.sizeOf0
 v0:=Tryz.zeroValue0
 t3:=Tryz.underlying3
 a3:=Tryz.isAgg3
 z3:=Tryz.sizeOf3
 v3:=Tryz.zeroValue3
 t4:=Tryz.underlying4
 a4:=Tryz.isAgg4
 z4:=Tryz.sizeOf4
 v4:=Tryz.zeroValue4
 t22:=Tryz.underlying36
 a22:=Tryz.isAgg36
 z22:=Tryz.sizeOf36
 v22:=Tryz.zeroValue36
 a23:=Tryz.isAgg9
 z23:=Tryz.sizeOf9}
def zov:Go.Shelf.Ren:=⟨fun|7=>64|6=>99|n=>n,fun|22=>41|24=>131|4=>4|0=>0|3=>3|n=>n,fun|n=>n⟩
theorem coPair:Go.Proofs.SlLaysQ.n7 Tryz.prog zov:= {
 mixed:=by kernel_rfl
 f6:=⟨Tryz.f99.name,by decide,Tryz.func99.trans (congrArg some (by kernel_rfl))⟩
 f7:=⟨Tryz.f64.name,by decide,Tryz.func64.trans (congrArg some (by kernel_rfl))⟩
 t0:=Tryz.underlying0
 a0:=Tryz.isAgg0
 z0:=Tryz.sizeOf0
 v0:=Tryz.zeroValue0
 t3:=Tryz.underlying3
 a3:=Tryz.isAgg3
 z3:=Tryz.sizeOf3
 v3:=Tryz.zeroValue3
 t4:=Tryz.underlying4
 a4:=Tryz.isAgg4
 z4:=Tryz.sizeOf4
 v4:=Tryz.zeroValue4
 t22:=Tryz.underlying41
 a22:=Tryz.isAgg41
 z22:=Tryz.sizeOf41
 v22:=Tryz.zeroValue41}
def zow:Go.Shelf.Ren:=⟨fun|27=>68|28=>101|29=>102|n=>n,fun|25=>120|3=>3|27=>155|22=>157|4=>4|53=>185|0=>0|5=>5|54=>186|n=>n,fun|0=>1|1=>2|n=>n⟩
theorem tzBits:Go.Proofs.Lays7.n27 Tryz.prog zow:= {
 mixed:=by kernel_rfl
 f27:=Tryz.func68.trans (congrArg some (by kernel_rfl))
 f28:=Tryz.func101.trans (congrArg some (by kernel_rfl))
 f29:=Tryz.func102.trans (congrArg some (by kernel_rfl))
 t0:=Tryz.underlying0
 a0:=Tryz.isAgg0
 z0:=Tryz.sizeOf0
 v0:=Tryz.zeroValue0
 i0:=by kernel_rfl
 t3:=Tryz.underlying3
 a3:=Tryz.isAgg3
 z3:=Tryz.sizeOf3
 v3:=Tryz.zeroValue3
 i3:=by kernel_rfl
 t4:=Tryz.underlying4
 a4:=Tryz.isAgg4
 z4:=Tryz.sizeOf4
 v4:=Tryz.zeroValue4
 i4:=by kernel_rfl
 t5:=Tryz.underlying5
 a5:=Tryz.isAgg5
 z5:=Tryz.sizeOf5
 v5:=Tryz.zeroValue5
 i5:=by kernel_rfl
 t22:=Tryz.underlying157
 a22:=Tryz.isAgg157
 z22:=Tryz.sizeOf157
 v22:=Tryz.zeroValue157
 i22:=by kernel_rfl
 t25:=Tryz.underlying120
 a25:=Tryz.isAgg120
 z25:=Tryz.sizeOf120
 v25:=Tryz.zeroValue120
 i25:=by kernel_rfl
 t27:=Tryz.underlying155
 a27:=Tryz.isAgg155
 z27:=Tryz.sizeOf155
 v27:=Tryz.zeroValue155
 i27:=by kernel_rfl
 t53:=Tryz.underlying185
 a53:=Tryz.isAgg185
 z53:=Tryz.sizeOf185
 v53:=Tryz.zeroValue185
 i53:=by kernel_rfl
 t54:=Tryz.underlying186
 a54:=Tryz.isAgg186
 z54:=Tryz.sizeOf186
 g0:=by kernel_rfl
 g1:=by kernel_rfl}
end
section
open Go.RowKit
theorem zle:∀l:List UInt8,Op.bytesLess l l=false
 | []=>rfl
 |a::l=>by rw[Op.bytesLess,zle l];simp
theorem zih:∀ {a b c:List UInt8},Op.bytesLess a b=true->Op.bytesLess b c=true->Op.bytesLess a c=true
 |_,[],_,h,_=>by unfold Op.bytesLess at h;simp at h
 |_,_::_,[],_,h=>by unfold Op.bytesLess at h;simp at h
 | [],_::_,_::_,_,_=>rfl
 |a::x,b::y,c::z,h1,h2=>by
  have ih:= @zih x y z;simp only[Op.bytesLess,Bool.or_eq_true,decide_eq_true_eq,Bool.and_eq_true,beq_iff_eq,UInt8.lt_iff_toNat_lt]at h1 h2⊢;rcases h1 with h1|⟨rfl,h1⟩<;>rcases h2 with h2|⟨rfl,h2⟩
  ·exact .inl (by omega)
  ·exact .inl h1
  ·exact .inl h2
  ·exact .inr ⟨rfl,ih h1 h2⟩
theorem zlf:∀a b:List UInt8,Op.bytesLess a b=true\/a=b\/Op.bytesLess b a=true
 | [],[]=> .inr (.inl rfl)
 | [],_::_=> .inl rfl
 |_::_,[]=> .inr (.inr rfl)
 |a::x,b::y=>by
  have ih:=zlf x y;simp only[Op.bytesLess,Bool.or_eq_true,decide_eq_true_eq,Bool.and_eq_true,beq_iff_eq,List.cons.injEq,UInt8.lt_iff_toNat_lt];rcases Nat.lt_trichotomy a.toNat b.toNat with h|h|h
  ·exact .inl (.inl h)
  ·have h':a=b:=UInt8.toNat_inj.1 h;subst h';rcases ih with ih|ih|ih
   ·exact .inl (.inr ⟨rfl,ih⟩)
   ·exact .inr (.inl ⟨rfl,ih⟩)
   ·exact .inr (.inr (.inr ⟨rfl,ih⟩))
  ·exact .inr (.inr (.inl h))
theorem zfc(a:ByteArray):zbb a a=false:=zle _
theorem zb6{a b c:ByteArray}(h:zbb a b=true)(k:zbb b c=true):zbb a c=true:=zih h k
theorem zdg(a b:ByteArray):zbb a b=true\/a=b\/zbb b a=true:=by
 rcases zlf a.toList b.toList with h|h|h
 ·exact .inl h
 ·exact .inr (.inl (zap.1 (by unfold zae;simpa using h)))
 ·exact .inr (.inr h)
theorem zc8{a b:ByteArray}(h:zbb a b=true):a≠b:=by
 rintro rfl;rw[zfc]at h;cases h
theorem zgT{a b:ByteArray}(h:zbb a b=true):zbb b a=false:=by
 rw[<-Bool.not_eq_true];intro k;have:=zb6 h k;rw[zfc]at this;cases this
structure GoodParts (l:Parts):Prop where
 asc:l.Pairwise fun a b=>zbb a.1 b.1=true
 pos:∀p∈l,0<p.2
theorem zbY(n:ByteArray)(q:Rat):∀l:Parts,sumQ (za3 l n q)=sumQ l+q
 | []=>by
   unfold za3;split
   ·rename_i h
    have:q=0:=by simpa using h
    subst this;simp[sumQ];grind
   ·simp[sumQ];grind
 |p::r=>by
  have ih:=zbY n q r;unfold za3;split
  ·rename_i h
   have:q=0:=by simpa using h
   subst this;grind
  ·split
   ·rw[sumQ,ih,sumQ];grind
   ·split
    ·rw[sumQ,sumQ];grind
    ·rw[sumQ,sumQ];grind
theorem zfd{n:ByteArray}{q:Rat}:∀ {l:Parts} {p:ByteArray×Rat},p∈za3 l n q->p.1=n\/p∈l
 | [],p,h=>by
   unfold za3 at h;split at h
   ·exact .inr h
   ·simp at h;exact .inl (by rw[h])
 |x::r,p,h=>by
  unfold za3 at h;split at h
  ·exact .inr h
  ·split at h
   ·rcases List.mem_cons.1 h with rfl|h
    ·exact .inr (by simp)
    ·rcases zfd h with h|h
     ·exact .inl h
     ·exact .inr (by simp[h])
   ·split at h
    ·rcases List.mem_cons.1 h with rfl|h
     ·exact .inl rfl
     ·exact .inr (by simp[h])
    ·rcases List.mem_cons.1 h with rfl|h
     ·exact .inl rfl
     ·exact .inr h
theorem zb0{n:ByteArray}{q:Rat}(hq:0<=q):∀ {l:Parts},GoodParts l->GoodParts (za3 l n q)
 | [],_=>by
   unfold za3;split
   ·exact⟨List.Pairwise.nil,by simp⟩
   ·rename_i h
    have:q≠0:=by simpa using h
    exact⟨by simp,by intro p hp;simp at hp;rw[hp];show 0<q;grind⟩
 |x::r,⟨h1,h2⟩=>by
  have hr:GoodParts r:=⟨(List.pairwise_cons.1 h1).2,fun p hp=>h2 p (by simp[hp])⟩
  have hx:=(List.pairwise_cons.1 h1).1;unfold za3;split
  ·exact⟨h1,h2⟩
  ·rename_i h
   have dL:0<q:=by have:q≠0:=by simpa using h
                   grind
   split
   ·rename_i hl
    have ih:=zb0 (n:=n) hq hr;refine⟨List.pairwise_cons.2 ⟨fun p hp=>?_,ih.asc⟩,fun p hp=>?_⟩
    ·rcases zfd hp with e|hp
     ·rw[e];exact hl
     ·exact hx p hp
    ·rcases List.mem_cons.1 hp with rfl|hp
     ·exact h2 _ (by simp)
     ·exact ih.pos p hp
   ·rename_i hl
    split
    ·rename_i hs
     have e:=zap.1 hs;refine⟨List.pairwise_cons.2 ⟨fun p hp=>by rw[<-e];exact hx p hp,hr.asc⟩,fun p hp=>?_⟩;rcases List.mem_cons.1 hp with rfl|hp
     ·have:=h2 x (by simp);show 0<x.2+q;grind
     ·exact hr.pos p hp
    ·rename_i hs
     have jt:zbb n x.1=true:=by
      rcases zdg n x.1 with k|k|k
      ·exact k
      ·exact absurd (zap.2 k.symm) hs
      ·exact absurd k hl
     refine⟨List.pairwise_cons.2 ⟨fun p hp=>?_,h1⟩,fun p hp=>?_⟩
     ·rcases List.mem_cons.1 hp with rfl|hp
      ·exact jt
      ·exact zb6 jt (hx p hp)
     ·rcases List.mem_cons.1 hp with rfl|hp
      ·exact dL
      ·exact h2 p hp
theorem zdK{n:ByteArray}:∀ {l:Parts},(∀p∈l,p.1≠n)->zaf l n=0/\zau l n=l
 | [],_=>⟨rfl,rfl⟩
 |x::r,h=>by
  have ih:=zdK (l:=r) fun p hp=>h p (by simp[hp])
  have hx:zae x.1 n=false:=zcl.2 (h x (by simp));unfold zaf zau at*;rw[List.find?_cons,hx,List.filter_cons,hx];exact⟨ih.1,by simpa using ih.2⟩
theorem zcm{n:ByteArray}:∀ {l:Parts},GoodParts l->sumQ (zau l n)+zaf l n=sumQ l
 | [],_=>by simp only[zau,zaf,sumQ,List.filter_nil,List.find?_nil,Option.map_none,Option.getD_none];grind
 |x::r,⟨h1,h2⟩=>by
  have hr:GoodParts r:=⟨(List.pairwise_cons.1 h1).2,fun p hp=>h2 p (by simp[hp])⟩
  have hx:=(List.pairwise_cons.1 h1).1;have ih:=zcm (n:=n) hr;by_cases hs:x.1=n
  ·have hn:=zdK (n:=n) (l:=r) fun p hp e=>by
    have:=zc8 (hx p hp);exact this (by rw[e,hs])
   have e1:zau (x::r) n=zau r n:=by
    unfold zau;rw[List.filter_cons,zap.2 hs];rfl
   have e2:zaf (x::r) n=x.2:=by
    unfold zaf;rw[List.find?_cons,zap.2 hs];rfl
   rw[e1,e2,hn.2,sumQ];grind
  ·have hf:zae x.1 n=false:=zcl.2 hs;have e1:zau (x::r) n=x::zau r n:=by
    unfold zau;rw[List.filter_cons,hf];rfl
   have e2:zaf (x::r) n=zaf r n:=by
    unfold zaf;rw[List.find?_cons,hf]
   rw[e1,e2,sumQ,sumQ,<-ih];grind
theorem zbN{n:ByteArray}{l:Parts}(h:GoodParts l):GoodParts (zau l n):=
 ⟨h.asc.sublist List.filter_sublist,fun p hp=>h.pos p ((List.mem_filter.1 hp).1)⟩
theorem zbt:∀ {l:Parts},(∀p∈l,0<=p.2)->0<=sumQ l
 | [],_=>by simp[sumQ]
 |x::r,h=>by
  have ih:=zbt (l:=r) fun p hp=>h p (by simp[hp])
  have hx:=h x (by simp);rw[sumQ];grind
theorem zgU:∀ {l:Parts},(∀p∈l,0<=p.2)->∀p∈l,p.2<=sumQ l
 |x::r,h,p,hp=>by
  have hr:=zbt (l:=r) fun p hp=>h p (by simp[hp])
  have hx:=h x (by simp);rw[sumQ];rcases List.mem_cons.1 hp with rfl|hp
  ·grind
  ·have:=zgU (l:=r) (fun p hp=>h p (by simp[hp])) p hp;grind
mutual
def okT:Tree->Bool
 | .leaf _=>true
 | .node l=>!l.isEmpty&&okL l
def okL:List Tree->Bool
 | []=>true
 |x::l=>okT x&&okL l
end
theorem zmy:∀ {l:List Tree},okL l=true↔ ∀x∈l,okT x=true
 | []=>by simp[okL]
 |x::l=>by rw[okL,Bool.and_eq_true,zmy];simp
theorem zkl(s:St)(stems:Bool)(frm:ByteArray):∀(f:Nat) (n:ByteArray),okL (zb7 s stems frm f n)=true
 |0,_=>rfl
 |f+1,n=>by
  rw[zmy];intro x hx;rw[zb7,List.mem_filterMap]at hx;obtain⟨c,_,hc⟩:=hx;split at hc
  ·cases hc;rfl
  ·split at hc
   ·rename_i hs
    cases hc;rw[Bool.and_eq_true]at hs;rw[okT,hs.2,zkl s stems frm f c];rfl
   ·cases hc
theorem ratN{n:Nat}(h:n≠0):(n:Rat)≠0:=by
 intro e;apply h;have:((n:Int):Rat)=((0:Int):Rat):=by simpa using e
 have:=Rat.intCast_inj.1 this;omega
theorem zcJ{a b:Rat}(h:0<=a)(hb:0<=b):0<=a/b:=by
 rw[Rat.div_def];by_cases h0:b=0
 ·subst h0;rw[Rat.inv_zero];grind
 ·have:0<b⁻¹:=Rat.inv_pos.2 (by grind);exact Rat.mul_nonneg h (by grind)
mutual
theorem zgV{each:Rat}:∀ {l:List Tree} {out o:Parts},okL l=true->zbJ each l out=some o->sumQ o=sumQ out+each*(l.length:Rat)
 | [],out,o,_,h=>by
   rw[zbJ]at h;cases h;simp only[List.length_nil];have:((0:Nat):Rat)=0:=rfl;grind
 |x::l,out,o,hk,h=>by
  rw[okL,Bool.and_eq_true]at hk;rw[zbJ,Option.bind_eq_some_iff]at h;obtain⟨o1,h1,h2⟩:=h;have e1:=znC hk.1 h1;have e2:=zgV hk.2 h2;rw[e2,e1,List.length_cons];have:((l.length+1:Nat):Rat)=(l.length:Rat)+1:=by simp
  grind
theorem znC{each:Rat}:∀ {x:Tree} {out o:Parts},okT x=true->zep each x out=some o->sumQ o=sumQ out+each
 | .leaf n,out,o,_,h=>by
   rw[zep]at h;split at h
   ·cases h
   ·cases h;exact zbY n each out
 | .node l,out,o,hk,h=>by
   rw[okT,Bool.and_eq_true]at hk;rw[zep]at h;split at h
   ·cases h
   ·have e:=zgV hk.2 h;rw[e];have h0:l.length≠0:=by
     intro e0;have:=List.eq_nil_of_length_eq_zero e0;rw[this]at hk;exact absurd hk.1 (by decide)
    have:=ratN h0;grind
end
mutual
theorem ze8{each:Rat}(he:0<=each):∀ {l:List Tree} {out o:Parts},GoodParts out->zaF out=false->zbJ each l out=some o->GoodParts o/\zaF o=false
 | [],out,o,hg,hl,h=>by
   rw[zbJ]at h;cases h;exact⟨hg,hl⟩
 |x::l,out,o,hg,hl,h=>by
  rw[zbJ,Option.bind_eq_some_iff]at h;obtain⟨o1,h1,h2⟩:=h;have e1:=zii he hg hl h1;exact ze8 he e1.1 e1.2 h2
theorem zii{each:Rat}(he:0<=each):∀ {x:Tree} {out o:Parts},GoodParts out->zaF out=false->zep each x out=some o->GoodParts o/\zaF o=false
 | .leaf n,out,o,hg,hl,h=>by
   rw[zep]at h;split at h
   ·cases h
   ·rename_i hb
    cases h;exact⟨zb0 he hg,by simpa using hb⟩
 | .node l,out,o,hg,hl,h=>by
   rw[zep]at h;split at h
   ·cases h
   ·exact ze8 (zcJ he Rat.natCast_nonneg) hg hl h
end
def IsN(n:Nat)(q:Rat):Prop:= ∃k:Int,q*(n:Rat)=(k:Rat)
theorem zkm{n:Nat}{p q:Rat}(h:IsN n p)(k:IsN n q):IsN n (p+q):=by
 obtain⟨a,ha⟩:=h;obtain⟨b,hb⟩:=k;refine⟨a+b,?_⟩;rw[Rat.intCast_add,<-ha,<-hb];grind
theorem zgW{n:Nat}{p q:Rat}(h:IsN n p)(k:IsN n q):IsN n (p-q):=by
 obtain⟨a,ha⟩:=h;obtain⟨b,hb⟩:=k;refine⟨a-b,?_⟩;rw[Rat.intCast_sub,<-ha,<-hb];grind
theorem zkn{n m:Nat}{p q:Rat}(h:IsN n p)(k:IsN m q):IsN (n*m) (p*q):=by
 obtain⟨a,ha⟩:=h;obtain⟨b,hb⟩:=k;refine⟨a*b,?_⟩;rw[Rat.intCast_mul,<-ha,<-hb,Rat.natCast_mul];grind
theorem zlg{n m:Nat}{q:Rat}(h:IsN n q):IsN (n*m) q:=by
 obtain⟨a,ha⟩:=h;refine⟨a*m,?_⟩;rw[Rat.intCast_mul,<-ha,Rat.natCast_mul,Rat.intCast_natCast];grind
theorem zgX(n:Nat):IsN n 1:=⟨n,by rw[Rat.intCast_natCast];grind⟩
theorem zko(n:Nat):IsN n 0:=⟨0,by grind⟩
theorem zkp{n:Nat}{q:Rat}(hn:0<n)(h:IsN n q):(q.den:Int)<=n:=by
 obtain⟨a,ha⟩:=h;have h0:=ratN (n:=n) (by omega);have e:q=Rat.divInt a n:=by
  rw[Rat.divInt_eq_div,Rat.intCast_natCast,<-ha];grind
 rw[e,zen (by omega)];exact Int.ediv_le_self _ (by omega)
theorem zet{num den:Int}(h:za8 16 num den=true):IsN 720720 (Rat.divInt num den):=by
 have hs:=zbp h;unfold za8 at h;simp only[Bool.and_eq_true,decide_eq_true_eq]at h;obtain⟨⟨⟨h1,h2⟩,_⟩,_⟩:=h;obtain⟨m,hm⟩:∃m:Int,720720=den*m:=by
  have:den=1\/den=2\/den=3\/den=4\/den=5\/den=6\/den=7\/den=8\/den=9\/den=10\/den=11\/den=12\/den=13\/den=14\/den=15\/den=16:=by omega
  rcases this with rfl|rfl|rfl|rfl|rfl|rfl|rfl|rfl|rfl|rfl|rfl|rfl|rfl|rfl|rfl|rfl
  all_goals first|exact⟨720720,rfl⟩|exact⟨360360,rfl⟩|exact⟨240240,rfl⟩|exact⟨180180,rfl⟩|exact⟨144144,rfl⟩|exact⟨120120,rfl⟩|exact⟨102960,rfl⟩|exact⟨90090,rfl⟩|exact⟨80080,rfl⟩|exact⟨72072,rfl⟩|exact⟨65520,rfl⟩|exact⟨60060,rfl⟩|exact⟨55440,rfl⟩|exact⟨51480,rfl⟩|exact⟨48048,rfl⟩|exact⟨45045,rfl⟩
 refine⟨num*m,?_⟩;have hd:(den:Rat)≠0:=ratI (by omega);have e:((720720:Nat):Rat)=(den:Rat)*(m:Rat):=by
  rw[<-Rat.intCast_mul,<-hm];rfl
 rw[Rat.divInt_eq_div,e,Rat.intCast_mul];grind
theorem zcK{n:Nat}{nm:ByteArray}{q:Rat}(hq:IsN n q):∀ {l:Parts},(∀p∈l,IsN n p.2)->∀p∈za3 l nm q,IsN n p.2
 | [],_,p,hp=>by
   unfold za3 at hp;split at hp
   ·cases hp
   ·simp at hp;rw[hp];exact hq
 |x::r,h,p,hp=>by
  have hr:=zcK (nm:=nm) hq (l:=r) fun p hp=>h p (by simp[hp])
  unfold za3 at hp;split at hp
  ·exact h p hp
  ·split at hp
   ·rcases List.mem_cons.1 hp with rfl|hp
    ·exact h _ (by simp)
    ·exact hr p hp
   ·split at hp
    ·rcases List.mem_cons.1 hp with rfl|hp
     ·exact zkm (h x (by simp)) hq
     ·exact h p (by simp[hp])
    ·rcases List.mem_cons.1 hp with rfl|hp
     ·exact hq
     ·exact h p hp
theorem zc9{n:Nat}(h0:0<n)(h1:n<=1000000000){l:Parts}(h:∀p∈l,IsN n p.2):zaF l=false:=by
 unfold zaF;rw[List.any_eq_false];intro p hp;have:=zkp h0 (h p hp);unfold bigQ;simp;omega
structure WillOk (l:Parts):Prop where
 pos:∀p∈l,0<p.2
 isN:∀p∈l,IsN 720720 p.2
 le:sumQ l<=1
theorem zij{s:St}{frm:ByteArray}:∀ {l out:Parts} {rest:Rat},(∀p∈l,0<p.2)->(∀p∈l,IsN 720720 p.2)->sumQ l<=rest->GoodParts out->(∀p∈out,IsN 720720 p.2)->IsN 720720 rest->
 GoodParts (zcu s frm l out rest).1/\(∀p∈(zcu s frm l out rest).1,IsN 720720 p.2)/\IsN 720720 (zcu s frm l out rest).2/\0<=(zcu s frm l out rest).2/\sumQ (zcu s frm l out rest).1+(zcu s frm l out rest).2=sumQ out+rest
 | [],out,rest,_,_,hs,hg,hn,hr=>by
   rw[zcu];exact⟨hg,hn,hr,by simpa[sumQ]using hs,rfl⟩
 |p::l,out,rest,hp,hN,hs,hg,hn,hr=>by
  have iQ:=hp p (by simp);have hl:=fun q (hq:q∈l)=>hp q (by simp[hq])
  have wD:=fun q (hq:q∈l)=>hN q (by simp[hq])
  rw[sumQ]at hs;rw[zcu];split
  ·have ih:=zij (s:=s) (frm:=frm) hl wD (rest:=rest-p.2) (out:=za3 out p.1 p.2) (by grind) (zb0 (by grind) hg) (zcK (hN p (by simp)) hn) (zgW hr (hN p (by simp)));refine⟨ih.1,ih.2.1,ih.2.2.1,ih.2.2.2.1,?_⟩;rw[ih.2.2.2.2,zbY];grind
  ·exact zij (s:=s) (frm:=frm) hl wD (by grind) hg hn hr
theorem zdD:GoodParts []:=⟨List.Pairwise.nil,by simp⟩
theorem ze9{s:St}{law:Law}{n:ByteArray}{o:Parts}(hw:WillOk (zbx s n))(hl:za8 16 law.num law.den=true)(h:zcP s law n=some o):GoodParts o/\sumQ o=1/\zaF o=false:=by
 unfold zcP at h;have hg:=zij (s:=s) (frm:=n) (out:=[]) (rest:=1) hw.pos hw.isN hw.le zdD (by simp) (zgX _);generalize hq:zcu s n (zbx s n) [] 1=q at*;obtain⟨out,rest⟩:=q;dsimp only at h hg;obtain⟨g1,g2,g3,g4,g5⟩:=hg;rw[sumQ]at g5;split at h
 ·rename_i h0
  cases h;have:rest=0:=by simpa using h0
  exact⟨g1,by grind,zc9 (by decide) (by decide) g2⟩
 rename_i h0
 have qd:rest≠0:=by simpa using h0
 generalize cv:(if zed s (zaK s n) n=true then zaK s n else⟨#[]⟩)=sp at*;split at h
 ·cases h;refine⟨zb0 g4 g1,by rw[zbY];grind,zc9 (by decide) (by decide) (zcK g3 g2)⟩
 rename_i ai
 have ag:(zb7 s law.stems n (zaX s) n).length≠0:=by
  intro e;rw[List.eq_nil_of_length_eq_zero e]at ai;exact ai rfl
 have bv:=zkl s law.stems n (zaX s) n;generalize zb7 s law.stems n (zaX s) n=ts at*;obtain⟨_,_,l1,l2⟩:=zbp hl;have hd:za8 16 law.num law.den=true:=hl;have hN:IsN 720720 (Rat.divInt law.num law.den):=zet hl;have key:∃own out2,own=(if noB sp=true then 0 else rest*Rat.divInt law.num law.den)/\out2=(if noB sp=true then out else za3 out sp own)/\0<=own/\own<=rest/\GoodParts out2/\sumQ out2=sumQ out+own/\zaF out2=false:=by
  by_cases hs:noB sp=true
  ·exact⟨0,out,by rw[if_pos hs],by rw[if_pos hs],by grind,g4,g1,by grind,zc9 (by decide) (by decide) g2⟩
  ·have h1:0<=rest*Rat.divInt law.num law.den:=Rat.mul_nonneg g4 l1;have h2:rest*Rat.divInt law.num law.den<=rest:=by
    have:=Rat.mul_le_mul_of_nonneg_left l2 g4;grind
   refine⟨rest*Rat.divInt law.num law.den,za3 out sp (rest*Rat.divInt law.num law.den),by rw[if_neg hs],by rw[if_neg hs],h1,h2,zb0 h1 g1,zbY _ _ _,?_⟩;have nI:∃d:Nat,0<d/\d<=16/\IsN d (Rat.divInt law.num law.den):=by
    unfold za8 at hd;simp only[Bool.and_eq_true,decide_eq_true_eq]at hd;refine⟨law.den.toNat,by omega,by omega,law.num,?_⟩;have hz:(law.den:Rat)≠0:=ratI (by omega);have e:((law.den.toNat:Nat):Rat)=(law.den:Rat):=by rw[<-Rat.intCast_natCast,Int.toNat_of_nonneg (by omega)]
    rw[Rat.divInt_eq_div,e];grind
   obtain⟨d,d0,d1,Db⟩:=nI;exact zc9 (n:=720720*d) (by omega) (by omega) (zcK (zkn g3 Db) fun p hp=>zlg (g2 p hp))
 obtain⟨own,out2,ho,uu,k0,k1,k2,k3,k4⟩:=key;rw[<-ho,<-uu]at h;split at h
 ·rename_i hz
  cases h;have:rest-own=0:=by simpa using hz
  exact⟨k2,by grind,k4⟩
 ·split at h
  ·cases h
  ·have i8:0<=(rest-own)/(ts.length:Rat):=zcJ (by grind) Rat.natCast_nonneg;obtain⟨m1,m2⟩:=ze8 i8 k2 k4 h;refine⟨m1,?_,m2⟩;rw[zgV bv h,k3];have:=ratN ag;grind
theorem zik{own:Rat}(h0:0<=own):∀ {l out o:Parts},(∀p∈l,0<=p.2)->GoodParts out->zaF out=false->zbC own l out=some o->GoodParts o/\zaF o=false/\sumQ o=sumQ out+own*sumQ l
 | [],out,o,_,hg,hl,h=>by
   rw[zbC]at h;cases h;exact⟨hg,hl,by rw[sumQ];grind⟩
 |p::l,out,o,hp,hg,hl,h=>by
  rw[zbC]at h;split at h
  ·cases h
  split at h
  ·cases h
  ·rename_i hb
   have hm:0<=own*p.2:=Rat.mul_nonneg h0 (hp p (by simp));obtain⟨h1,h2,h3⟩:=zik h0 (fun q hq=>hp q (by simp[hq])) (zb0 hm hg) (by simpa using hb) h;refine⟨h1,h2,?_⟩;rw[h3,zbY,sumQ];grind
structure GoodG (g:Grave):Prop where
 good:GoodParts g.holders
 small:zaF g.holders=false
 one:g.holders=[]\/sumQ g.holders=1
theorem zbF{l:Parts}(h:GoodParts l)(n:ByteArray):0<=zaf l n:=by
 unfold zaf;cases hf:l.find? (fun p=>zae p.1 n)with
 |none=>exact Rat.le_refl
 |some p=>
  have:=h.pos p (List.mem_of_find?_eq_some hf);show 0<=p.2;grind
theorem zdr{l:Parts}{n:ByteArray}(h:zaf l n≠0):l≠[]:=by
 rintro rfl;exact h rfl
theorem large_sub{l m:Parts}(h:∀p∈m,p∈l)(hl:zaF l=false):zaF m=false:=by
 unfold zaF at*;rw[List.any_eq_false]at*;exact fun p hp=>hl p (h p hp)
theorem zdE{l:Parts}(n:ByteArray)(h:zaF l=false):zaF (zau l n)=false:=large_sub (fun p hp=>(List.mem_filter.1 hp).1) h
theorem zfM{n:ByteArray}{q:Rat}(hq:bigQ q=false):∀ {l:Parts},(∀p∈l,p.1≠n)->zaF l=false->zaF (za3 l n q)=false
 | [],_,_=>by
   unfold za3;split
   ·rfl
   ·simp[zaF,hq]
 |x::r,hn,hl=>by
  have pW:bigQ x.2=false/\zaF r=false:=by simpa[zaF]using hl
  have ih:=zfM hq (l:=r) (fun p hp=>hn p (by simp[hp])) pW.2;unfold za3;split
  ·exact hl
  ·split
   ·unfold zaF at ih⊢;rw[List.any_cons,pW.1,ih];rfl
   ·split
    ·rename_i hs
     exact absurd (zap.1 hs) (hn x (by simp))
    ·unfold zaF at hl⊢;rw[List.any_cons,hq,hl];rfl
theorem zj7{l:Parts}{n:ByteArray}:∀p∈zau l n,p.1≠n:=by
 intro p hp;unfold zau at hp;have:=(List.mem_filter.1 hp).2;exact zcl.1 (by simpa using this)
theorem zkq{g:Grave}{frm:ByteArray}{l out:Parts}(hg:GoodG g)(hs:zaf g.holders frm≠0)(hp:∀p∈l,0<p.2)(hl:sumQ l<=1)(hk:bigQ (zaf g.holders frm*(1-sumQ l))=false)
 (h:zbC (zaf g.holders frm) l (za3 (zau g.holders frm) frm (zaf g.holders frm*(1-sumQ l)))=some out):GoodG {g with holders:=out}:=by
 have h0:=zbF hg.good frm;have jq:0<=zaf g.holders frm*(1-sumQ l):=Rat.mul_nonneg h0 (by grind);obtain⟨h1,h2,h3⟩:=zik h0 (fun p Ld=>by have:=hp p Ld;grind) (zb0 jq (zbN hg.good)) (zfM hk zj7 (zdE frm hg.small)) h;refine⟨h1,h2,.inr ?_⟩;have hw:=zcm (n:=frm) hg.good;rcases hg.one with e|e
 ·exact absurd e (zdr hs)
 ·show sumQ out=1;rw[h3,zbY];grind
theorem sum_div(d:Rat):∀l:Parts,sumQ (l.map fun p=>(p.1,p.2/d))=sumQ l/d
 | []=>by simp only[List.map_nil,sumQ];rw[Rat.div_def];grind
 |p::l=>by
  rw[List.map_cons,sumQ,sumQ,sum_div d l];rw[Rat.div_def,Rat.div_def,Rat.div_def];grind
theorem sum_zero{l:Parts}(h:∀p∈l,0<p.2)(hs:sumQ l=0):l=[]:=by
 cases l with
 |nil=>rfl
 |cons x r=>
  have hx:=h x (by simp);have:=zbt (l:=r) fun p hp=>by have:=h p (by simp[hp]);grind
  rw[sumQ]at hs;grind
theorem zj8{l:Parts}(h:∀p∈l,0<p.2):0<=sumQ l:=zbt fun p hp=>by have:=h p hp;grind
theorem zjq{g:Grave}{frm:ByteArray}(hg:GoodG g)(hs:zaf g.holders frm≠0)(hl:zaF ((zau g.holders frm).map fun p=>(p.1,p.2/(1-zaf g.holders frm)))=false):
 GoodG {g with holders:=(zau g.holders frm).map fun p=>(p.1,p.2/(1-zaf g.holders frm))}:=by
 have hw:=zcm (n:=frm) hg.good;have h1:sumQ g.holders=1:=by
  rcases hg.one with e|e
  ·exact absurd e (zdr hs)
  ·exact e
 have iL:=zbN (n:=frm) hg.good;have i8:=zj8 iL.pos;by_cases hz:1-zaf g.holders frm=0
 ·have he:zau g.holders frm=[]:=sum_zero iL.pos (by grind);have e2:((zau g.holders frm).map fun p=>(p.1,p.2/(1-zaf g.holders frm)))=[]:=by rw[he];rfl
  rw[e2];exact⟨zdD,rfl,.inl rfl⟩
 ·have hd:0<1-zaf g.holders frm:=by grind
  refine⟨⟨List.pairwise_map.2 iL.asc,fun p hp=>?_⟩,hl,.inr ?_⟩
  ·obtain⟨q,hq,rfl⟩:=List.mem_map.1 hp;have:=iL.pos q hq;show 0<q.2/(1-zaf g.holders frm);rw[Rat.div_def];exact Rat.mul_pos this (Rat.inv_pos.2 hd)
  ·show sumQ _=1;rw[sum_div,show sumQ (zau g.holders frm)=1-zaf g.holders frm by grind,Rat.div_def];exact Rat.mul_inv_cancel _ hz
theorem zlh{g:Grave}{n:ByteArray}{bC out:Parts}(hg:GoodG g)(hs:zaf g.holders n≠0)(hh:GoodParts bC)(h1:sumQ bC=1)(h:zbC (zaf g.holders n) bC (zau g.holders n)=some out):GoodG {g with holders:=out,died:=g.died++[n]}:=by
 obtain⟨k1,k2,k3⟩:=zik (zbF hg.good n) (fun p hp=>by have:=hh.pos p hp;grind) (zbN hg.good) (zdE n hg.small) h;refine⟨k1,k2,.inr ?_⟩;have hw:=zcm (n:=n) hg.good;rcases hg.one with e|e
 ·exact absurd e (zdr hs)
 ·show sumQ out=1;rw[k3,h1];grind
theorem zgj{s:ByteArray}(h:zaT s=true):noB s=false:=by
 unfold zaT at h;simp only[Bool.and_eq_true,Bool.not_eq_true']at h;exact h.2.1
structure OkD (d:Deed):Prop where
 kind:0<=d.kind/\d.kind<=8
 day:0<=d.day/\d.day<=200000
 years:0<=d.years/\d.years<=99
 cls:0<=d.cls/\d.cls<=4
 len:d.to.length<=8
 names:∀p∈d.to,zaT p.name=true
 place:(d.kind=0\/d.kind=1\/d.kind=2\/d.kind=3)->zaT d.place=true
 frm:¬(d.kind=0\/d.kind=3)->zaT d.frm=true
 grantor:(d.kind=0\/d.kind=3)->noB d.frm=true
 parts:(d.kind=0\/d.kind=1\/d.kind=4)->d.to≠[]/\zcF true (d.kind==0) d.frm d.to=true
 one:(d.kind=5\/d.kind=6\/d.kind=7)->d.to.length=1/\zcF false false d.frm d.to=true
 none:(d.kind=2\/d.kind=3\/d.kind=8)->d.to=[]
theorem zf0{n lo hi:Int}:inR n lo hi=true↔lo<=n/\n<=hi:=by unfold inR;simp
theorem zeA{d:Deed}(h:zaI d=0):OkD d:=by
 unfold zaI at h;split at h
 ·simp at h
 rename_i h1
 split at h
 ·simp at h
 rename_i h2
 split at h
 ·simp at h
 rename_i h3
 split at h
 ·simp at h
 rename_i h4
 split at h
 ·simp at h
 rename_i h5
 simp only[Bool.not_eq_true',Bool.not_eq_false,zf0]at h1;simp only[Bool.or_eq_true,Bool.not_eq_true',not_or,Bool.not_eq_false,zbl,zf0]at h2;simp only[Bool.or_eq_true,Bool.not_eq_true',not_or,Bool.not_eq_false,List.all_eq_true,zb1]at h4;simp only[Bool.not_eq_true',Bool.not_eq_false]at h5;simp only[decide_eq_true_eq,Nat.not_lt]at h3;unfold zfK at h5;obtain⟨⟨hd,hc⟩,hy⟩:=h2;obtain⟨⟨hp,hf⟩,hn⟩:=h4;have fY:d.kind=0\/d.kind=1\/d.kind=2\/d.kind=3\/d.kind=4\/d.kind=5\/d.kind=6\/d.kind=7\/d.kind=8:=by omega
 refine⟨h1,hd,hy,hc,h3,hn,?_,?_,?_,?_,?_,?_⟩;all_goals rcases fY with k|k|k|k|k|k|k|k|k<;>simp_all
theorem zil{s:St}{a b x:ByteArray}:zai {s with children:=s.children++[(a,b)]} x=zai s x++(if zae a x then[b]else[]):=by
 unfold zai;rw[List.filter_append,List.map_append];congr 1
 by_cases h:zae a x=true
 ·rw[if_pos h,List.filter_cons,if_pos h];rfl
 ·rw[if_neg h,List.filter_cons,if_neg h];rfl
theorem zmz{s:St}{a b:ByteArray}(h:∀x,¬Desc s x x)(hn:¬Desc s b a)(ai:a≠b):∀x,¬Desc {s with children:=s.children++[(a,b)]} x x:=by
 have key:∀x y,Desc {s with children:=s.children++[(a,b)]} x y->Desc s x y\/((x=a\/Desc s x a)/\(y=b\/Desc s b y)):=by
  intro x y uG;unfold Desc at uG;induction uG with
  |single hc=>
   rw[zil]at hc;rcases List.mem_append.1 hc with hc|hc
   ·exact .inl (zfy hc)
   ·split at hc
    ·rename_i hs
     simp only[List.mem_singleton]at hc;exact .inr ⟨.inl (zap.1 hs).symm,.inl hc⟩
    ·cases hc
  |tail _ hc ih=>
   rw[zil]at hc;rcases List.mem_append.1 hc with hc|hc
   ·rcases ih with ih|⟨i1,i2⟩
    ·exact .inl (zic ih hc)
    ·refine .inr ⟨i1,.inr ?_⟩;rcases i2 with i2|i2
     ·rw[i2]at hc;exact zfy hc
     ·exact zic i2 hc
   ·split at hc
    ·rename_i hs
     simp only[List.mem_singleton]at hc;have e:=zap.1 hs;rcases ih with ih|⟨i1,i2⟩
     ·exact .inr ⟨.inr (by rw[e];exact ih),.inl hc⟩
     ·exfalso
      rcases i2 with i2|i2
      ·exact ai (e.trans i2)
      ·exact hn (by rw[e];exact i2)
    ·cases hc
 intro x hx;rcases key x x hx with k|⟨k1,k2⟩
 ·exact h x k
 ·rcases k1 with rfl|k1<;>rcases k2 with k2|k2
  ·exact ai k2
  ·exact hn k2
  ·rw[k2]at k1;exact hn k1
  ·exact hn (zgQ k2 k1)
structure GoodSt (s:St) (last:Int):Prop where
 graves:∀g∈s.graves,GoodG g
 force:∀(i j:Nat) (gi gj:Grave),s.graves[i]?=some gi->s.graves[j]?=some gj->gi.place=gj.place->∀day,last<=day->zaR gi day=true->zaR gj day=true->i=j
 wills:∀n,WillOk (zbx s n)
 acyc:∀a,¬Desc s a a
 kids:∀c∈s.children,noB c.1=false/\noB c.2=false
 marr:∀m∈s.marriages,m.1≠m.2/\noB m.1=false/\noB m.2=false
 willNames:∀w∈s.wills,∀p∈w.2,noB p.1=false
 dead:∀n∈s.dead,noB n=false
theorem zeu(last:Int):GoodSt zb4 last:=by
 refine⟨by simp[zb4],by simp[zb4],fun n=>⟨by simp[zb4,zbx],by simp[zb4,zbx],by simp only[zb4,zbx,List.reverse_nil,List.find?_nil,Option.map_none,Option.getD_none,sumQ];decide⟩,fun a=>zid rfl,by simp[zb4],by simp[zb4],by simp[zb4],by simp[zb4]⟩
theorem zgY{g:Grave}{d e:Int}(h:d<=e)(hf:zaR g e=true):zaR g d=true:=by
 unfold zaR at*;simp only[Bool.and_eq_true,Bool.or_eq_true,decide_eq_true_eq]at*;refine⟨hf.1,?_⟩;rcases hf.2 with k|k
 ·exact .inl k
 ·exact .inr (by omega)
theorem zbO{s:St}{place:ByteArray}{day:Int}{i:Nat}(h:zaL s place day=some i):∃g,s.graves[i]?=some g/\g.place=place/\zaR g day=true:=by
 unfold zaL at h;rw[List.findIdx?_eq_some_iff_getElem]at h;obtain⟨hi,h1,_⟩:=h;rw[Bool.and_eq_true,zap]at h1;exact⟨_,List.getElem?_eq_getElem hi,h1.1,h1.2⟩
theorem zhr{s:St}{place:ByteArray}{day:Int}(h:zaL s place day=none):∀g∈s.graves,g.place=place->zaR g day=false:=by
 unfold zaL at h;rw[List.findIdx?_eq_none_iff]at h;intro g hg hp;have:=h g hg;rw[zap.2 hp,Bool.true_and]at this;exact this
theorem GoodSt.later{s:St}{a b:Int}(h:GoodSt s a)(cJ:a<=b):GoodSt s b:=
 {h with force:=fun i j gi gj hi hj hp day hd h1 h2=>h.force i j gi gj hi hj hp day (by omega) h1 h2}
theorem zim:∀ {l:List RPart} {out:Parts},GoodParts out->(∀p∈out,IsN 720720 p.2)->(∀p∈l,0<p.rat/\IsN 720720 p.rat)->
 GoodParts (zbe l out)/\(∀p∈zbe l out,IsN 720720 p.2)/\sumQ (zbe l out)=sumQ out+sumQ (zan l)
 | [],out,h1,h2,_=>⟨h1,h2,by simp only[zbe,List.foldl_nil,zan,List.map_nil,sumQ];grind⟩
 |p::l,out,h1,h2,h=>by
  obtain⟨p1,p2⟩:=h p (by simp);have ih:=zim (l:=l) (zb0 (n:=p.name) (q:=p.rat) (by grind) h1) (zcK p2 h2) fun q hq=>h q (by simp[hq])
  have e:zbe (p::l) out=zbe l (za3 out p.name p.rat):=rfl;rw[e];refine⟨ih.1,ih.2.1,?_⟩;rw[ih.2.2,zbY];simp only[zan,List.map_cons,sumQ];grind
theorem zef{all:Bool}{frm:ByteArray}{l:List RPart}(h:zcF true all frm l=true):(∀p∈l,0<p.rat/\IsN 720720 p.rat/\za8 16 p.num p.den=true)/\sumQ (zan l)<=1/\(all=true->sumQ (zan l)=1)/\∀p∈l,p.name≠frm:=by
 unfold zcF at h;simp only[if_true,Bool.and_eq_true,List.all_eq_true,Bool.not_eq_true',decide_eq_true_eq,Bool.or_eq_true,bne_iff_ne,ne_eq,beq_iff_eq]at h;obtain⟨⟨_,hn⟩,⟨hs,bP⟩,aU⟩:=h;refine⟨fun p hp=>?_,bP,fun ha=>?_,fun p hp=>zcl.1 (hn p hp)⟩
 ·obtain⟨h1,h2⟩:=hs p hp;have h3:=zbp h1;refine⟨?_,zet h1,h1⟩;have ai:p.rat≠0:=by
   intro k;apply h2;rw[<-h3.1];unfold RPart.rat at k;rw[k];rfl
  have i8:0<=p.rat:=h3.2.2.1;grind
 ·rcases aU with k|k
  ·rw[ha]at k;cases k
  ·exact k
theorem zj9{all:Bool}{frm:ByteArray}{l:List RPart}(h:zcF true all frm l=true):WillOk (zan l):=by
 obtain⟨h1,h2,_,_⟩:=zef h;refine⟨fun p hp=>?_,fun p hp=>?_,h2⟩
 ·obtain⟨q,hq,rfl⟩:=List.mem_map.1 hp;exact(h1 q hq).1
 ·obtain⟨q,hq,rfl⟩:=List.mem_map.1 hp;exact(h1 q hq).2.1
theorem zm0{s s':St}{d:Deed}{last:Int}(h:GoodSt s last)(hd:OkD d)(hl:last<=d.day)(hk:d.kind=0)(ht:zcT s d=(s',0)):GoodSt s' d.day:=by
 have h:=h.later hl;unfold zcT at ht;split at ht
 ·simp at ht
 rename_i h1
 split at ht
 ·simp at ht
 split at ht
 ·simp at ht
 simp only[Prod.mk.injEq,and_true]at ht;rw[<-ht];have hx:zaL s d.place d.day=none:=by simpa using h1
 have hn:=zhr hx;obtain⟨nP,yz⟩:=hd.parts (.inl hk);obtain⟨p1,p2,p3,_⟩:=zef yz;obtain⟨g1,g2,g3⟩:=zim (l:=d.to) (out:=[]) zdD (by simp) fun p hp=>⟨(p1 p hp).1,(p1 p hp).2.1⟩
 have g4:sumQ (zbe d.to [])=1:=by
  rw[g3,p3 (by rw[hk];rfl),sumQ];grind
 generalize hg:(⟨d.place,d.cls,if decide (0<d.years)=true then zcj d.day d.years else-1,zbe d.to [],[]⟩:Grave)=g;have um:g.place=d.place:=by rw[<-hg]
 have jK:GoodG g:=by rw[<-hg];exact⟨g1,zc9 (by decide) (by decide) g2,.inr g4⟩
 refine {h with graves:=fun x hx=>?_,force:=fun i j gi gj hi hj hp day kj f1 f2=>?_}
 ·rcases List.mem_append.1 hx with hx|hx
  ·exact h.graves x hx
  ·rw[List.mem_singleton.1 hx];exact jK
 ·have hi:(s.graves++[g])[i]?=some gi:=hi;have hj:(s.graves++[g])[j]?=some gj:=hj;rw[List.getElem?_append]at hi hj;split at hi<;>split at hj
  ·exact h.force i j gi gj hi hj hp day kj f1 f2
  ·exfalso
   have e:gj=g:=by
    rw[List.getElem?_cons]at hj;split at hj
    ·exact(Option.some.inj hj).symm
    ·simp at hj
   have:=hn gi (List.mem_of_getElem? hi) (by rw[hp,e,um]);rw[zgY kj f1]at this;cases this
  ·exfalso
   have e:gi=g:=by
    rw[List.getElem?_cons]at hi;split at hi
    ·exact(Option.some.inj hi).symm
    ·simp at hi
   have:=hn gj (List.mem_of_getElem? hj) (by rw[<-hp,e,um]);rw[zgY kj f2]at this;cases this
  ·have:=(List.getElem?_eq_some_iff.1 hi).1;have:=(List.getElem?_eq_some_iff.1 hj).1;simp at*;omega
theorem zjA{s:St}{i:Nat}{g g':Grave}{day:Int}(h:GoodSt s day)(hi:s.graves[i]?=some g)(hg:GoodG g')(hp:g'.place=g.place)(hf:∀e,day<=e->zaR g' e=true->zaR g e=true):GoodSt (s.withGrave i g') day:=by
 have eF:=(List.getElem?_eq_some_iff.1 hi).1;refine {h with graves:=fun x hx=>?_,force:=fun a b ga gb ha hb fK e he f1 f2=>?_}
 ·rcases List.mem_or_eq_of_mem_set hx with hx|hx
  ·exact h.graves x hx
  ·rw[hx];exact hg
 ·have ha:(s.graves.set i g')[a]?=some ga:=ha;have hb:(s.graves.set i g')[b]?=some gb:=hb;rw[List.getElem?_set]at ha hb;have one:∀(c:Nat) (gc:Grave),(if i=c then if i<s.graves.length then some g' else none else s.graves[c]?)=some gc->∃gc',s.graves[c]?=some gc'/\gc'.place=gc.place/\(zaR gc e=true->zaR gc' e=true):=by
   intro c gc hc;by_cases hic:i=c
   ·rw[if_pos hic,if_pos eF]at hc;cases hc;subst hic;exact⟨g,hi,hp.symm,hf e he⟩
   ·rw[if_neg hic]at hc;exact⟨gc,hc,rfl,id⟩
  obtain⟨ga',a1,a2,a3⟩:=one a ga ha;obtain⟨gb',b1,b2,b3⟩:=one b gb hb;exact h.force a b ga' gb' a1 b1 (by rw[a2,b2,fK]) e he (a3 f1) (b3 f2)
theorem zf1{s:St}{i:Nat}{g:Grave}(h:s.graves[i]?=some g):s.graves.getD i zfa=g:=by
 rw[List.getD_eq_getElem?_getD,h];rfl
theorem zeB{g:Grave}{out:Parts}{died:List ByteArray}{e:Int}(ai:g.holders≠[])(h:zaR {g with holders:=out,died:=died} e=true):zaR g e=true:=by
 unfold zaR at*;simp only[Bool.and_eq_true]at*;refine⟨?_,h.2⟩;cases hg:g.holders with
 |nil=>exact absurd hg ai
 |cons _ _=>rfl
theorem zjr{s s':St}{d:Deed}{last:Int}(h:GoodSt s last)(hd:OkD d)(hl:last<=d.day)(hk:d.kind=1)(ht:zbs s d=(s',0)):GoodSt s' d.day:=by
 have h:=h.later hl;unfold zbs at ht;split at ht
 ·simp at ht
 rename_i i hi
 obtain⟨g,g1,g2,g3⟩:=zbO hi;rw[zf1 g1]at ht;dsimp only at ht;split at ht
 ·simp at ht
 split at ht
 ·simp at ht
 rename_i hs
 have hs:zaf g.holders d.frm≠0:=by simpa using hs
 split at ht
 ·simp at ht
 split at ht
 ·simp at ht
 rename_i hb
 split at ht
 ·simp at ht
 rename_i out ho
 simp only[Prod.mk.injEq,and_true]at ht;rw[<-ht];obtain⟨nP,yz⟩:=hd.parts (.inr (.inl hk));have hw:=zj9 yz;have aW:=h.graves g (List.mem_of_getElem? g1);exact zjA h g1 (zkq aW hs hw.pos hw.le (by simpa using hb) ho) rfl fun e _ hf=>zeB (died:=g.died) (zdr hs) hf
theorem zin{s s':St}{d:Deed}{last:Int}(h:GoodSt s last)(hl:last<=d.day)(ht:zba s d=(s',0)):GoodSt s' d.day:=by
 have h:=h.later hl;unfold zba at ht;split at ht
 ·simp at ht
 rename_i i hi
 obtain⟨g,g1,g2,g3⟩:=zbO hi;rw[zf1 g1]at ht;dsimp only at ht;split at ht
 ·simp at ht
 rename_i hs
 have hs:zaf g.holders d.frm≠0:=by simpa using hs
 split at ht
 ·simp at ht
 rename_i hb
 simp only[Prod.mk.injEq,and_true]at ht;rw[<-ht];have aW:=h.graves g (List.mem_of_getElem? g1);exact zjA h g1 (zjq aW hs (by simpa using hb)) rfl fun e _ hf=>zeB (died:=g.died) (zdr hs) hf
theorem zm1{s s':St}{d:Deed}{last:Int}(h:GoodSt s last)(hl:last<=d.day)(ht:zdf s d=(s',0)):GoodSt s' d.day:=by
 have h:=h.later hl;unfold zdf at ht;split at ht
 ·simp at ht
 rename_i i hi
 obtain⟨g,g1,g2,g3⟩:=zbO hi;rw[zf1 g1]at ht;dsimp only at ht;split at ht
 ·simp at ht
 split at ht
 ·simp at ht
 simp only[Prod.mk.injEq,and_true]at ht;rw[<-ht];generalize zcj g.fin d.years=fin at*;have aW:=h.graves g (List.mem_of_getElem? g1);have eF:=(List.getElem?_eq_some_iff.1 g1).1;refine {h with graves:=fun x hx=>?_,force:=fun a b ga gb ha hb fK e he f1 f2=>?_}
 ·rcases List.mem_or_eq_of_mem_set hx with hx|hx
  ·exact h.graves x hx
  ·rw[hx];exact⟨aW.good,aW.small,aW.one⟩
 ·have ha:(s.graves.set i {g with fin:=fin})[a]?=some ga:=ha;have hb:(s.graves.set i {g with fin:=fin})[b]?=some gb:=hb;rw[List.getElem?_set]at ha hb;have one:∀(c:Nat) (gc:Grave),(if i=c then if i<s.graves.length then some ({g with fin:=fin}:Grave)else none else s.graves[c]?)=some gc->∃gc',s.graves[c]?=some gc'/\gc'.place=gc.place/\(zaR gc e=true->zaR gc' d.day=true):=by
   intro c gc hc;by_cases hic:i=c
   ·rw[if_pos hic,if_pos eF]at hc;cases hc;subst hic;exact⟨g,g1,rfl,fun _=>g3⟩
   ·rw[if_neg hic]at hc;exact⟨gc,hc,rfl,fun hf=>zgY he hf⟩
  obtain⟨ga',a1,a2,a3⟩:=one a ga ha;obtain⟨gb',b1,b2,b3⟩:=one b gb hb;exact h.force a b ga' gb' a1 b1 (by rw[a2,b2,fK]) d.day (Int.le_refl _) (a3 f1) (b3 f2)
theorem name_one{d:Deed}(h:d.to.length=1):∃p,d.to=[p]/\zbi d=p.name:=by
 match hd:d.to,h with
 | [p],_=>exact⟨p,rfl,by unfold zbi;rw[hd];rfl⟩
theorem one_ne{d:Deed}(hd:OkD d)(h:d.kind=5\/d.kind=6\/d.kind=7):noB (zbi d)=false/\zbi d≠d.frm/\noB d.frm=false:=by
 obtain⟨h1,h2⟩:=hd.one h;obtain⟨p,hp,hn⟩:=name_one h1;have oS:=hd.names p (by rw[hp];simp);rw[hn];refine⟨zgj oS,?_,zgj (hd.frm (by omega))⟩;unfold zcF at h2;simp only[Bool.and_eq_true,List.all_eq_true,Bool.not_eq_true']at h2;exact zcl.1 (h2.1.2 p (by rw[hp];simp))
theorem zfN(s:St)(f:ByteArray)(l:Parts)(n:ByteArray):zbx {s with wills:=s.wills++[(f,l)]} n=if zae f n then l else zbx s n:=by
 unfold zbx;rw[List.reverse_append,List.reverse_singleton,List.singleton_append,List.find?_cons];split
 ·rename_i h
  rw[if_pos h];rfl
 ·rename_i h
  rw[if_neg (by simpa using h)]
theorem zox{s s':St}{d:Deed}{last:Int}(h:GoodSt s last)(hd:OkD d)(hl:last<=d.day)(hk:d.kind=4)(ht:zgP s d=(s',0)):GoodSt s' d.day:=by
 have h:=h.later hl;unfold zgP at ht;split at ht
 ·simp at ht
 simp only[Prod.mk.injEq,and_true]at ht;rw[<-ht];obtain⟨nP,yz⟩:=hd.parts (.inr (.inr hk));refine {h with wills:=fun n=>?_,willNames:=fun w hw p hp=>?_}
 ·rw[zfN];split
  ·exact zj9 yz
  ·exact h.wills n
 ·rcases List.mem_append.1 hw with hw|hw
  ·exact h.willNames w hw p hp
  ·rw[List.mem_singleton.1 hw]at hp;obtain⟨q,hq,rfl⟩:=List.mem_map.1 hp;exact zgj (hd.names q hq)
theorem zjs{s s':St}{d:Deed}{last:Int}(h:GoodSt s last)(hl:last<=d.day)(ht:zbD s d=(s',0)):GoodSt s' d.day:=by
 have h:=h.later hl;unfold zbD at ht;split at ht
 ·simp at ht
 split at ht
 ·simp at ht
 simp only[Prod.mk.injEq,and_true]at ht;rw[<-ht];exact {h with}
theorem zm2{s s':St}{d:Deed}{last:Int}(h:GoodSt s last)(hd:OkD d)(hl:last<=d.day)(hk:d.kind=7)(ht:zdv s d=(s',0)):GoodSt s' d.day:=by
 have h:=h.later hl;unfold zdv at ht;split at ht
 ·simp at ht
 split at ht
 ·simp at ht
 simp only[Prod.mk.injEq,and_true]at ht;rw[<-ht];obtain⟨h1,h2,h3⟩:=one_ne hd (.inr (.inr hk));refine {h with marr:=fun m hm=>?_};rcases List.mem_append.1 hm with hm|hm
 ·exact h.marr m hm
 ·rw[List.mem_singleton.1 hm];exact⟨h2.symm,h3,h1⟩
theorem zm3{s s':St}{d:Deed}{last:Int}(h:GoodSt s last)(hd:OkD d)(hl:last<=d.day)(hk:d.kind=6)(ht:zcI s d=(s',0)):GoodSt s' d.day:=by
 have h:=h.later hl;unfold zcI at ht;split at ht
 ·simp at ht
 split at ht
 ·simp at ht
 split at ht
 ·simp at ht
 rename_i hn
 have hn:¬Desc s (zbi d) d.frm:=by simpa using hn
 simp only[Prod.mk.injEq,and_true]at ht;rw[<-ht];obtain⟨h1,h2,h3⟩:=one_ne hd (.inr (.inl hk));refine {h with acyc:=zmz h.acyc hn h2.symm,kids:=fun c hc=>?_};rcases List.mem_append.1 hc with hc|hc
 ·exact h.kids c hc
 ·rw[List.mem_singleton.1 hc];exact⟨h3,h1⟩
theorem laws_go:∀ {l:List Law} {b:Option Int},zeY l b=0->∀x∈l,za8 16 x.num x.den=true
 |x::l,b,h,y,hy=>by
  unfold zeY at h;split at h
  ·rename_i hb
   simp[h]at hb
  ·rename_i hb
   rcases List.mem_cons.1 hy with rfl|hy
   ·unfold zhp at hb;split at hb
    ·simp at hb
    split at hb
    ·simp at hb
    ·rename_i hq
     simpa using hq
   ·exact laws_go h y hy
theorem zfe{laws:List Law}(h:zaC laws=0)(day:Int):za8 16 (zbc laws day).num (zbc laws day).den=true:=by
 unfold zaC at h;split at h
 ·simp at h
 unfold zbc;cases hl:(laws.filter fun x=>decide (x.frm<=day)).getLast? with
 |none=>decide
 |some x=>
  have hm:=List.mem_of_getLast? hl;exact laws_go h x (List.mem_filter.1 hm).1
theorem zm4{s:St}{n:ByteArray}{day:Int}{bC:Option Parts}:∀ {l l':List Grave} {k:Nat},zb2 s n day bC k l=some l'->l'.length=l.length/\∀(i:Nat) g',l'[i]?=some g'->∃g,l[i]?=some g/\
 (g'=g/\zdw s n day (k+i) g=false\/zdw s n day (k+i) g=true/\∃h out,bC=some h/\zbC (zaf g.holders n) h (zau g.holders n)=some out/\g'= {g with holders:=out,died:=g.died++[n]})
 | [],l',k,h=>by
   unfold zb2 at h;cases h;exact⟨rfl,fun i g' hg=>by simp at hg⟩
 |g::l,l',k,h=>by
  unfold zb2 at h;have step:∀ {r:List Grave} {g':Grave},zb2 s n day bC (k+1) l=some r->l'=g'::r->(g'=g/\zdw s n day k g=false\/zdw s n day k g=true/\∃h out,bC=some h/\zbC (zaf g.holders n) h (zau g.holders n)=some out/\g'= {g with holders:=out,died:=g.died++[n]})->
   l'.length=(g::l).length/\∀(i:Nat) g',l'[i]?=some g'->∃x,(g::l)[i]?=some x/\(g'=x/\zdw s n day (k+i) x=false\/zdw s n day (k+i) x=true/\∃h out,bC=some h/\zbC (zaf x.holders n) h (zau x.holders n)=some out/\g'= {x with holders:=out,died:=x.died++[n]}):=by
   intro r g' hr he hc;obtain⟨i1,i2⟩:=zm4 hr;subst he;refine⟨by simp[i1],fun i x hx=>?_⟩;cases i with
   |zero=>
    simp only[List.getElem?_cons_zero,Option.some.injEq]at hx;subst hx;exact⟨g,rfl,hc⟩
   |succ i=>
    obtain⟨y,y1,y2⟩:=i2 i x (by simpa using hx);exact⟨y,by simpa using y1,by rw[show k+(i+1)=k+1+i by omega];exact y2⟩
  split at h
  ·rename_i hh
   cases bC with
   |none=>simp at h
   |some hs=>
    dsimp only at h;rw[Option.bind_eq_some_iff]at h;obtain⟨out,h1,h2⟩:=h;rw[Option.map_eq_some_iff]at h2;obtain⟨r,h3,h4⟩:=h2;exact step h3 h4.symm (.inr ⟨hh,hs,out,rfl,h1,rfl⟩)
  ·rename_i hh
   rw[Option.map_eq_some_iff]at h;obtain⟨r,h3,h4⟩:=h;exact step h3 h4.symm (.inl ⟨rfl,by simpa using hh⟩)
theorem zm5{laws:List Law}{s s':St}{d:Deed}{last:Int}(h:GoodSt s last)(hd:OkD d)(hl:last<=d.day)(hk:d.kind=8)(bp:zaC laws=0)(ht:zdQ laws s d=(s',0)):GoodSt s' d.day:=by
 have h:=h.later hl;unfold zdQ at ht;split at ht
 ·simp at ht
 split at ht
 ·simp at ht
 rename_i gs aL
 simp only[Prod.mk.injEq,and_true]at ht;rw[<-ht];obtain⟨ag,gX⟩:=zm4 aL;have one:∀(i:Nat) g',gs[i]?=some g'->∃g,s.graves[i]?=some g/\GoodG g'/\g'.place=g.place/\∀e,zaR g' e=true->zaR g e=true:=by
  intro i g' fD;obtain⟨g,g1,g2⟩:=gX i g' fD;have aW:=h.graves g (List.mem_of_getElem? g1);rcases g2 with⟨rfl,_⟩|⟨hh,hs,out,e1,e2,rfl⟩
  ·exact⟨g',g1,aW,rfl,fun _=>id⟩
  ·unfold zdw at hh;rw[Bool.and_eq_true]at hh;have au:zaf g.holders d.frm≠0:=by simpa using hh.1
   obtain⟨k1,k2,k3⟩:=ze9 (h.wills d.frm) (zfe bp d.day) e1;exact⟨g,g1,zlh aW au k1 k2 e2,rfl,fun e=>zeB (zdr au)⟩
 refine {h with graves:=fun x hx=>?_,force:=fun a b ga gb ha hb fK e he f1 f2=>?_,dead:=fun n hn=>?_}
 ·obtain⟨i,hi⟩:=List.mem_iff_getElem?.1 hx;exact(one i x hi).elim fun _ hg=>hg.2.1
 ·obtain⟨ga',a1,_,a2,a3⟩:=one a ga ha;obtain⟨gb',b1,_,b2,b3⟩:=one b gb hb;exact h.force a b ga' gb' a1 b1 (by rw[<-a2,<-b2,fK]) e he (a3 e f1) (b3 e f2)
 ·rcases List.mem_append.1 hn with hn|hn
  ·exact h.dead n hn
  ·rw[List.mem_singleton.1 hn];exact zgj (hd.frm (by omega))
theorem zf2{laws:List Law}{s s':St}{d:Deed}{last:Int}(h:GoodSt s last)(hd:OkD d)(hl:last<=d.day)(bp:zaC laws=0)(ht:zbr laws s d=(s',0)):GoodSt s' d.day:=by
 have hk:=hd.kind;unfold zbr at ht;split at ht
 ·rename_i k;exact zm0 h hd hl (by simpa using k) ht
 split at ht
 ·rename_i k;exact zjr h hd hl (by simpa using k) ht
 split at ht
 ·exact zin h hl ht
 split at ht
 ·exact zm1 h hl ht
 split at ht
 ·rename_i k;exact zox h hd hl (by simpa using k) ht
 split at ht
 ·exact zjs h hl ht
 split at ht
 ·rename_i k;exact zm3 h hd hl (by simpa using k) ht
 split at ht
 ·rename_i k;exact zm2 h hd hl (by simpa using k) ht
 ·rename_i k0 k1 k2 k3 k4 k5 k6 k7
  simp only[beq_iff_eq]at k0 k1 k2 k3 k4 k5 k6 k7;exact zm5 h hd hl (by omega) bp ht
theorem zbu(x:ByteArray×Rat)(l:Parts)(n:ByteArray):zaf (x::l) n=if zae x.1 n then x.2 else zaf l n:=by
 unfold zaf;rw[List.find?_cons];split
 ·rename_i h;rw[if_pos h];rfl
 ·rename_i h;rw[if_neg (by simpa using h)]
theorem zio{n:ByteArray}{q:Rat}:∀ {l:Parts},GoodParts l->∀m,zaf (za3 l n q) m=if zae m n then zaf l n+q else zaf l m
 | [],_,m=>by
   unfold za3;split
   ·rename_i h
    have:q=0:=by simpa using h
    subst this;split
    ·rename_i hs;rw[zap.1 hs];grind
    ·rfl
   ·rw[zbu];by_cases hs:m=n
    ·rw[if_pos (zap.2 hs.symm),if_pos (zap.2 hs)];show q=zaf [] n+q;have:zaf [] n=0:=rfl;grind
    ·rw[if_neg (by rw[zap];exact fun e=>hs e.symm),if_neg (by rw[zap];exact hs)]
 |x::r,⟨h1,h2⟩,m=>by
  have hr:GoodParts r:=⟨(List.pairwise_cons.1 h1).2,fun p hp=>h2 p (by simp[hp])⟩
  have hx:=(List.pairwise_cons.1 h1).1;unfold za3;split
  ·rename_i h
   have:q=0:=by simpa using h
   subst this;split
   ·rename_i hs;rw[zap.1 hs];grind
   ·rfl
  ·split
   ·rename_i hl
    have ai:=zc8 hl;have ih:=zio (n:=n) (q:=q) hr m;rw[zbu,ih,zbu,zbu];by_cases hs:m=n
    ·subst hs;rw[if_neg (by rw[zap];exact ai),if_pos (zbE m),if_pos (zbE m),if_neg (by rw[zap];exact ai)]
    ·rw[if_neg (c:=zae m n=true) (by rw[zap];exact hs),if_neg (c:=zae m n=true) (by rw[zap];exact hs)]
   ·split
    ·rename_i hs
     have e:=zap.1 hs;rw[zbu,zbu,zbu];by_cases hm:m=n
     ·subst hm;rw[if_pos (zbE m),if_pos (zbE m),if_pos hs]
     ·rw[if_neg (by rw[zap];exact fun k=>hm k.symm),if_neg (by rw[zap];exact hm),if_neg (by rw[zap,e];exact fun k=>hm k.symm)]
    ·rename_i hl hs
     have jt:∀p∈x::r,p.1≠n:=by
      intro p hp e;rcases List.mem_cons.1 hp with rfl|hp
      ·exact hs (zap.2 e)
      ·rcases zdg x.1 n with k|k|k
       ·exact hl k
       ·exact hs (zap.2 k)
       ·have:=zb6 k (hx p hp);rw[e,zfc]at this;cases this
     have h0:=(zdK jt).1;rw[zbu];by_cases hm:m=n
     ·subst hm;rw[if_pos (zbE m),if_pos (zbE m),h0];grind
     ·rw[if_neg (by rw[zap];exact fun k=>hm k.symm),if_neg (by rw[zap];exact hm)]
theorem zdF{n m:ByteArray}:∀ {l:Parts},zaf (zau l n) m=if zae m n then 0 else zaf l m
 | []=>by
   have e:zaf (zau [] n) m=0:=rfl;have e2:zaf [] m=0:=rfl;rw[e,e2];split<;>rfl
 |x::r=>by
  have ih:=zdF (n:=n) (m:=m) (l:=r);by_cases hx:x.1=n
  ·have e:zau (x::r) n=zau r n:=by
    unfold zau;rw[List.filter_cons,zap.2 hx];rfl
   rw[e,ih,zbu];by_cases hm:m=n
   ·rw[if_pos (zap.2 hm),if_pos (zap.2 hm)]
   ·rw[if_neg (by rw[zap];exact hm),if_neg (by rw[zap];exact hm),if_neg (by rw[zap,hx];exact fun k=>hm k.symm)]
  ·have e:zau (x::r) n=x::zau r n:=by
    unfold zau;rw[List.filter_cons,zcl.2 hx];rfl
   rw[e,zbu,ih,zbu];by_cases hm:m=n
   ·rw[if_pos (c:=zae m n=true) (zap.2 hm),if_pos (c:=zae m n=true) (zap.2 hm),if_neg (by rw[zap,hm];exact hx)]
   ·rw[if_neg (c:=zae m n=true) (by rw[zap];exact hm),if_neg (c:=zae m n=true) (by rw[zap];exact hm)]
theorem share_mem{l:Parts}(h:GoodParts l){p:ByteArray×Rat}(hp:p∈l):zaf l p.1=p.2:=by
 induction l with
 |nil=>cases hp
 |cons x r ih=>
  obtain⟨h1,h2⟩:=h;have hr:GoodParts r:=⟨(List.pairwise_cons.1 h1).2,fun p hp=>h2 p (by simp[hp])⟩
  have hx:=(List.pairwise_cons.1 h1).1;rw[zbu];rcases List.mem_cons.1 hp with rfl|hp
  ·rw[if_pos (zbE _)]
  ·rw[if_neg (by rw[zap];exact zc8 (hx p hp)),ih hr hp]
theorem zhs:∀(a b:List UInt8),decide (Lib.compareBytes a b<0)=Op.bytesLess a b
 | [],[]=>by simp[Lib.compareBytes,Op.bytesLess]
 | [],_::_=>by simp[Lib.compareBytes,Op.bytesLess]
 |_::_,[]=>by simp[Lib.compareBytes,Op.bytesLess]
 |a::xs,b::ys=>by
  have ih:=zhs xs ys;unfold Lib.compareBytes Op.bytesLess;by_cases he:a=b
  ·subst he;simp[UInt8.lt_irrefl,ih]
  ·by_cases h1:a<b
   ·simp[h1]
   ·have h2:b<a:=(UInt8.lt_or_lt_of_ne he).resolve_left h1;simp[h1,h2,he]
theorem zgk:∀(a b:List UInt8),(Lib.compareBytes a b==0)=(a==b)
 | [],[]=>by simp[Lib.compareBytes]
 | [],_::_=>by simp[Lib.compareBytes]
 |_::_,[]=>by simp[Lib.compareBytes]
 |a::xs,b::ys=>by
  have ih:=zgk xs ys;unfold Lib.compareBytes;by_cases he:a=b
  ·subst he;simpa[UInt8.lt_irrefl]using ih
  ·by_cases h1:a<b
   ·simp[h1,he]
   ·have h2:b<a:=(UInt8.lt_or_lt_of_ne he).resolve_left h1;simp[h1,h2,he]
def cmpN(a b:ByteArray):Int:=Lib.compareBytes a.data.toList b.data.toList
theorem znD(a b:ByteArray):decide (cmpN a b<0)=zbb a b:=by
 unfold cmpN zbb;rw[zhs,ByteArray.toList_eq,ByteArray.toList_eq]
theorem cmpN_zero(a b:ByteArray):(cmpN a b==0)=zae a b:=by
 unfold cmpN zae;rw[zgk,ByteArray.toList_eq,ByteArray.toList_eq]
def AscP(l:Parts):Prop:=l.Pairwise fun a b=>zbb a.1 b.1=true
theorem less_up{a b n:ByteArray}(cJ:zbb a b=true)(h:zbb a n=false):zbb b n=false:=by
 cases hb:zbb b n
 ·rfl
 ·rw[zb6 cJ hb]at h;cases h
def zdU:Parts->ByteArray->Bool
 | [],_=>false
 |p::_,n=>zae p.1 n
def setP:Parts->ByteArray->Rat->Parts
 | [],n,q=>if q==0 then[]else[(n,q)]
 |p::r,n,q=>if zbb p.1 n then p::setP r n q else if zae p.1 n then(if q==0 then r else(n,q)::r)else if q==0 then p::r else(n,q)::p::r
theorem zev{n:ByteArray}{q:Rat}:∀ {A B:Parts},(∀p∈A,zbb p.1 n=true)->setP (A++B) n q=A++setP B n q
 | [],B,_=>rfl
 |a::A,B,h=>by
  rw[List.cons_append,setP,if_pos (h a (by simp)),zev fun p hp=>h p (by simp[hp])];rfl
theorem zgl{a b:ByteArray}(h:zbb a b=true):zae a b=false:=zcl.2 (zc8 h)
theorem zfO{n:ByteArray}:∀ {A B:Parts},(∀p∈A,zbb p.1 n=true)->zaf (A++B) n=zaf B n
 | [],B,_=>rfl
 |a::A,B,h=>by
  rw[List.cons_append,zbu,zgl (h a (by simp)),if_neg (by simp),zfO fun p hp=>h p (by simp[hp])]
theorem zhD{A B:Parts}(h:AscP (A++B)):AscP B:=(List.pairwise_append.1 h).2.1
theorem znE{n:ByteArray}:∀ {B:Parts},(∀p∈B,zbb p.1 n=false)->AscP B->zdU B n=false->zaf B n=0
 | [],_,_,_=>rfl
 |b::B,h,ha,hh=>by
  have jb:=List.pairwise_cons.1 ha;have hb:b.1≠n:=zcl.1 hh;have fZ:zbb n b.1=true:=by
   rcases zdg b.1 n with h1|h1|h1
   ·rw[h b (by simp)]at h1;cases h1
   ·exact absurd h1 hb
   ·exact h1
  exact(zdK fun p hp=>by
   rcases List.mem_cons.1 hp with rfl|hp
   ·exact hb
   ·exact(zc8 (zb6 fZ (jb.1 p hp))).symm).1
theorem zfP{n:ByteArray}{q:Rat}:∀ {A B:Parts},(∀p∈A,zbb p.1 n=true)->za3 (A++B) n q=A++za3 B n q
 | [],B,_=>rfl
 |a::A,B,h=>by
  rw[List.cons_append,za3];by_cases hq:q==0
  ·rw[if_pos hq];have:za3 B n q=B:=by
    cases B with
    |nil=>simp[za3,hq]
    |cons b B=>simp[za3,hq]
   rw[this];rfl
  ·rw[if_neg hq,if_pos (h a (by simp)),zfP fun p hp=>h p (by simp[hp])];rfl
theorem zhE(l:Parts)(h:AscP l)(n:ByteArray):∃A B,l=A++B/\(∀p∈A,zbb p.1 n=true)/\(∀p∈B,zbb p.1 n=false):=by
 induction l with
 |nil=>exact⟨[],[],rfl,by simp,by simp⟩
 |cons p l ih=>
  have hp:=List.pairwise_cons.1 h;cases hl:zbb p.1 n
  ·refine⟨[],p::l,rfl,by simp,fun x hx=>?_⟩;rcases List.mem_cons.1 hx with rfl|hx
   ·exact hl
   ·exact less_up (hp.1 x hx) hl
  ·obtain⟨A,B,rfl,h1,h2⟩:=ih hp.2;refine⟨p::A,B,rfl,fun x hx=>?_,h2⟩;rcases List.mem_cons.1 hx with rfl|hx
   ·exact hl
   ·exact h1 x hx
theorem zip{l:Parts}(h:GoodParts l){n:ByteArray}{q:Rat}(hq:0<=q):setP l n (zaf l n+q)=za3 l n q:=by
 obtain⟨A,B,rfl,h1,h2⟩:=zhE l h.1 n;rw[zev h1,zfO h1,zfP h1];congr 1
 have hB:=zhD h.1;cases B with
 |nil=>
  show(if(0:Rat)+q==0 then[]else[(n,0+q)])=if q==0 then[]else[(n,q)];rw[Rat.zero_add]
 |cons b B=>
  have hb:=h2 b (by simp);have Kj:0<b.2:=h.2 b (by simp);cases hs:zae b.1 n
  ·have h0:zaf (b::B) n=0:=znE h2 hB hs;rw[h0,Rat.zero_add,setP,za3,hb,hs];simp
  ·rw[zbu,hs,if_pos rfl,setP,za3,hb,hs];have ai:(b.2+q==0)=false:=by
    rw[beq_eq_false_iff_ne];intro e;grind
   rw[ai];by_cases hz:q==0
   ·have:q=0:=by simpa using hz
    subst this;have gZ:b.1=n:=zap.1 hs;simp[Rat.add_zero,<-gZ]
   ·simp[hz]
theorem zhF{l:Parts}(h:AscP l)(n:ByteArray):setP l n 0=zau l n:=by
 obtain⟨A,B,rfl,h1,h2⟩:=zhE l h n;rw[zev h1];unfold zau;rw[List.filter_append,List.filter_eq_self.2 fun p hp=>by rw[zgl (h1 p hp)];rfl];congr 1
 have hB:=zhD h;cases B with
 |nil=>rfl
 |cons b B=>
  have hb:=h2 b (by simp);have cK:=List.pairwise_cons.1 hB;rw[setP,hb];cases hs:zae b.1 n
  ·have fZ:zbb n b.1=true:=by
    rcases zdg b.1 n with h3|h3|h3
    ·rw[hb]at h3;cases h3
    ·exact absurd h3 (zcl.1 hs)
    ·exact h3
   have e:(b::B).filter (fun p=>!zae p.1 n)=b::B:=List.filter_eq_self.2 fun p hp=>by
    rcases List.mem_cons.1 hp with rfl|hp
    ·rw[hs];rfl
    ·rw[zcl.2 (zc8 (zb6 fZ (cK.1 p hp))).symm];rfl
   rw[e];simp
  ·have gZ:b.1=n:=zap.1 hs;have e:(b::B).filter (fun p=>!zae p.1 n)=B:=by
    rw[List.filter_cons,hs,if_neg (by simp)];exact List.filter_eq_self.2 fun p hp=>by rw[zcl.2 (gZ▸(zc8 (cK.1 p hp)).symm)];rfl
   rw[e];simp
theorem ziq{l:Parts}(h:AscP l)(n:ByteArray)(q:Rat):setP l n q=if q==0 then zau l n else za3 (zau l n) n q:=by
 by_cases hq:q==0
 ·rw[if_pos hq];have:q=0:=by simpa using hq
  rw[this];exact zhF h n
 ·rw[if_neg hq];obtain⟨A,B,rfl,h1,h2⟩:=zhE l h n;rw[zev h1];have hA:zau (A++B) n=A++zau B n:=by
   unfold zau;rw[List.filter_append,List.filter_eq_self.2 fun p hp=>by rw[zgl (h1 p hp)];rfl]
  rw[hA,zfP h1];congr 1
  have hB:=zhD h;rw[<-zhF hB n];cases B with
  |nil=>simp[setP,za3,hq]
  |cons b B=>
   have hb:=h2 b (by simp);have cK:=List.pairwise_cons.1 hB;have fw:(q==0)=false:=by simpa using hq
   have e0:setP (b::B) n 0=if zae b.1 n then B else b::B:=by rw[setP,hb];simp
   have e1:setP (b::B) n q=if zae b.1 n then(n,q)::B else(n,q)::b::B:=by rw[setP,hb,fw];simp
   rw[e0,e1];cases hs:zae b.1 n
   ·simp only[Bool.false_eq_true,if_false];rw[za3,fw,hb,hs];simp
   ·have gZ:b.1=n:=zap.1 hs;simp only[if_true];cases B with
    |nil=>rw[za3,fw];simp
    |cons c B=>
     have hc:zbb n c.1=true:=gZ▸cK.1 c (by simp);rw[za3,fw,zgT hc,zcl.2 (zc8 hc).symm];simp
theorem zkr{n:ByteArray}{q:Rat}:∀ {l:Parts} {p:ByteArray×Rat},p∈setP l n q->p=(n,q)\/p∈l
 | [],p,h=>by
   unfold setP at h;split at h
   ·simp at h
   ·exact .inl (by simpa using h)
 |x::l,p,h=>by
  unfold setP at h;split at h
  ·rcases List.mem_cons.1 h with rfl|h
   ·exact .inr (by simp)
   ·rcases zkr h with h|h
    ·exact .inl h
    ·exact .inr (by simp[h])
  ·split at h
   ·split at h
    ·exact .inr (by simp[h])
    ·rcases List.mem_cons.1 h with rfl|h
     ·exact .inl rfl
     ·exact .inr (by simp[h])
   ·split at h
    ·exact .inr h
    ·rcases List.mem_cons.1 h with rfl|h
     ·exact .inl rfl
     ·exact .inr h
theorem set_asc{l:Parts}(h:AscP l)(n:ByteArray)(q:Rat):AscP (setP l n q):=by
 obtain⟨A,B,rfl,h1,h2⟩:=zhE l h n;rw[zev h1];obtain⟨hA,hB,tU⟩:=List.pairwise_append.1 h;have eE:∀b∈B,zae b.1 n=false->zbb n b.1=true:=fun b hb hs=>by
  rcases zdg b.1 n with h3|h3|h3
  ·rw[h2 b hb]at h3;cases h3
  ·exact absurd h3 (zcl.1 hs)
  ·exact h3
 cases B with
 |nil=>
  rw[setP];split
  ·rw[List.append_nil];exact hA
  ·exact List.pairwise_append.2 ⟨hA,List.pairwise_singleton _ _,fun a ha b hb=>by
    rw[List.mem_singleton.1 hb];exact h1 a ha⟩
 |cons b B=>
  have cK:=List.pairwise_cons.1 hB;rw[setP,h2 b (by simp),if_neg (by simp)];cases hs:zae b.1 n
  ·rw[if_neg (by simp)];split
   ·exact h
   ·refine List.pairwise_append.2 ⟨hA,List.pairwise_cons.2 ⟨fun x hx=>?_,hB⟩,fun a ha x hx=>?_⟩
    ·rcases List.mem_cons.1 hx with rfl|hx
     ·exact eE _ (by simp) hs
     ·exact zb6 (eE b (by simp) hs) (cK.1 x hx)
    ·rcases List.mem_cons.1 hx with rfl|hx
     ·exact h1 a ha
     ·exact tU a ha x hx
  ·have gZ:b.1=n:=zap.1 hs;rw[if_pos rfl];split
   ·exact List.pairwise_append.2 ⟨hA,cK.2,fun a ha x hx=>tU a ha x (by simp[hx])⟩
   ·refine List.pairwise_append.2 ⟨hA,List.pairwise_cons.2 ⟨fun x hx=>?_,cK.2⟩,fun a ha x hx=>?_⟩
    ·exact gZ▸cK.1 x hx
    ·rcases List.mem_cons.1 hx with rfl|hx
     ·exact h1 a ha
     ·exact tU a ha x (by simp[hx])
end
section
open Go.RowKit Go.Shelf
def zli:Go.Shelf.Ren:=⟨fun|6=>178|15=>55|14=>192|28=>93|29=>94|20=>206|21=>207|22=>208|23=>209|24=>210|25=>211|26=>212|27=>213|46=>219|47=>117|48=>118|49=>220|50=>221|57=>222|n=>n,fun|22=>48|24=>64|25=>220|3=>3|39=>120|0=>0|53=>155|55=>157|4=>4|46=>149|45=>148|50=>116|5=>5|9=>9|66=>171|70=>175|76=>197|77=>198|n=>n,fun|n=>n⟩
theorem znF:Go.Proofs.SlLaysF0.n6 Tryz.prog zli:= {
 mixed:=by kernel_rfl
 f6:=⟨Tryz.f178.name,by decide,Tryz.func178.trans (congrArg some (by kernel_rfl))⟩
 f14:=⟨Tryz.f192.name,by decide,Tryz.func192.trans (congrArg some (by kernel_rfl))⟩
 f15:=Tryz.func55.trans (congrArg some (by kernel_rfl))
 f20:=⟨Tryz.f206.name,by decide,Tryz.func206.trans (congrArg some (by kernel_rfl))⟩
 f21:=⟨Tryz.f207.name,by decide,Tryz.func207.trans (congrArg some (by kernel_rfl))⟩
 f22:=⟨Tryz.f208.name,by decide,Tryz.func208.trans (congrArg some (by kernel_rfl))⟩
 f23:=⟨Tryz.f209.name,by decide,Tryz.func209.trans (congrArg some (by kernel_rfl))⟩
 f24:=⟨Tryz.f210.name,by decide,Tryz.func210.trans (congrArg some (by kernel_rfl))⟩
 f25:=⟨Tryz.f211.name,by decide,Tryz.func211.trans (congrArg some (by kernel_rfl))⟩
 f26:=⟨Tryz.f212.name,by decide,Tryz.func212.trans (congrArg some (by kernel_rfl))⟩
 f27:=⟨Tryz.f213.name,by decide,Tryz.func213.trans (congrArg some (by kernel_rfl))⟩
 f28:=Tryz.func93.trans (congrArg some (by kernel_rfl))
 f29:=Tryz.func94.trans (congrArg some (by kernel_rfl))
 f46:=⟨Tryz.f219.name,by decide,Tryz.func219.trans (congrArg some (by kernel_rfl))⟩
 f47:=Tryz.func117.trans (congrArg some (by kernel_rfl))
 f48:=Tryz.func118.trans (congrArg some (by kernel_rfl))
 f49:=⟨Tryz.f220.name,by decide,Tryz.func220.trans (congrArg some (by kernel_rfl))⟩
 f50:=⟨Tryz.f221.name,by decide,Tryz.func221.trans (congrArg some (by kernel_rfl))⟩
 f57:=⟨Tryz.f222.name,by decide,Tryz.func222.trans (congrArg some (by kernel_rfl))⟩
 t0:=Tryz.underlying0
 a0:=Tryz.isAgg0
 z0:=Tryz.sizeOf0
 v0:=Tryz.zeroValue0
 t3:=Tryz.underlying3
 a3:=Tryz.isAgg3
 z3:=Tryz.sizeOf3
 v3:=Tryz.zeroValue3
 t4:=Tryz.underlying4
 a4:=Tryz.isAgg4
 z4:=Tryz.sizeOf4
 v4:=Tryz.zeroValue4
 t5:=Tryz.underlying5
 a5:=Tryz.isAgg5
 z5:=Tryz.sizeOf5
 v5:=Tryz.zeroValue5
 t9:=Tryz.underlying9
 a9:=Tryz.isAgg9
 z9:=Tryz.sizeOf9
 v9:=Tryz.zeroValue9
 t22:=Tryz.underlying48
 a22:=Tryz.isAgg48
 z22:=Tryz.sizeOf48
 v22:=Tryz.zeroValue48
 t25:=Tryz.underlying220
 a25:=Tryz.isAgg220
 z25:=Tryz.sizeOf220
 v25:=Tryz.zeroValue220
 t39:=Tryz.underlying120
 a39:=Tryz.isAgg120
 z39:=Tryz.sizeOf120
 v39:=Tryz.zeroValue120
 t45:=Tryz.underlying148
 a45:=Tryz.isAgg148
 z45:=Tryz.sizeOf148
 v45:=Tryz.zeroValue148
 t46:=Tryz.underlying149
 a46:=Tryz.isAgg149
 z46:=Tryz.sizeOf149
 v46:=Tryz.zeroValue149
 t50:=Tryz.underlying116
 a50:=Tryz.isAgg116
 z50:=Tryz.sizeOf116
 v50:=Tryz.zeroValue116
 t53:=Tryz.underlying155
 a53:=Tryz.isAgg155
 z53:=Tryz.sizeOf155
 v53:=Tryz.zeroValue155
 t55:=Tryz.underlying157
 a55:=Tryz.isAgg157
 z55:=Tryz.sizeOf157
 v55:=Tryz.zeroValue157
 t66:=Tryz.underlying171
 a66:=Tryz.isAgg171
 z66:=Tryz.sizeOf171
 v66:=Tryz.zeroValue171
 t70:=Tryz.underlying175
 a70:=Tryz.isAgg175
 z70:=Tryz.sizeOf175
 v70:=Tryz.zeroValue175
 t76:=Tryz.underlying197
 a76:=Tryz.isAgg197
 z76:=Tryz.sizeOf197
 v76:=Tryz.zeroValue197
 t77:=Tryz.underlying198
 a77:=Tryz.isAgg198
 z77:=Tryz.sizeOf198
 v77:=Tryz.zeroValue198}
end
section
open Go.RowKit
def ofP(l:List Rec)(set:List Nat):List Rec:=set.filterMap fun i=>l[i]?
def zdb(n set:Nat):List Nat:=(List.range n).filter fun i=>set.testBit i
theorem zoy:∀a b:Fin 64,a.val*64+b.val≠0->zdb 12 (a.val*64+b.val)=Lib.ctz 64 (a.val*64+b.val)::zdb 12 ((a.val*64+b.val) &&& (a.val*64+b.val-1)):=by decide+kernel
theorem zoz(x:Nat)(hx:x<4096)(h0:x≠0):zdb 12 x=Lib.ctz 64 x::zdb 12 (x &&& (x-1)):=by
 have h:=zoy ⟨x/64,by omega⟩ ⟨x%64,by omega⟩;have e:x/64*64+x%64=x:=by omega
 simp only[e]at h;exact h h0
theorem bits_up{n x:Nat}(hn:n<=12)(hx:x<2^n):zdb n x=zdb 12 x:=by
 unfold zdb;have h:List.range 12=List.range n++(List.range (12-n)).map (n+ ·):=by
  rw[<-List.range_add];congr 1
  omega
 rw[h,List.filter_append];have h2:((List.range (12-n)).map (n+ ·)).filter (fun i=>x.testBit i)=[]:=by
  rw[List.filter_eq_nil_iff];intro i hi;obtain⟨j,_,rfl⟩:=List.mem_map.1 hi;have:x.testBit (n+j)=false:=Nat.testBit_lt_two_pow (Nat.lt_of_lt_of_le hx (Nat.pow_le_pow_right (by decide) (by omega)));rw[this];decide
 rw[h2,List.append_nil]
theorem zir{n x:Nat}(hx:x<2^n):x &&& (x-1)<2^n:=Nat.lt_of_le_of_lt Nat.and_le_left hx
theorem bits_step{n x:Nat}(hn:n<=12)(hx:x<2^n)(h0:x≠0):zdb n x=Lib.ctz 64 x::zdb n (x &&& (x-1)):=by
 have nB:x<4096:=Nat.lt_of_lt_of_le hx (Nat.pow_le_pow_right (n:=2) (by decide) hn);rw[bits_up hn hx,bits_up hn (zir hx)];exact zoz x nB h0
theorem bits_none(n:Nat):zdb n 0=[]:=by
 unfold zdb;rw[List.filter_eq_nil_iff];intro i _;simp
theorem zlj{x:Nat}(h0:x≠0):x &&& (x-1)<x:=Nat.lt_of_le_of_lt Nat.and_le_right (by omega)
end
section
open Go.RowKit
theorem rAbs_any(n:Int)(w:World)(h:n.natAbs<=4611686018427387904):Calls Tryz.prog 152 #[.int .i64 n] w (Ret0 w (.int .i64 (n.natAbs:Int))):=by
 have h0: -4611686018427387904<=n:=by omega
 have h1:n<=4611686018427387904:=by omega
 have hw:IntKind.i64.wrap (-n)= -n:=by rw[IntKind.wrap_i64];omega
 clear h;go_enter Tryz.func152,Tryz.ntmps152
 by_cases h:n<0
 ·go_wp2_with fail
  go_ret
  exact⟨by rw[show((n.natAbs:Nat):Int)= -n by omega];first|rfl|(show Ending.returned (Value.int .i64 (max n (-n)))=_;rw[show max n (-n)= -n by omega]),rfl⟩
 ·by_cases h2:n=0
  ·subst h2;go_wp2_with fail
   go_ret
   exact⟨rfl,rfl⟩
  ·go_wp2_with fail
   go_ret
   exact⟨by rw[show((n.natAbs:Nat):Int)=n by omega];first|rfl|(show Ending.returned (Value.int .i64 (max n (-n)))=_;rw[show max n (-n)=n by omega]),rfl⟩
theorem znG(a b:Int)(w:World)(ha:a.natAbs<=4611686018427387904)(hb:b.natAbs<=4611686018427387904):Calls Tryz.prog 122 #[.int .i64 a,.int .i64 b] w (Ret w (.int .i64 (Int.gcd a b))):=by
 go_enter Tryz.func122,Tryz.ntmps122
 go_wp2_with fail
 go_loopw [0,1] (fun x y wr=>∃p q:Int,x=.int .i64 p/\y=.int .i64 q/\p.natAbs<=4611686018427387904/\q.natAbs<=4611686018427387904/\Hid (Int.gcd a b=Int.gcd p q)/\∃z,wr=w.ext z) (fun _ y _=>(intOf y).natAbs)
 case atStart=>exact⟨a,b,rfl,rfl,ha,hb,rfl,zaZ (Below.refl _ _)⟩
 case round=>
  obtain⟨p,q,rfl,rfl,hp,hq,HG,z,rfl⟩:=hrel;by_cases hz:q=0
  ·subst hz;have HP:=zHi hp;clear hp hq;go_wp2_with (go_at_call 152;go_must(refine(rAbs_any _ _ HP.o).mono ?_);rintro e wq ⟨rfl,rfl⟩)
   go_ret
   exact Ret.of (zbB (by rw[HG.o];simp[Int.gcd])) Bw
  ·have fw:(q==0)=false:=by simp[hz]
   have hm:=tmod_lt p q hz;have hG:=zHi (zn7 p q);have uB:IntKind.i64.wrap (p.tmod q)=p.tmod q:=IntWalk.i64_in _ (by omega);go_wp2_with fail
   go_quiet (fail)
   go_wp2_with fail
   all_goals(first
    |(go_round
      case rel=>exact⟨q,p.tmod q,rfl,rfl,hq,by omega,by show _=_;rw[HG.o,hG.o],zaZ Bw⟩
      case measure=>simp only[intOf];omega))
theorem zeC(a b:Int)(w:World)(ha:a.natAbs<=4611686018427387904)(ba:0<b)(hb:b<=4611686018427387904):Calls Tryz.prog 181 #[.int .i64 a,.int .i64 b] w (Ret w (zaA (Rat.divInt a b))):=by
 have hg:=zn8 (a:=a) ba;obtain⟨g,HG⟩:∃g:Int,g=(Int.gcd a b:Int):=⟨_,rfl⟩
 have oI:0<g:=by omega
 have sB:(g==0)=false:=by simp;omega
 have e1:a.tdiv g=(Rat.divInt a b).num:=by rw[zfw ba,HG,zeo (Int.gcd_dvd_left ..)]
 have e2:b.tdiv g=((Rat.divInt a b).den:Int):=by rw[zen ba,HG,zeo (Int.gcd_dvd_right ..)]
 have n1:(a.tdiv g).natAbs<=4611686018427387904:=Nat.le_trans (Int.natAbs_tdiv_le_natAbs _ _) ha;have n2:(b.tdiv g).natAbs<=4611686018427387904:=Nat.le_trans (Int.natAbs_tdiv_le_natAbs _ _) (by omega);have w1:wrap64 (a.tdiv g)=a.tdiv g:=by unfold wrap64;omega
 have w2:wrap64 (b.tdiv g)=b.tdiv g:=by unfold wrap64;omega
 have HA:=zHi ha;have gZ:b.natAbs<=4611686018427387904:=by omega
 have Kj:¬b<0:=by omega
 obtain⟨HB,E1,E2⟩:=yH3 gZ e1 e2;clear ha hb ba hg e1 e2 n1 n2 gZ;go_enter Tryz.func181,Tryz.ntmps181
 go_wp2_with (go_at_call 122;refine(znG _ _ _ HA.o HB.o).mono ?_;rintro e w1 ⟨rfl,z1,rfl⟩;rw[<-HG])
 go_region
 go_wp2_with fail
 refine bodyPost_ret (v:=zaA (Rat.divInt a b)) ?_ rfl ?_
 ·refine zaS rfl _ _ w.heap.size _ _ rfl ?_ ?_
  ·rw[<-E1.o];simp[go_sem];rw[<-HG];exact w1
  ·rw[<-E2.o];simp[go_sem];rw[<-HG];exact w2
 ·exact Ret.of rfl Bw
theorem rAddI(a b c d:Int)(w:World)(ha:a.natAbs<=1000000000)(hb:b.natAbs<=1000000000)(hc:c.natAbs<=1000000000)(hd:d.natAbs<=1000000000)(ba:0<b)(io:0<d)(_h:True):Calls Tryz.prog 153 #[.agg #[.int .i64 a,.int .i64 b],.agg #[.int .i64 c,.int .i64 d]] w (Ret w (zaA (Rat.divInt (a*d+c*b) (b*d)))):=by
 have m1:=zaO ha hd;have m2:=zaO hc hb;have m3:=zaO hb hd;have m4:0<b*d:=Int.mul_pos ba io;obtain⟨m1,n1⟩:=m1;obtain⟨m2,n2⟩:=m2;obtain⟨m3,n3⟩:=m3;have w1:IntKind.i64.wrap (a*d)=a*d:=IntWalk.i64_in _ (by omega);have w2:IntKind.i64.wrap (c*b)=c*b:=IntWalk.i64_in _ (by omega);have w3:IntKind.i64.wrap (b*d)=b*d:=IntWalk.i64_in _ (by omega);have m5:=zaO ha hc;obtain⟨m5,n5⟩:=m5;have m6:=zaO hb hc;obtain⟨m6,n6⟩:=m6;have w5:IntKind.i64.wrap (a*c)=a*c:=IntWalk.i64_in _ (by omega);have w6:IntKind.i64.wrap (b*c)=b*c:=IntWalk.i64_in _ (by omega);have hs:(a*d+c*b).natAbs<=4611686018427387904:=by omega
 have hl:(b*d)<=4611686018427387904:=by omega
 have h4:0<(b*d):=m4;obtain⟨HS,HL,H4⟩:=yH3 hs hl h4;clear hs hl m4 h4 ha hb hc hd;go_enter Tryz.func153,Tryz.ntmps153
 go_wp2_with (go_at_call 181;go_must(refine(zeC _ _ _ HS.o H4.o HL.o).mono ?_);rintro e w1 ⟨rfl,z1,rfl⟩;simp only[zaA])
 refine bodyPost_ret (v:=zaA (Rat.divInt (a*d+c*b) (b*d))) ?_ rfl ?_
 ·refine zaS rfl _ _ _ _ _ rfl ?_ ?_
  ·simp[go_sem]
  ·simp[go_sem]
 ·exact Ret.of rfl Bw
theorem znH(p q:Rat)(w:World)(cv:zaJ p)(dF:zaJ q):Calls Tryz.prog 153 #[zaA p,zaA q] w (Ret w (zaA (p+q))):=by
 rw[zj2];exact rAddI _ _ _ _ _ cv.1 (by have:=cv.2;omega) dF.1 (by have:=dF.2;omega) (zbX p) (zbX q) trivial
theorem rSubI(a b c d:Int)(w:World)(ha:a.natAbs<=1000000000)(hb:b.natAbs<=1000000000)(hc:c.natAbs<=1000000000)(hd:d.natAbs<=1000000000)(ba:0<b)(io:0<d)(_h:True):Calls Tryz.prog 159 #[.agg #[.int .i64 a,.int .i64 b],.agg #[.int .i64 c,.int .i64 d]] w (Ret w (zaA (Rat.divInt (a*d-c*b) (b*d)))):=by
 have m1:=zaO ha hd;have m2:=zaO hc hb;have m3:=zaO hb hd;have m4:0<b*d:=Int.mul_pos ba io;obtain⟨m1,n1⟩:=m1;obtain⟨m2,n2⟩:=m2;obtain⟨m3,n3⟩:=m3;have w1:IntKind.i64.wrap (a*d)=a*d:=IntWalk.i64_in _ (by omega);have w2:IntKind.i64.wrap (c*b)=c*b:=IntWalk.i64_in _ (by omega);have w3:IntKind.i64.wrap (b*d)=b*d:=IntWalk.i64_in _ (by omega);have m5:=zaO ha hc;obtain⟨m5,n5⟩:=m5;have m6:=zaO hb hc;obtain⟨m6,n6⟩:=m6;have w5:IntKind.i64.wrap (a*c)=a*c:=IntWalk.i64_in _ (by omega);have w6:IntKind.i64.wrap (b*c)=b*c:=IntWalk.i64_in _ (by omega);have hs:(a*d-c*b).natAbs<=4611686018427387904:=by omega
 have hl:(b*d)<=4611686018427387904:=by omega
 have h4:0<(b*d):=m4;obtain⟨HS,HL,H4⟩:=yH3 hs hl h4;clear hs hl m4 h4 ha hb hc hd;go_enter Tryz.func159,Tryz.ntmps159
 go_wp2_with (go_at_call 181;go_must(refine(zeC _ _ _ HS.o H4.o HL.o).mono ?_);rintro e w1 ⟨rfl,z1,rfl⟩;simp only[zaA])
 refine bodyPost_ret (v:=zaA (Rat.divInt (a*d-c*b) (b*d))) ?_ rfl ?_
 ·refine zaS rfl _ _ _ _ _ rfl ?_ ?_
  ·simp[go_sem]
  ·simp[go_sem]
 ·exact Ret.of rfl Bw
theorem zhG(p q:Rat)(w:World)(cv:zaJ p)(dF:zaJ q):Calls Tryz.prog 159 #[zaA p,zaA q] w (Ret w (zaA (p-q))):=by
 rw[zj3];exact rSubI _ _ _ _ _ cv.1 (by have:=cv.2;omega) dF.1 (by have:=dF.2;omega) (zbX p) (zbX q) trivial
theorem zis(w:World):Calls Tryz.prog 34 #[] w (Ret w (.agg #[.int .i64 0,.int .i64 1])):=by
 go_enter Tryz.func34,Tryz.ntmps34
 go_wp2_with fail
 refine bodyPost_ret (v:=.agg #[.int .i64 0,.int .i64 1]) ?_ rfl ?_
 ·refine zaS rfl _ _ w.heap.size _ _ rfl ?_ ?_
  ·simp[go_sem]
  ·simp[go_sem]
 ·exact Ret.of rfl Bw
end
section
variable {P:Program} {ops:Array Oper} {md:Region.Mode} {C:World->Prop}
end
