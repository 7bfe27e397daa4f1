/- Plain: the bits of a number, the lowest first. -/
import Derived.Shelf.SlicesQ.IndexFunc
import Derived.Shelf.SlicesE.IndexFunc
import Derived.Test.YtkhkhnellekofaaGreatDoorU0
import Derived.Test.YtkhkhnellekofaaGreatDoorN5
import Derived.Test.YtkhkhnellekofaaGreatDoorNG
import Derived.Shelf.Spec.TrailingZeros
set_option linter.unusedSimpArgs false
set_option linter.unusedVariables false
namespace Go.Proofs.YtkhkhnellekofaaGreatDoor
open Go.RowKit Go.Shelf
def cfPart_ren:Go.Shelf.Ren:=⟨fun|8=>100|6=>112|n=>n,fun|22=>53|23=>63|25=>135|4=>4|3=>3|0=>0|n=>n,fun|n=>n⟩
theorem cfPart:Go.Proofs.SlLaysH0.n8 Tryz.prog cfPart_ren:= {
 mixed:=by kernel_rfl
 f6:=⟨Tryz.f112.name,by decide,Tryz.func112.trans (congrArg some (by kernel_rfl))⟩
 f8:=⟨Tryz.f100.name,by decide,Tryz.func100.trans (congrArg some (by kernel_rfl))⟩
 t0:=Tryz.underlying0
 a0:=Tryz.isAgg0
 z0:=Tryz.sizeOf0
 v0:=Tryz.zeroValue0
 t3:=Tryz.underlying3
 a3:=Tryz.isAgg3
 z3:=Tryz.sizeOf3
 v3:=Tryz.zeroValue3
 t4:=Tryz.underlying4
 a4:=Tryz.isAgg4
 z4:=Tryz.sizeOf4
 v4:=Tryz.zeroValue4
 t22:=Tryz.underlying53
 a22:=Tryz.isAgg53
 z22:=Tryz.sizeOf53
 v22:=Tryz.zeroValue53
 t25:=Tryz.underlying135
 a25:=Tryz.isAgg135
 z25:=Tryz.sizeOf135
 v25:=Tryz.zeroValue135}
def cfRec_ren:Go.Shelf.Ren:=⟨fun|8=>67|6=>97|n=>n,fun|22=>22|23=>65|25=>68|4=>4|3=>3|0=>0|n=>n,fun|n=>n⟩
theorem cfRec:Go.Proofs.SlLaysH0.n8 Tryz.prog cfRec_ren:= {
 mixed:=by kernel_rfl
 f6:=⟨Tryz.f97.name,by decide,Tryz.func97.trans (congrArg some (by kernel_rfl))⟩
 f8:=⟨Tryz.f67.name,by decide,Tryz.func67.trans (congrArg some (by kernel_rfl))⟩
 t0:=Tryz.underlying0
 a0:=Tryz.isAgg0
 z0:=Tryz.sizeOf0
 v0:=Tryz.zeroValue0
 t3:=Tryz.underlying3
 a3:=Tryz.isAgg3
 z3:=Tryz.sizeOf3
 v3:=Tryz.zeroValue3
 t4:=Tryz.underlying4
 a4:=Tryz.isAgg4
 z4:=Tryz.sizeOf4
 v4:=Tryz.zeroValue4
 t22:=Tryz.underlying22
 a22:=Tryz.isAgg22
 z22:=Tryz.sizeOf22
 v22:=Tryz.zeroValue22
 t25:=Tryz.underlying68
 a25:=Tryz.isAgg68
 z25:=Tryz.sizeOf68
 v25:=Tryz.zeroValue68}
end Go.Proofs.YtkhkhnellekofaaGreatDoor
namespace Go.Proofs.YtkhkhnellekofaaGreatDoor
open Go.RowKit
mutual
def okT:Tree->Bool
 | .leaf _=>true
 | .node l=>!l.isEmpty&&okL l
def okL:List Tree->Bool
 | []=>true
 |x::l=>okT x&&okL l
end
theorem okL_iff: ∀ {l:List Tree},okL l=true↔ ∀x∈l,okT x=true
 | []=>by simp[okL]
 |x::l=>by rw[okL,Bool.and_eq_true,okL_iff];simp
theorem trees_ok (s:St) (stems:Bool) (frm:ByteArray): ∀(f:Nat) (n:ByteArray),okL (treesP s stems frm f n)=true
 |0,_=>rfl
 |f+1,n=>by
  rw[okL_iff]
  intro x hx
  rw[treesP,List.mem_filterMap]at hx
  obtain⟨c,_,hc⟩:=hx
  split at hc
  ·cases hc;rfl
  ·split at hc
   ·rename_i hs
    cases hc
    rw[Bool.and_eq_true]at hs
    rw[okT,hs.2,trees_ok s stems frm f c]
    rfl
   ·cases hc
theorem ratN {n:Nat} (h:n≠0):(n:Rat)≠0:=by
 intro e
 apply h
 have:((n:Int):Rat)=((0:Int):Rat):=by simpa using e
 have:=Rat.intCast_inj.1 this
 omega
theorem rat_div_nonneg {a b:Rat} (h:0<=a) (hb:0<=b):0<=a/b:=by
 rw[Rat.div_def]
 by_cases h0:b=0
 ·subst h0
  rw[Rat.inv_zero]
  grind
 ·have:0<b⁻¹:=Rat.inv_pos.2 (by grind)
  exact Rat.mul_nonneg h (by grind)
mutual
theorem spread_sum {each:Rat}: ∀ {l:List Tree} {out o:Parts},okL l=true->spreadP each l out=some o->sumQ o=sumQ out+each*(l.length:Rat)
 | [],out,o,_,h=>by
   rw[spreadP]at h
   cases h
   simp only[List.length_nil]
   have:((0:Nat):Rat)=0:=rfl
   grind
 |x::l,out,o,hk,h=>by
  rw[okL,Bool.and_eq_true]at hk
  rw[spreadP,Option.bind_eq_some_iff]at h
  obtain⟨o1,h1,h2⟩:=h
  have e1:=tree_sum hk.1 h1
  have e2:=spread_sum hk.2 h2
  rw[e2,e1,List.length_cons]
  have:((l.length+1:Nat):Rat)=(l.length:Rat)+1:=by simp
  grind
theorem tree_sum {each:Rat}: ∀ {x:Tree} {out o:Parts},okT x=true->treeP each x out=some o->sumQ o=sumQ out+each
 | .leaf n,out,o,_,h=>by
   rw[treeP]at h
   split at h
   ·cases h
   ·cases h
    exact sum_given n each out
 | .node l,out,o,hk,h=>by
   rw[okT,Bool.and_eq_true]at hk
   rw[treeP]at h
   split at h
   ·cases h
   ·have e:=spread_sum hk.2 h
    rw[e]
    have h0:l.length≠0:=by
     intro e0
     have:=List.eq_nil_of_length_eq_zero e0
     rw[this]at hk
     exact absurd hk.1 (by decide)
    have:=ratN h0
    grind
end
mutual
theorem spread_good {each:Rat} (he:0<=each): ∀ {l:List Tree} {out o:Parts},GoodParts out->largeP out=false->spreadP each l out=some o->GoodParts o/\largeP o=false
 | [],out,o,hg,hl,h=>by
   rw[spreadP]at h
   cases h
   exact⟨hg,hl⟩
 |x::l,out,o,hg,hl,h=>by
  rw[spreadP,Option.bind_eq_some_iff]at h
  obtain⟨o1,h1,h2⟩:=h
  have e1:=tree_good he hg hl h1
  exact spread_good he e1.1 e1.2 h2
theorem tree_good {each:Rat} (he:0<=each): ∀ {x:Tree} {out o:Parts},GoodParts out->largeP out=false->treeP each x out=some o->GoodParts o/\largeP o=false
 | .leaf n,out,o,hg,hl,h=>by
   rw[treeP]at h
   split at h
   ·cases h
   ·rename_i hb
    cases h
    exact⟨given_good he hg,by simpa using hb⟩
 | .node l,out,o,hg,hl,h=>by
   rw[treeP]at h
   split at h
   ·cases h
   ·exact spread_good (rat_div_nonneg he Rat.natCast_nonneg) hg hl h
end
end Go.Proofs.YtkhkhnellekofaaGreatDoor
namespace Go.Proofs.YtkhkhnellekofaaGreatDoor
open Go.RowKit
theorem bits_low64: ∀a b:Fin 64,a.val*64+b.val≠0->bitsP 12 (a.val*64+b.val)=Lib.ctz 64 (a.val*64+b.val)::bitsP 12 ((a.val*64+b.val) &&& (a.val*64+b.val-1)):=by decide+kernel
theorem bits_low12 (x:Nat) (hx:x<4096) (h0:x≠0):bitsP 12 x=Lib.ctz 64 x::bitsP 12 (x &&& (x-1)):=by
 have h:=bits_low64 ⟨x/64,by omega⟩ ⟨x%64,by omega⟩
 have e:x/64*64+x%64=x:=by omega
 simp only[e]at h
 exact h h0
theorem bits_up {n x:Nat} (hn:n<=12) (hx:x<2^n):bitsP n x=bitsP 12 x:=by
 unfold bitsP
 have h:List.range 12=List.range n++(List.range (12-n)).map (n+ ·):=by
  rw[<-List.range_add]
  congr 1
  omega
 rw[h,List.filter_append]
 have h2:((List.range (12-n)).map (n+ ·)).filter (fun i=>x.testBit i)=[]:=by
  rw[List.filter_eq_nil_iff]
  intro i hi
  obtain⟨j,_,rfl⟩:=List.mem_map.1 hi
  have:x.testBit (n+j)=false:=Nat.testBit_lt_two_pow (Nat.lt_of_lt_of_le hx (Nat.pow_le_pow_right (by decide) (by omega)))
  rw[this]
  decide
 rw[h2,List.append_nil]
theorem and_pred_lt {n x:Nat} (hx:x<2^n):x &&& (x-1)<2^n:=Nat.lt_of_le_of_lt Nat.and_le_left hx
theorem bits_step {n x:Nat} (hn:n<=12) (hx:x<2^n) (h0:x≠0):bitsP n x=Lib.ctz 64 x::bitsP n (x &&& (x-1)):=by
 have h12:x<4096:=Nat.lt_of_lt_of_le hx (Nat.pow_le_pow_right (n:=2) (by decide) hn)
 rw[bits_up hn hx,bits_up hn (and_pred_lt hx)]
 exact bits_low12 x h12 h0
theorem bits_none (n:Nat):bitsP n 0=[]:=by
 unfold bitsP
 rw[List.filter_eq_nil_iff]
 intro i _
 simp
theorem and_pred_dec {x:Nat} (h0:x≠0):x &&& (x-1)<x:=Nat.lt_of_le_of_lt Nat.and_le_right (by omega)
end Go.Proofs.YtkhkhnellekofaaGreatDoor
