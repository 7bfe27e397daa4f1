import Derived.Test.YthhgkjfgpkbliaaGreatDoorNE
set_option linter.all false
set_option maxRecDepth 100000
set_option maxHeartbeats 4000000
namespace Go.Proofs.YthhgkjfgpkbliaaGreatDoor
open Go.RowKit
attribute [local go_sem] World.cell?_alloc_mark zae zav zai zaw zam zan zao zap zaq zar zas
abbrev Spot:=ByteArray×Int
def eqSp(a b:Spot):Bool:=zag a.1 b.1&&a.2==b.2
theorem ze3{a b:Spot}:eqSp a b=true↔a=b:=by
 obtain⟨a1,a2⟩:=a;obtain⟨b1,b2⟩:=b;simp[eqSp,zak]
theorem eqSp_refl(a:Spot):eqSp a a=true:=ze3.2 rfl
theorem eqSp_sym(a b:Spot):eqSp a b=eqSp b a:=by rw[Bool.eq_iff_iff,ze3,ze3];exact⟨Eq.symm,Eq.symm⟩
theorem zh2{V:Type}{k n:Spot}{v:V}:∀ {m:List (Spot×V)},mget eqSp n (mput eqSp k v m)=if eqSp n k then some v else mget eqSp n m
 | []=>rfl
 |x::m=>by
  rw[mput];cases hk:eqSp k x.1
  ·simp only[Bool.false_eq_true,if_false];rw[mget,mget,zh2 (m:=m)];cases hn:eqSp n x.1
   ·simp
   ·have e:=ze3.1 hn;subst e;rw[eqSp_sym,hk];simp
  ·simp only[if_true];have e:=ze3.1 hk;rw[mget,mget,<-e];cases hn:eqSp n k<;>simp
theorem zmA:∀a b:Fin 64,a.val*64+b.val≠0->zcz 12 (a.val*64+b.val)=Lib.ctz 64 (a.val*64+b.val)::zcz 12 ((a.val*64+b.val) &&& (a.val*64+b.val-1)):=by decide+kernel
theorem zmB(x:Nat)(hx:x<4096)(h0:x≠0):zcz 12 x=Lib.ctz 64 x::zcz 12 (x &&& (x-1)):=by
 have h:=zmA ⟨x/64,by omega⟩ ⟨x%64,by omega⟩;have e:x/64*64+x%64=x:=MbC;simp only[e]at h;exact h h0
theorem bits_up{n x:Nat}(hn:n<=12)(hx:x<2^n):zcz n x=zcz 12 x:=by
 unfold zcz;have h:List.range 12=List.range n++(List.range (12-n)).map (n+ ·):=by
  rw[<-List.range_add];congr 1
  omega
 rw[h,List.filter_append];have h2:((List.range (12-n)).map (n+ ·)).filter (fun i=>x.testBit i)=[]:=by
  rw[List.filter_eq_nil_iff];intro i hi;obtain⟨j,_,rfl⟩:=List.mem_map.1 hi;have:x.testBit (n+j)=false:=Nat.testBit_lt_two_pow (Nat.lt_of_lt_of_le hx (Nat.pow_le_pow_right MbD MbC));rw[this];decide
 rw[h2,List.append_nil]
theorem zh3{n x:Nat}(hx:x<2^n):x &&& (x-1)<2^n:=Nat.lt_of_le_of_lt Nat.and_le_left hx
theorem bits_step{n x:Nat}(hn:n<=12)(hx:x<2^n)(h0:x≠0):zcz n x=Lib.ctz 64 x::zcz n (x &&& (x-1)):=by
 have nA:x<4096:=Nat.lt_of_lt_of_le hx (Nat.pow_le_pow_right (n:=2) MbD hn);rw[bits_up hn hx,bits_up hn (zh3 hx)];exact zmB x nA h0
theorem bits_none(n:Nat):zcz n 0=[]:=by
 unfold zcz;rw[List.filter_eq_nil_iff];intro i _;simp
theorem zjO{x:Nat}(h0:x≠0):x &&& (x-1)<x:=Nat.lt_of_le_of_lt Nat.and_le_right MbC
open Go.Shelf
attribute [local go_sem] zah zac
