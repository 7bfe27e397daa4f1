/- Plain: the law's sum of shares. -/
import Derived.StillTail
import Derived.Shelf.SlSortCmp.NoneTotal
import Derived.Test.YtmfbdfejhdkiaaaGreatDoorJ6
import Derived.Test.YtmfbdfejhdkiaaaGreatDoorNA
set_option linter.all false
set_option maxRecDepth 100000
set_option maxHeartbeats 4000000
namespace Go.Proofs.YtmfbdfejhdkiaaaGreatDoor
attribute [local go_sem] World.cell?_alloc_mark zae za4 zao za8 zav zaw zax zay zaz za0 za1
attribute [local go_sem] zap zac
section
section
variable {P:Program} {ops:Array Oper} {md:Region.Mode} {w₀:World}
def zdD(P:Program)(o:Oper)(a:Act)(w:World)(K:Value->World->Prop):Prop:=
 match(execOp a.eval o).run P w with
 | .ok (.value v) w'=>K v w'
 | .ok .skip w'=>K undef w'
 | .ok (.enter f args) w'=>Calls P f args w' fun e w''=>∃v,e=.returned v/\K v w''
 |_=>False
theorem gets_wp{o:Oper}{a:Act}{w:World}{K:Value->World->Prop}{Q:Exit->Act->World->Prop}(h:zdD P o a w K){K':Act->World->Prop}(hk:∀v w',K v w'->K' (a.put o.dst v) w'):o.wp P a w K' Q:=by
 unfold zdD at h;unfold Oper.wp;generalize(execOp a.eval o).run P w=r at*;cases r with
 |ok n w'=>
  cases n<;>simp only at h<;>simp only[Oper.upon]
  case value u=>exact hk _ _ h
  case skip=>exact hk _ _ h
  case enter f args=>
   refine h.mono ?_;rintro e w'' ⟨v,rfl,hv⟩;exact hk _ _ hv
 |halt x w'=>simp only at h
theorem gets_same{o:Oper}{a b:Act}{w:World}{K:Value->World->Prop}(he:execOp a.eval o=execOp b.eval o)(h:zdD P o a w K):zdD P o b w K:=by
 unfold zdD at*;rwa [<-he]
def zku(ops:Array Oper)(t:Tmp)(i:Nat):Prop:= ∃o,ops[i]?=some o/\o.dst=some t
structure Filled (ops:Array Oper) (a0:Act) (L:Nat->Prop) (f:Nat->Value) (a:Act):Prop where
 defers:a.defers=a0.defers
 size:a.tmps.size=a0.tmps.size
 outs:∀t,(∀i,L i->¬zku ops t i)->a.tmps[t]?=a0.tmps[t]?
 ins:∀t i,L i->zku ops t i->t<a0.tmps.size->a.tmps[t]?=some (f i)
def zgA(ops:Array Oper):Bool:=(List.range ops.size).all fun i=>(List.range ops.size).all fun j=>i==j||(match(ops[i]?).bind (·.dst),(ops[j]?).bind (·.dst)with|some x,some y=>x != y|_,_=>true)
theorem dst_lt{t:Tmp}{i:Nat}(h:zku ops t i):i<ops.size:=by
 obtain⟨o,h,_⟩:=h;exact(Array.getElem?_eq_some_iff.1 h).1
theorem apart_one(h:zgA ops=true){t:Tmp}{i j:Nat}(hi:zku ops t i)(hj:zku ops t j):i=j:=by
 unfold zgA at h;rw[List.all_eq_true]at h;have h1:=h i (List.mem_range.2 (dst_lt hi));rw[List.all_eq_true]at h1;have h2:=h1 j (List.mem_range.2 (dst_lt hj));obtain⟨oi,a1,a2⟩:=hi;obtain⟨oj,b1,b2⟩:=hj;rw[a1,b1]at h2;simpa[a2,b2]using h2
theorem Filled.put(hd:zgA ops=true){a0 a:Act}{L:Nat->Prop}{f g:Nat->Value}(h:Filled ops a0 L f a){i:Nat}{o:Oper}{v:Value}(ho:ops[i]?=some o)(hi:¬L i)(hg:∀k,L k->g k=f k)(hv:g i=v):
 Filled ops a0 (fun k=>L k\/k=i) g (a.put o.dst v):=by
 cases oV:o.dst with
 |none=>
  refine⟨h.defers,h.size,fun t ht=>h.outs t fun k hk=>ht k (.inl hk),fun t k hk jt aa=>?_⟩;rcases hk with hk|rfl
  ·rw[hg k hk];exact h.ins t k hk jt aa
  ·obtain⟨o',h1,h2⟩:=jt;rw[ho]at h1;simp only[Option.some.injEq]at h1;rw[<-h1,oV]at h2;cases h2
 |some d=>
  have uo:zku ops d i:=⟨o,ho,oV⟩
  refine⟨h.defers,by simp[Act.put,h.size],fun t ht=>?_,fun t k hk jt aa=>?_⟩
  ·have ag:d≠t:=fun e=>ht i (.inr rfl) (e▸uo)
   simp only[Act.put,Array.getElem?_setIfInBounds_ne ag];exact h.outs t fun k hk=>ht k (.inl hk)
  ·rcases hk with hk|rfl
   ·have ag:d≠t:=fun e=>hi (by rw[apart_one hd uo (e▸jt)];exact hk)
    simp only[Act.put,Array.getElem?_setIfInBounds_ne ag];rw[hg k hk];exact h.ins t k hk jt aa
   ·have he:d=t:=by
     obtain⟨o',h1,h2⟩:=jt;rw[ho]at h1;simp only[Option.some.injEq]at h1;rw[<-h1,oV]at h2;simpa using h2
    subst he;simp only[Act.put];rw[Array.getElem?_setIfInBounds_self_of_lt (by rw[h.size];exact aa),hv]
def zdF(ops:Array Oper)(a0:Act)(f:Nat->Value):Nat->Act
 |0=>a0
 |n+1=>(zdF ops a0 f n).put ((ops[n]?).bind (·.dst)) (f n)
theorem zge(hd:zgA ops=true)(a0:Act)(f:Nat->Value):∀n,n<=ops.size->Filled ops a0 (fun i=>i<n) f (zdF ops a0 f n)
 |0,_=>⟨rfl,rfl,fun _ _=>rfl,fun _ _ h=>absurd h (Nat.not_lt_zero _)⟩
 |n+1,h=>by
  have ih:=zge hd a0 f n Mcq;have ho:ops[n]?=some ops[n]:=Array.getElem?_eq_getElem Mcq;have h2:=ih.put hd (g:=f) ho (Nat.lt_irrefl n) (fun _ _=>rfl) rfl;rw[zdF,ho];refine⟨h2.defers,h2.size,fun t ht=>h2.outs t fun i hi=>ht i ?_,fun t i hi=>h2.ins t i ?_⟩
  ·rcases hi with hi|rfl
   ·exact Nat.lt_succ_of_lt hi
   ·exact Nat.lt_succ_self _
  ·rcases Nat.lt_succ_iff_lt_or_eq.1 hi with hi|hi
   ·exact .inl hi
   ·exact .inr hi
def fedBy(md:Region.Mode)(ops:Array Oper):Bool:=(List.range ops.size).all fun i=>match ops[i]? with
 |none=>true
 |some o=>o.guard.isNone&&(o.after.all fun e=>!Region.binds md e||decide (e.on<i))&&o.op.operands.toList.all fun x=>match x with
  | .tmp t=>(List.range ops.size).all fun j=>(match ops[j]? with|some oj=>oj.dst != some t||o.after.any (fun e=>Region.binds md e&&e.on==j)|none=>true)
  |_=>true
theorem zi9(h:fedBy md ops=true){i:Nat}{o:Oper}(ho:ops[i]?=some o):o.guard=none/\(∀e∈o.after,Region.binds md e=true->e.on<i)/\∀t,.tmp t∈o.op.operands->∀j,zku ops t j->∃e∈o.after,Region.binds md e=true/\e.on=j:=by
 unfold fedBy at h;rw[List.all_eq_true]at h;have h1:=h i (List.mem_range.2 (Array.getElem?_eq_some_iff.1 ho).1);rw[ho]at h1;simp only[Bool.and_eq_true,Option.isNone_iff_eq_none,List.all_eq_true]at h1;obtain⟨⟨h1,h2⟩,h3⟩:=h1;refine⟨h1,fun e he hb=>?_,fun t ht j hj=>?_⟩
 ·rw[Array.all_eq_true_iff_forall_mem]at h2;have:=h2 e he;rw[hb]at this;simpa using this
 ·have h4:=h3 (.tmp t) (Array.mem_toList_iff.2 ht);simp only[List.all_eq_true]at h4;have h5:=h4 j (List.mem_range.2 (dst_lt hj));obtain⟨oj,b1,b2⟩:=hj;rw[b1]at h5;simp only[b2,bne_self_eq_false,Bool.false_or]at h5;rw[Array.any_eq_true']at h5;obtain⟨e,he,h6⟩:=h5;simp only[Bool.and_eq_true,beq_iff_eq]at h6;exact⟨e,he,h6.1,h6.2⟩
def zd1(P:Program)(md:Region.Mode)(w₀:World)(A:(Nat->Value)->Act)(V:Nat->Value->World->Prop):Nat->List Oper->Prop
 |_,[]=>True
 |i,o::rest=>(∀f z,(∀e∈o.after,Region.binds md e=true->V e.on (f e.on) (w₀.ext z))->zdD P o (A f) (w₀.ext z) (fun v w'=>V i v w'/\∃z',w'=(w₀.ext z).ext z'))/\zd1 P md w₀ A V (i+1) rest
theorem znQ{A:(Nat->Value)->Act}{V:Nat->Value->World->Prop}:∀(l:List Oper) (i:Nat),zd1 P md w₀ A V i l->∀k o,l[k]?=some o->∀f z,(∀e∈o.after,Region.binds md e=true->V e.on (f e.on) (w₀.ext z))->zdD P o (A f) (w₀.ext z) (fun v w'=>V (i+k) v w'/\∃z',w'=(w₀.ext z).ext z')
 | [],_,_,k,o,h=>by simp at h
 |x::l,i,h,0,o,ho=>by
  simp only[List.getElem?_cons_zero,Option.some.injEq]at ho;subst ho;exact h.1
 |x::l,i,h,k+1,o,ho=>by
  have:=znQ l (i+1) h.2 k o (by simpa using ho);rw[show i+(k+1)=i+1+k by omega];exact this
end
theorem stays(w:World):∃z',w=w.ext z':=⟨⟨#[],w.drawn⟩,by simp[World.ext]⟩
end
section
open Go.RowKit Go.Shelf
def zlx:Go.Shelf.Ren:=⟨fun|6=>143|15=>61|14=>166|28=>110|29=>111|20=>179|21=>180|22=>181|23=>182|24=>183|25=>184|26=>185|27=>186|46=>191|47=>150|48=>151|49=>192|50=>193|57=>194|n=>n,fun|22=>26|24=>59|25=>182|3=>3|39=>114|0=>0|53=>154|55=>156|4=>4|46=>147|45=>146|50=>98|5=>5|9=>9|66=>188|70=>192|76=>204|77=>205|n=>n,fun|n=>n⟩
theorem znR:Go.Proofs.SlLaysF0.n6 Tryz.prog zlx:= {
 mixed:=by kernel_rfl
 f6:=⟨Tryz.f143.name,by decide,Tryz.func143.trans (congrArg some Mcs)⟩
 f14:=⟨Tryz.f166.name,by decide,Tryz.func166.trans (congrArg some Mcs)⟩
 f15:=Tryz.func61.trans (congrArg some Mcs)
 f20:=⟨Tryz.f179.name,by decide,Tryz.func179.trans (congrArg some Mcs)⟩
 f21:=⟨Tryz.f180.name,by decide,Tryz.func180.trans (congrArg some Mcs)⟩
 f22:=⟨Tryz.f181.name,by decide,Tryz.func181.trans (congrArg some Mcs)⟩
 f23:=⟨Tryz.f182.name,by decide,Tryz.func182.trans (congrArg some Mcs)⟩
 f24:=⟨Tryz.f183.name,by decide,Tryz.func183.trans (congrArg some Mcs)⟩
 f25:=⟨Tryz.f184.name,by decide,Tryz.func184.trans (congrArg some Mcs)⟩
 f26:=⟨Tryz.f185.name,by decide,Tryz.func185.trans (congrArg some Mcs)⟩
 f27:=⟨Tryz.f186.name,by decide,Tryz.func186.trans (congrArg some Mcs)⟩
 f28:=Tryz.func110.trans (congrArg some Mcs)
 f29:=Tryz.func111.trans (congrArg some Mcs)
 f46:=⟨Tryz.f191.name,by decide,Tryz.func191.trans (congrArg some Mcs)⟩
 f47:=Tryz.func150.trans (congrArg some Mcs)
 f48:=Tryz.func151.trans (congrArg some Mcs)
 f49:=⟨Tryz.f192.name,by decide,Tryz.func192.trans (congrArg some Mcs)⟩
 f50:=⟨Tryz.f193.name,by decide,Tryz.func193.trans (congrArg some Mcs)⟩
 f57:=⟨Tryz.f194.name,by decide,Tryz.func194.trans (congrArg some Mcs)⟩
 t0:=Tryz.underlying0
 a0:=Tryz.isAgg0
 z0:=Tryz.sizeOf0
 v0:=Tryz.zeroValue0
 t3:=Tryz.underlying3
 a3:=Tryz.isAgg3
 z3:=Tryz.sizeOf3
 v3:=Tryz.zeroValue3
 t4:=Tryz.underlying4
 a4:=Tryz.isAgg4
 z4:=Tryz.sizeOf4
 v4:=Tryz.zeroValue4
 t5:=Tryz.underlying5
 a5:=Tryz.isAgg5
 z5:=Tryz.sizeOf5
 v5:=Tryz.zeroValue5
 t9:=Tryz.underlying9
 a9:=Tryz.isAgg9
 z9:=Tryz.sizeOf9
 v9:=Tryz.zeroValue9
 t22:=Tryz.underlying26
 a22:=Tryz.isAgg26
 z22:=Tryz.sizeOf26
 v22:=Tryz.zeroValue26
 t25:=Tryz.underlying182
 a25:=Tryz.isAgg182
 z25:=Tryz.sizeOf182
 v25:=Tryz.zeroValue182
 t39:=Tryz.underlying114
 a39:=Tryz.isAgg114
 z39:=Tryz.sizeOf114
 v39:=Tryz.zeroValue114
 t45:=Tryz.underlying146
 a45:=Tryz.isAgg146
 z45:=Tryz.sizeOf146
 v45:=Tryz.zeroValue146
 t46:=Tryz.underlying147
 a46:=Tryz.isAgg147
 z46:=Tryz.sizeOf147
 v46:=Tryz.zeroValue147
 t50:=Tryz.underlying98
 a50:=Tryz.isAgg98
 z50:=Tryz.sizeOf98
 v50:=Tryz.zeroValue98
 t53:=Tryz.underlying154
 a53:=Tryz.isAgg154
 z53:=Tryz.sizeOf154
 v53:=Tryz.zeroValue154
 t55:=Tryz.underlying156
 a55:=Tryz.isAgg156
 z55:=Tryz.sizeOf156
 v55:=Tryz.zeroValue156
 t66:=Tryz.underlying188
 a66:=Tryz.isAgg188
 z66:=Tryz.sizeOf188
 v66:=Tryz.zeroValue188
 t70:=Tryz.underlying192
 a70:=Tryz.isAgg192
 z70:=Tryz.sizeOf192
 v70:=Tryz.zeroValue192
 t76:=Tryz.underlying204
 a76:=Tryz.isAgg204
 z76:=Tryz.sizeOf204
 v76:=Tryz.zeroValue204
 t77:=Tryz.underlying205
 a77:=Tryz.isAgg205
 z77:=Tryz.sizeOf205
 v77:=Tryz.zeroValue205}
end
section
open Go.RowKit
end
section
open Go.RowKit Go.Shelf
def Rec.v(r:Rec):Value:=.agg #[.int .i64 r.kind,.string r.name,.string r.other,.string r.place,.int .i64 r.day,.int .i64 r.til,.int .i64 r.num,.int .i64 r.den]
end
open Go.RowKit
theorem part_le{l:Parts}(h:∀p∈l,0<p.2)(hs:sumQ l<=1):∀p∈l,p.2<=1:=fun p hp=>by
 have:=zf4 (fun p hp=>by have:=h p hp;grind) p hp;grind
theorem num_pos{q:Rat}(h:0<q):1<=q.num:=by
 have hq:0<q.num:=by have:=(Rat.lt_iff 0 q).1 h;simpa using this
 omega
theorem num_le{q:Rat}(h:q<=1):q.num<=q.den:=by
 have h1:=Rat.le_iff q 1;have:=h1.1 h;simpa using this
theorem not_large{l:Parts}(h:zaG l=false):∀p∈l,(p.2.den:Int)<=1000000000:=fun p hp=>by
 unfold zaG at h;rw[List.any_eq_false]at h;have:=h p hp;unfold bigQ at this;simpa using this
