import Derived.Shelf.SlicesQ.IndexFunc
import Derived.Shelf.SlicesE.IndexFunc
import Derived.Test.YtogklihlgindkaaGreatDoorJ0
import Derived.Shelf.Small.Strs
import Derived.Shelf.SlicesE.Clone
import Derived.Shelf.SlicesE.Index
import Derived.Shelf.SlicesQ.Contains
import Derived.Shelf.Spec.TrailingZeros
set_option linter.all false
set_option maxRecDepth 100000
set_option maxHeartbeats 4000000
namespace Go.Proofs.YtogklihlgindkaaGreatDoor
open Go.RowKit
section
open Go.Shelf
def zoK:Go.Shelf.Ren:=⟨fun|8=>60|6=>97|n=>n,fun|22=>36|23=>55|25=>123|4=>4|3=>3|0=>0|n=>n,fun|n=>n⟩
def cfPart:Go.Proofs.SlLaysH0.n8 Tryz.prog zoK:= {
 mixed:=by kernel_rfl
 f6:=⟨Tryz.f97.name,by decide,Tryz.func97.trans (congrArg some (by kernel_rfl))⟩
 f8:=⟨Tryz.f60.name,by decide,Tryz.func60.trans (congrArg some (by kernel_rfl))⟩
 t0:=Tryz.underlying0
 a0:=Tryz.isAgg0
 z0:=Tryz.sizeOf0
 v0:=Tryz.zeroValue0
 t3:=Tryz.underlying3
 a3:=Tryz.isAgg3
 z3:=Tryz.sizeOf3
 v3:=Tryz.zeroValue3
 t4:=Tryz.underlying4
 a4:=Tryz.isAgg4
 z4:=Tryz.sizeOf4
 v4:=Tryz.zeroValue4
 t22:=Tryz.underlying36
 a22:=Tryz.isAgg36
 z22:=Tryz.sizeOf36
 v22:=Tryz.zeroValue36
 t25:=Tryz.underlying123
 a25:=Tryz.isAgg123
 z25:=Tryz.sizeOf123
 v25:=Tryz.zeroValue123}
def cfRec_ren:Go.Shelf.Ren:=⟨fun|8=>68|6=>103|n=>n,fun|22=>53|23=>52|25=>133|4=>4|3=>3|0=>0|n=>n,fun|n=>n⟩
def cfRec:Go.Proofs.SlLaysH0.n8 Tryz.prog cfRec_ren:= {
 mixed:=by kernel_rfl
 f6:=⟨Tryz.f103.name,by decide,Tryz.func103.trans (congrArg some (by kernel_rfl))⟩
 f8:=⟨Tryz.f68.name,by decide,Tryz.func68.trans (congrArg some (by kernel_rfl))⟩
 t0:=Tryz.underlying0
 a0:=Tryz.isAgg0
 z0:=Tryz.sizeOf0
 v0:=Tryz.zeroValue0
 t3:=Tryz.underlying3
 a3:=Tryz.isAgg3
 z3:=Tryz.sizeOf3
 v3:=Tryz.zeroValue3
 t4:=Tryz.underlying4
 a4:=Tryz.isAgg4
 z4:=Tryz.sizeOf4
 v4:=Tryz.zeroValue4
 t22:=Tryz.underlying53
 a22:=Tryz.isAgg53
 z22:=Tryz.sizeOf53
 v22:=Tryz.zeroValue53
 t25:=Tryz.underlying133
 a25:=Tryz.isAgg133
 z25:=Tryz.sizeOf133
 v25:=Tryz.zeroValue133}
def zoL:Go.Shelf.Ren:=⟨fun|106=>152|213=>181|265=>203|n=>n,fun|9=>9|3=>3|n=>n,fun|n=>n⟩
def cmpStr:Go.Proofs.Lays.n106 Tryz.prog zoL:= {
 mixed:=by kernel_rfl
 f106:=Tryz.func152.trans (congrArg some (by kernel_rfl))
 f213:=Tryz.func181.trans (congrArg some (by kernel_rfl))
 f265:=Tryz.func203.trans (congrArg some (by kernel_rfl))
 t3:=Tryz.underlying3
 a3:=Tryz.isAgg3
 z3:=Tryz.sizeOf3
 v3:=Tryz.zeroValue3
 t9:=Tryz.underlying9
 a9:=Tryz.isAgg9
 z9:=Tryz.sizeOf9
 v9:=Tryz.zeroValue9}
def coStr_ren:Go.Shelf.Ren:=⟨fun|31=>35|29=>64|n=>n,fun|22=>34|23=>9|4=>4|3=>3|0=>0|n=>n,fun|n=>n⟩
def coStr:Go.Proofs.SlLaysE.n31 Tryz.prog coStr_ren:= {
 mixed:=by kernel_rfl
 f29:=⟨Tryz.f64.name,by decide,Tryz.func64.trans (congrArg some (by kernel_rfl))⟩
 f31:=⟨Tryz.f35.name,by decide,Tryz.func35.trans (congrArg some (by kernel_rfl))⟩
 t0:=Tryz.underlying0
 a0:=Tryz.isAgg0
 z0:=Tryz.sizeOf0
 v0:=Tryz.zeroValue0
 t3:=Tryz.underlying3
 a3:=Tryz.isAgg3
 z3:=Tryz.sizeOf3
 v3:=Tryz.zeroValue3
 t4:=Tryz.underlying4
 a4:=Tryz.isAgg4
 z4:=Tryz.sizeOf4
 v4:=Tryz.zeroValue4
 t22:=Tryz.underlying34
 a22:=Tryz.isAgg34
 z22:=Tryz.sizeOf34
 v22:=Tryz.zeroValue34
 a23:=Tryz.isAgg9
 z23:=Tryz.sizeOf9}
def zoM:Go.Shelf.Ren:=⟨fun|7=>62|6=>98|n=>n,fun|22=>68|24=>126|4=>4|0=>0|3=>3|n=>n,fun|n=>n⟩
def coPair:Go.Proofs.SlLaysQ.n7 Tryz.prog zoM:= {
 mixed:=by kernel_rfl
 f6:=⟨Tryz.f98.name,by decide,Tryz.func98.trans (congrArg some (by kernel_rfl))⟩
 f7:=⟨Tryz.f62.name,by decide,Tryz.func62.trans (congrArg some (by kernel_rfl))⟩
 t0:=Tryz.underlying0
 a0:=Tryz.isAgg0
 z0:=Tryz.sizeOf0
 v0:=Tryz.zeroValue0
 t3:=Tryz.underlying3
 a3:=Tryz.isAgg3
 z3:=Tryz.sizeOf3
 v3:=Tryz.zeroValue3
 t4:=Tryz.underlying4
 a4:=Tryz.isAgg4
 z4:=Tryz.sizeOf4
 v4:=Tryz.zeroValue4
 t22:=Tryz.underlying68
 a22:=Tryz.isAgg68
 z22:=Tryz.sizeOf68
 v22:=Tryz.zeroValue68}
def zoN:Go.Shelf.Ren:=⟨fun|27=>66|28=>100|29=>101|n=>n,fun|25=>114|3=>3|27=>149|22=>151|4=>4|53=>188|0=>0|5=>5|54=>189|n=>n,fun|0=>1|1=>2|n=>n⟩
def tzBits:Go.Proofs.Lays7.n27 Tryz.prog zoN:= {
 mixed:=by kernel_rfl
 f27:=Tryz.func66.trans (congrArg some (by kernel_rfl))
 f28:=Tryz.func100.trans (congrArg some (by kernel_rfl))
 f29:=Tryz.func101.trans (congrArg some (by kernel_rfl))
 t0:=Tryz.underlying0
 a0:=Tryz.isAgg0
 z0:=Tryz.sizeOf0
 v0:=Tryz.zeroValue0
 i0:=by kernel_rfl
 t3:=Tryz.underlying3
 a3:=Tryz.isAgg3
 z3:=Tryz.sizeOf3
 v3:=Tryz.zeroValue3
 i3:=by kernel_rfl
 t4:=Tryz.underlying4
 a4:=Tryz.isAgg4
 z4:=Tryz.sizeOf4
 v4:=Tryz.zeroValue4
 i4:=by kernel_rfl
 t5:=Tryz.underlying5
 a5:=Tryz.isAgg5
 z5:=Tryz.sizeOf5
 v5:=Tryz.zeroValue5
 i5:=by kernel_rfl
 t22:=Tryz.underlying151
 a22:=Tryz.isAgg151
 z22:=Tryz.sizeOf151
 v22:=Tryz.zeroValue151
 i22:=by kernel_rfl
 t25:=Tryz.underlying114
 a25:=Tryz.isAgg114
 z25:=Tryz.sizeOf114
 v25:=Tryz.zeroValue114
 i25:=by kernel_rfl
 t27:=Tryz.underlying149
 a27:=Tryz.isAgg149
 z27:=Tryz.sizeOf149
 v27:=Tryz.zeroValue149
 i27:=by kernel_rfl
 t53:=Tryz.underlying188
 a53:=Tryz.isAgg188
 z53:=Tryz.sizeOf188
 v53:=Tryz.zeroValue188
 i53:=by kernel_rfl
 t54:=Tryz.underlying189
 a54:=Tryz.isAgg189
 z54:=Tryz.sizeOf189
 g0:=by kernel_rfl
 g1:=by kernel_rfl}
end
variable{a b:ByteArray}
def za2:zae a b=true↔a=b:=by
 unfold zae;rw[beq_iff_eq,ByteArray.toList_eq,ByteArray.toList_eq];constructor
 ·intro h;exact ByteArray.ext (Array.ext' h)
 ·intro h;rw[h]
def zbV(a:ByteArray):zae a a=true:=za2.2 rfl
def zcd:zae a b=false↔a≠b:=by rw[<-Bool.not_eq_true,za2]
variable{n:ByteArray}
def zf1{l:List ByteArray}:l.any (zae n)=true↔n∈l:=by
 rw[List.any_eq_true];constructor
 ·rintro⟨x,hx,h⟩;rw[za2.1 h];exact hx
 ·intro h;exact⟨n,h,zbV n⟩
variable{s:St}{c:ByteArray}
def zdw:c∈zaj s n↔(n,c)∈s.children:=by
 unfold zaj;rw[List.mem_map];constructor
 ·rintro⟨p,hp,rfl⟩;rw[List.mem_filter,za2]at hp;rw[<-hp.2];exact hp.1
 ·intro h;exact⟨(n,c),List.mem_filter.2 ⟨h,zbV n⟩,rfl⟩
variable{x:ByteArray}
def zil{out:ByteArray->Prop}(h0:∀c∈zaj s n,out c)(h1:∀x,out x->∀c∈zaj s x,out c)(h:Desc s n x):out x:=by
 unfold Desc at h;induction h with
 |single h=>exact h0 _ h
 |tail _ h ih=>exact h1 _ ih _ h
def zim(h:Desc s n x)(hc:c∈zaj s x):Desc s n c:=Relation.TransGen.tail h hc
def zf2(hc:c∈zaj s n):Desc s n c:=Relation.TransGen.single hc
def zgV(h:Desc s a b)(k:Desc s b c):Desc s a c:=by
 unfold Desc at*;induction k with
 |single h'=>exact Relation.TransGen.tail h h'
 |tail _ h' ih=>exact Relation.TransGen.tail ih h'
def zin(h0:zaj s n=[]):¬Desc s n x:=λh=>zil (out:=λ_=>False) (by rw[h0];simp) (λ_ h=>h.elim) h
