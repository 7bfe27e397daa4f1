/- A region that draws its order: a head that only lays new blocks, in whatever order, and a tail that its edges put behind the head in one order. -/
import Derived.Shelf.SlicesQ.IndexFunc
import Derived.Shelf.SlicesE.IndexFunc
import Derived.StillTail
import Derived.Test.YtckkbkdcdkhglaaGreatDoorN9
import Derived.Test.YtckkbkdcdkhglaaGreatDoorJ1
set_option linter.unusedSimpArgs false
set_option linter.unusedVariables false
set_option maxRecDepth 100000
set_option maxHeartbeats 4000000
namespace Go.Proofs.YtckkbkdcdkhglaaGreatDoor
open Go.RowKit Go.Shelf
def zoj:Go.Shelf.Ren:=⟨fun|8=>83|6=>113|n=>n,fun|22=>28|23=>63|25=>140|4=>4|3=>3|0=>0|n=>n,fun|n=>n⟩
theorem cfPart:Go.Proofs.SlLaysH0.n8 Tryz.prog zoj:= {
 mixed:=by kernel_rfl
 f6:=⟨Tryz.f113.name,by decide,Tryz.func113.trans (congrArg some (by kernel_rfl))⟩
 f8:=⟨Tryz.f83.name,by decide,Tryz.func83.trans (congrArg some (by kernel_rfl))⟩
 t0:=Tryz.underlying0
 a0:=Tryz.isAgg0
 z0:=Tryz.sizeOf0
 v0:=Tryz.zeroValue0
 t3:=Tryz.underlying3
 a3:=Tryz.isAgg3
 z3:=Tryz.sizeOf3
 v3:=Tryz.zeroValue3
 t4:=Tryz.underlying4
 a4:=Tryz.isAgg4
 z4:=Tryz.sizeOf4
 v4:=Tryz.zeroValue4
 t22:=Tryz.underlying28
 a22:=Tryz.isAgg28
 z22:=Tryz.sizeOf28
 v22:=Tryz.zeroValue28
 t25:=Tryz.underlying140
 a25:=Tryz.isAgg140
 z25:=Tryz.sizeOf140
 v25:=Tryz.zeroValue140}
def cfRec_ren:Go.Shelf.Ren:=⟨fun|8=>91|6=>118|n=>n,fun|22=>61|23=>60|25=>150|4=>4|3=>3|0=>0|n=>n,fun|n=>n⟩
theorem cfRec:Go.Proofs.SlLaysH0.n8 Tryz.prog cfRec_ren:= {
 mixed:=by kernel_rfl
 f6:=⟨Tryz.f118.name,by decide,Tryz.func118.trans (congrArg some (by kernel_rfl))⟩
 f8:=⟨Tryz.f91.name,by decide,Tryz.func91.trans (congrArg some (by kernel_rfl))⟩
 t0:=Tryz.underlying0
 a0:=Tryz.isAgg0
 z0:=Tryz.sizeOf0
 v0:=Tryz.zeroValue0
 t3:=Tryz.underlying3
 a3:=Tryz.isAgg3
 z3:=Tryz.sizeOf3
 v3:=Tryz.zeroValue3
 t4:=Tryz.underlying4
 a4:=Tryz.isAgg4
 z4:=Tryz.sizeOf4
 v4:=Tryz.zeroValue4
 t22:=Tryz.underlying61
 a22:=Tryz.isAgg61
 z22:=Tryz.sizeOf61
 v22:=Tryz.zeroValue61
 t25:=Tryz.underlying150
 a25:=Tryz.isAgg150
 z25:=Tryz.sizeOf150
 v25:=Tryz.zeroValue150}
end Go.Proofs.YtckkbkdcdkhglaaGreatDoor
namespace Go.Proofs.YtckkbkdcdkhglaaGreatDoor
section
variable {P:Program} {ops:Array Oper} {md:Region.Mode} {w₀:World}
end
theorem stays (w:World): ∃z',w=w.ext z':=⟨⟨#[],w.drawn⟩,by simp[World.ext]⟩
end Go.Proofs.YtckkbkdcdkhglaaGreatDoor
namespace Go.Proofs.YtckkbkdcdkhglaaGreatDoor
open Go.RowKit
def ofP (l:List Rec) (set:List Nat):List Rec:=set.filterMap fun i=>l[i]?
end Go.Proofs.YtckkbkdcdkhglaaGreatDoor
namespace Go.Proofs.YtckkbkdcdkhglaaGreatDoor
section
variable {P:Program} {ops:Array Oper} {md:Region.Mode} {C:World->Prop}
end
end Go.Proofs.YtckkbkdcdkhglaaGreatDoor
