/- A region that draws its order: a head that only lays new blocks, in whatever order, and a tail that its edges put behind the head in one order. -/
import Derived.Shelf.SlicesQ.IndexFunc
import Derived.Shelf.SlicesE.IndexFunc
import Derived.StillTail
import Derived.Test.YtjhbofabmpfniaaGreatDoorN9
import Derived.Test.YtjhbofabmpfniaaGreatDoorJ1
set_option linter.unusedSimpArgs false
set_option linter.unusedVariables false
set_option maxRecDepth 100000
set_option maxHeartbeats 4000000
namespace Go.Proofs.YtjhbofabmpfniaaGreatDoor
open Go.RowKit Go.Shelf
def zol:Go.Shelf.Ren:=⟨fun|8=>135|6=>163|n=>n,fun|22=>39|23=>75|25=>167|4=>4|3=>3|0=>0|n=>n,fun|n=>n⟩
theorem cfPart:Go.Proofs.SlLaysH0.n8 Tryz.prog zol:= {
 mixed:=by kernel_rfl
 f6:=⟨Tryz.f163.name,by decide,Tryz.func163.trans (congrArg some (by kernel_rfl))⟩
 f8:=⟨Tryz.f135.name,by decide,Tryz.func135.trans (congrArg some (by kernel_rfl))⟩
 t0:=Tryz.underlying0
 a0:=Tryz.isAgg0
 z0:=Tryz.sizeOf0
 v0:=Tryz.zeroValue0
 t3:=Tryz.underlying3
 a3:=Tryz.isAgg3
 z3:=Tryz.sizeOf3
 v3:=Tryz.zeroValue3
 t4:=Tryz.underlying4
 a4:=Tryz.isAgg4
 z4:=Tryz.sizeOf4
 v4:=Tryz.zeroValue4
 t22:=Tryz.underlying39
 a22:=Tryz.isAgg39
 z22:=Tryz.sizeOf39
 v22:=Tryz.zeroValue39
 t25:=Tryz.underlying167
 a25:=Tryz.isAgg167
 z25:=Tryz.sizeOf167
 v25:=Tryz.zeroValue167}
def cfRec_ren:Go.Shelf.Ren:=⟨fun|8=>170|6=>232|n=>n,fun|22=>106|23=>105|25=>216|4=>4|3=>3|0=>0|n=>n,fun|n=>n⟩
theorem cfRec:Go.Proofs.SlLaysH0.n8 Tryz.prog cfRec_ren:= {
 mixed:=by kernel_rfl
 f6:=⟨Tryz.f232.name,by decide,Tryz.func232.trans (congrArg some (by kernel_rfl))⟩
 f8:=⟨Tryz.f170.name,by decide,Tryz.func170.trans (congrArg some (by kernel_rfl))⟩
 t0:=Tryz.underlying0
 a0:=Tryz.isAgg0
 z0:=Tryz.sizeOf0
 v0:=Tryz.zeroValue0
 t3:=Tryz.underlying3
 a3:=Tryz.isAgg3
 z3:=Tryz.sizeOf3
 v3:=Tryz.zeroValue3
 t4:=Tryz.underlying4
 a4:=Tryz.isAgg4
 z4:=Tryz.sizeOf4
 v4:=Tryz.zeroValue4
 t22:=Tryz.underlying106
 a22:=Tryz.isAgg106
 z22:=Tryz.sizeOf106
 v22:=Tryz.zeroValue106
 t25:=Tryz.underlying216
 a25:=Tryz.isAgg216
 z25:=Tryz.sizeOf216
 v25:=Tryz.zeroValue216}
end Go.Proofs.YtjhbofabmpfniaaGreatDoor
namespace Go.Proofs.YtjhbofabmpfniaaGreatDoor
section
variable {P:Program} {ops:Array Oper} {md:Region.Mode} {w₀:World}
end
theorem stays (w:World): ∃z',w=w.ext z':=⟨⟨#[],w.drawn⟩,by simp[World.ext]⟩
end Go.Proofs.YtjhbofabmpfniaaGreatDoor
namespace Go.Proofs.YtjhbofabmpfniaaGreatDoor
open Go.RowKit
def ofP (l:List Rec) (set:List Nat):List Rec:=set.filterMap fun i=>l[i]?
end Go.Proofs.YtjhbofabmpfniaaGreatDoor
namespace Go.Proofs.YtjhbofabmpfniaaGreatDoor
section
variable {P:Program} {ops:Array Oper} {md:Region.Mode} {C:World->Prop}
end
end Go.Proofs.YtjhbofabmpfniaaGreatDoor
