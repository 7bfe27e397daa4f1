/- A range over a method value that is bound to its receiver: the guide's law for closures, with the bound arguments ahead of the loop's body. -/
import Derived.RangeFuncNested
import Derived.RangeFuncBound
import Derived.Shelf.RegionOpen
import Derived.OwnWalkIn
import Derived.LoopNIn
import Derived.LoopIn
import Derived.Test.YtmfbdfejhdkiaaaGreatDoorK0
set_option linter.all false
set_option maxRecDepth 100000
set_option maxHeartbeats 4000000
namespace Go.Proofs.YtmfbdfejhdkiaaaGreatDoor
open Go.RowKit
variable {F:Fence} {n:Nat} {P:Program}
