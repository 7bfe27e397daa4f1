/- Plain: disputes pass the program's check. -/
import Derived.Test.YtkhkhnellekofaaGreatDoorOV
import Derived.Test.YtkhkhnellekofaaGreatDoorUQ
import Derived.Test.YtkhkhnellekofaaGreatDoorUT
set_option linter.unusedSimpArgs false
set_option linter.unusedVariables false
namespace Go.Proofs.YtkhkhnellekofaaGreatDoor
open Go.RowKit Go.Shelf
theorem cd_min {l:List Rec} {ns:List Nat} (h0:checkRecsP l=0) (hs:SetOf l.length ns) (hm:Minimal l ns):cdR l (ns.map (fun(k:Nat)=>(k:Int)))=0:=by
 unfold cdR setErrP
 rw[miss_nats hs.2,dis_nats hs.1,nats_to,min_b hm,if_neg (by simp[h0])]
 rfl
end Go.Proofs.YtkhkhnellekofaaGreatDoor
