import Derived.Test.YthhgkjfgpkbliaaGreatDoorXT
set_option linter.all false
set_option maxRecDepth 100000
set_option maxHeartbeats 4000000
namespace Go.Proofs.YthhgkjfgpkbliaaGreatDoor
open Go.RowKit
noncomputable def hOn (laws:List Law) (ds:List Deed) (place:ByteArray) (day:Int):Parts:=zbn (zaz laws ds day).1 place day
open Classical in
open Classical in
theorem go_same(laws:List Law){p q:Int}:∀(ds:List Deed) (s told:St) (k:Nat) (last:Int),(∀d∈ds,(d.day<=p↔d.day<=q))->zax laws p ds s told k last=zax laws q ds s told k last
 | [],_,_,_,_,_=>rfl
 |d::l,s,told,k,last,h=>by
  rw[zax,zax];have e:decide (d.day<=p)=decide (d.day<=q):=decide_eq_decide.2 (h d MbF);rw[e];split
  ·rfl
  ·exact go_same laws l _ _ _ _ fun x hx=>h x McG
theorem zln{laws:List Law}{ds:List Deed}{p q:Int}(h:∀d∈ds,(d.day<=p↔d.day<=q)):zaz laws ds p=zaz laws ds q:=by
 unfold zaz;split
 ·rfl
 ·exact go_same laws ds _ _ _ _ h
