import Derived.Test.YtogklihlgindkaaGreatDoorOD
import Derived.Test.YtogklihlgindkaaGreatDoorEE
set_option linter.all false
set_option maxRecDepth 100000
set_option maxHeartbeats 4000000
namespace Go.Proofs.YtogklihlgindkaaGreatDoor
open Go.RowKit Go.Shelf
attribute [local go_sem] World.cell?_alloc_mark zaf za3 zam za6 zat zau zav zaw zax zay zaz
attribute [local go_sem] zao zac
def on_laws{laws:List Law}{ds:List Deed}{names:List ByteArray}{day:Int}(h:zce laws ds names day=0):zaC laws=0:=by
 unfold zce at h;split at h
 ·rename_i h1
  rw[h]at h1;simp at h1
 ·rename_i h1
  have h2:(zd7 laws ds 200000).2.2=0:=Mdp;unfold zd7 at h2;split at h2
  ·exact h2
  ·rename_i h3
   simpa using h3
