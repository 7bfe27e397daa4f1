/- Walk of the program's Estate. -/
import Derived.Test.YtmfbdfejhdkiaaaGreatDoorWP
import Derived.Test.YtmfbdfejhdkiaaaGreatDoorEE
set_option linter.all false
set_option maxRecDepth 100000
set_option maxHeartbeats 4000000
namespace Go.Proofs.YtmfbdfejhdkiaaaGreatDoor
open Go.RowKit Go.Shelf
attribute [local go_sem] World.cell?_alloc_mark zae za4 zao za8 zav zaw zax zay zaz za0 za1
attribute [local go_sem] zap zac
theorem on_laws{laws:List Law}{ds:List Deed}{names:List ByteArray}{day:Int}(h:zct laws ds names day=0):za9 laws=0:=by
 unfold zct at h;split at h
 ·rename_i h1
  rw[h]at h1;simp at h1
 ·rename_i h1
  have h2:(zco laws ds 200000).2.2=0:=McZ;unfold zco at h2;split at h2
  ·exact h2
  ·rename_i h3
   simpa using h3
