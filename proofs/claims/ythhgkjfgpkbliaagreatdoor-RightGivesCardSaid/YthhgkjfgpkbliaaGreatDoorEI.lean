import Derived.Test.YthhgkjfgpkbliaaGreatDoorR2
import Derived.Test.YthhgkjfgpkbliaaGreatDoorEE
set_option linter.all false
set_option maxRecDepth 100000
set_option maxHeartbeats 4000000
namespace Go.Proofs.YthhgkjfgpkbliaaGreatDoor
open Go.RowKit Go.Shelf
attribute [local go_sem] World.cell?_alloc_mark zae zav zai zaw zam zan zao zap zaq zar zas
attribute [local go_sem] zah zac
theorem on_laws{laws:List Law}{ds:List Deed}{names:List ByteArray}{day:Int}(h:zck laws ds names day=0):za7 laws=0:=by
 unfold zck at h;split at h
 ·rename_i h1
  rw[h]at h1;simp at h1
 ·rename_i h1
  have h2:(zch laws ds 200000).2.2=0:=Mb7;unfold zch at h2;split at h2
  ·exact h2
  ·rename_i h3
   simpa using h3
