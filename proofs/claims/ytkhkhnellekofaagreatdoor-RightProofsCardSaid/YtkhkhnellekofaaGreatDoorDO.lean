/- Numbers that come in as data. -/
import Derived.Test.YtkhkhnellekofaaGreatDoorDM
import Derived.Test.YtkhkhnellekofaaGreatDoorA3
set_option linter.unusedSimpArgs false
set_option linter.unusedVariables false
namespace Go.Proofs.YtkhkhnellekofaaGreatDoor
open Go.ChangeShapes Go.WideShapes Go.ChangeAt Go.RowKit Go.Deep Go.Shelf
section
variable {H:Type} {enc:TypeId×Value->H} {w:World} {base:Nat} {spare:Nat->Bool} {held:Bool}
set_option maxRecDepth 100000 in
theorem open_ints {v:Value} {d:DataW H} {p:List MemPlace} {r:Reach} {b0:Nat} (hv:Value.okWide Tryz.prog w r b0 25 v) (h:DataW.Trod enc Tryz.prog w base spare held 25 v d p):
 ∃(es:List Int) (E:Option Addr) (ec:Nat),v= .slice E es.length ec/\Sl w 1 zC E es/\es.length<=ec:=by
 obtain⟨a,len,cap,rfl⟩:=okWide_slice Tryz.underlying25 hv
 obtain⟨fuel,hf⟩:=h
 obtain⟨E,n,c,es,ea,hn,hS,hc,_⟩:=sl_of_trod (f:=zC) (size:=1) (by decide) zC_len Tryz.underlying25 k5_int open_int hf
 simp[Value.cells]at ea
 obtain⟨rfl,rfl,rfl⟩:=ea
 subst hn
 exact⟨es,_,_,rfl,hS,hc⟩
end
end Go.Proofs.YtkhkhnellekofaaGreatDoor
