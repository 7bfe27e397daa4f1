/-
  DERIVED. GIVEN WITH THE SEED: THE CARDS: each row of YtpohkolapgofdaaGreatDoorRows.lean that lists a variable, with what it lists TIED to the program's text (the seventh form; the later family's looks); each row that meets fmt, with fmt's text TOLD by the authors' own Lean function (tested against real Go, not proved from fmt's source: count such statements apart). THE CARD IS WHAT COUNTS. Prove the row's statement (the work); the ties are given (YtpohkolapgofdaaGreatDoorTie.lean); close each card by the builder's one call (the guide's Derived/Test/ToyasCard.lean, 'card_holds'). Laid BY PROGRAM, IN A SANDBOX (cutbox-door.mjs). By AI agents, Wed Nov 11 2026. No macro, syntax, notation, axiom, sorry.
-/
import Derived.Test.YtpohkolapgofdaaGreatDoorRows
import GoSem.ClaimSeven
namespace Go.Proofs.YtpohkolapgofdaaGreatDoor
namespace Rows

/-- THE TIED CARD OF 'mortsafelaw03.GraveEvents'. -/
def graveEventsCard : Claim7 := { stood := { row := graveEventsRow, standIns := [], harness := (true, "4cd77900cd9f82d1dbdc955ce0f759fafe65666db33c33e83bc8d0536cc8882f"), looks := true }, kinds := [], alts := [], laidByText := true, laidKinds := [.data, .data, .data, .data, .sentinel, .sentinel, .pinned], laidTests := true, laidLooks := .later }
def GraveEventsCardSaid : Prop := Claim7.holds Tryz.pinned (.plain (OpenSpec.ofChange graveEventsSpec)) graveEventsCard

/-- THE TIED CARD OF 'mortsafelaw03.GraveTexts'. -/
def graveTextsCard : Claim7 := { stood := { row := graveTextsRow, standIns := [], harness := (true, "4cd77900cd9f82d1dbdc955ce0f759fafe65666db33c33e83bc8d0536cc8882f"), looks := true }, kinds := [], alts := [], laidByText := true, laidKinds := [.data, .data, .data, .data, .sentinel, .sentinel, .pinned], laidTests := true, laidLooks := .later }
def GraveTextsCardSaid : Prop := Claim7.holds Tryz.pinned (.plain (OpenSpec.ofChange graveTextsSpec)) graveTextsCard

/-- THE SECOND FORM's CARD OF 'mortsafelaw03.GraveEvents'. -/
def graveEventsUptoCard : Claim7 := { stood := { row := graveEventsUptoRow, standIns := [], harness := (true, "4cd77900cd9f82d1dbdc955ce0f759fafe65666db33c33e83bc8d0536cc8882f"), looks := true }, kinds := [], alts := [], laidByText := true, laidKinds := [.data, .data, .data, .data, .sentinel, .sentinel, .pinned], laidTests := true, laidLooks := .later }
def GraveEventsUptoCardSaid : Prop := Claim7.holds Tryz.pinned (.plain (OpenSpec.upto graveEventsSpec)) graveEventsUptoCard

/-- THE SECOND FORM's CARD OF 'mortsafelaw03.GraveTexts'. -/
def graveTextsUptoCard : Claim7 := { stood := { row := graveTextsUptoRow, standIns := [], harness := (true, "4cd77900cd9f82d1dbdc955ce0f759fafe65666db33c33e83bc8d0536cc8882f"), looks := true }, kinds := [], alts := [], laidByText := true, laidKinds := [.data, .data, .data, .data, .sentinel, .sentinel, .pinned], laidTests := true, laidLooks := .later }
def GraveTextsUptoCardSaid : Prop := Claim7.holds Tryz.pinned (.plain (OpenSpec.upto graveTextsSpec)) graveTextsUptoCard
end Rows
end Go.Proofs.YtpohkolapgofdaaGreatDoor
