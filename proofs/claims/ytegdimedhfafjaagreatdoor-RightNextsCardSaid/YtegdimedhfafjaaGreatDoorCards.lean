/-
  DERIVED. GIVEN WITH THE SEED: THE CARDS: each row of YtegdimedhfafjaaGreatDoorRows.lean that lists a variable, with what it lists TIED to the program's text (the seventh form; the later family's looks); each row that meets fmt, with fmt's text TOLD by the authors' own Lean function (tested against real Go, not proved from fmt's source: count such statements apart). THE CARD IS WHAT COUNTS. Prove the row's statement (the work); the ties are given (YtegdimedhfafjaaGreatDoorTie.lean); close each card by the builder's one call (the guide's Derived/Test/ToyasCard.lean, 'card_holds'). Laid BY PROGRAM, IN A SANDBOX (cutbox-door.mjs). By AI agents, Wed Nov 11 2026. No macro, syntax, notation, axiom, sorry.
-/
import Derived.Test.YtegdimedhfafjaaGreatDoorRows
import GoSem.ClaimSeven
namespace Go.Proofs.YtegdimedhfafjaaGreatDoor
namespace Rows

/-- THE TIED CARD OF 'mortsafelaw05.RightNexts'. -/
def rightNextsCard : Claim7 := { stood := { row := rightNextsRow, standIns := [], harness := (true, "e3478cef0150dad9ededa981295cdd45393d21d811e1006e899b32e2adbea7b4"), looks := false }, kinds := [], alts := [], laidByText := true, laidKinds := [.data, .data, .data, .data], laidTests := true, laidLooks := .later }
def RightNextsCardSaid : Prop := Claim7.holds Tryz.pinned (.plain (OpenSpec.ofChange rightNextsSpec)) rightNextsCard

/-- THE SECOND FORM's CARD OF 'mortsafelaw05.RightNexts'. -/
def rightNextsUptoCard : Claim7 := { stood := { row := rightNextsUptoRow, standIns := [], harness := (true, "e3478cef0150dad9ededa981295cdd45393d21d811e1006e899b32e2adbea7b4"), looks := false }, kinds := [], alts := [], laidByText := true, laidKinds := [.data, .data, .data, .data], laidTests := true, laidLooks := .later }
def RightNextsUptoCardSaid : Prop := Claim7.holds Tryz.pinned (.plain (OpenSpec.upto rightNextsSpec)) rightNextsUptoCard
end Rows
end Go.Proofs.YtegdimedhfafjaaGreatDoor
