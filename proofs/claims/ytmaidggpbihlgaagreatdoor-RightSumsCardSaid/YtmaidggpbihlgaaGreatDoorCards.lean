/-
  DERIVED. GIVEN WITH THE SEED: THE CARDS: each row of YtmaidggpbihlgaaGreatDoorRows.lean that lists a variable, with what it lists TIED to the program's text (the seventh form; the later family's looks); each row that meets fmt, with fmt's text TOLD by the authors' own Lean function (tested against real Go, not proved from fmt's source: count such statements apart). THE CARD IS WHAT COUNTS. Prove the row's statement (the work); the ties are given (YtmaidggpbihlgaaGreatDoorTie.lean); close each card by the builder's one call (the guide's Derived/Test/ToyasCard.lean, 'card_holds'). Laid BY PROGRAM, IN A SANDBOX (cutbox-door.mjs). By AI agents, Wed Nov 11 2026. No macro, syntax, notation, axiom, sorry.
-/
import Derived.Test.YtmaidggpbihlgaaGreatDoorRows
import GoSem.ClaimSeven
namespace Go.Proofs.YtmaidggpbihlgaaGreatDoor
namespace Rows

/-- THE TIED CARD OF 'mortsafelaw05.RightReplays'. -/
def rightReplaysCard : Claim7 := { stood := { row := rightReplaysRow, standIns := [], harness := (true, "f175cc7a393dc49895bf8f332fe68a59e2fd0cb17659ad7d7d260f12b47ea9ee"), looks := false }, kinds := [], alts := [], laidByText := true, laidKinds := [.data, .data, .data, .data], laidTests := true, laidLooks := .later }
def RightReplaysCardSaid : Prop := Claim7.holds Tryz.pinned (.plain (OpenSpec.ofChange rightReplaysSpec)) rightReplaysCard

/-- THE TIED CARD OF 'mortsafelaw05.RightSums'. -/
def rightSumsCard : Claim7 := { stood := { row := rightSumsRow, standIns := [], harness := (true, "f175cc7a393dc49895bf8f332fe68a59e2fd0cb17659ad7d7d260f12b47ea9ee"), looks := false }, kinds := [], alts := [], laidByText := true, laidKinds := [.data, .data, .data, .data], laidTests := true, laidLooks := .later }
def RightSumsCardSaid : Prop := Claim7.holds Tryz.pinned (.plain (OpenSpec.ofChange rightSumsSpec)) rightSumsCard

/-- THE TIED CARD OF 'mortsafelaw05.RightGives'. -/
def rightGivesCard : Claim7 := { stood := { row := rightGivesRow, standIns := [], harness := (true, "f175cc7a393dc49895bf8f332fe68a59e2fd0cb17659ad7d7d260f12b47ea9ee"), looks := false }, kinds := [], alts := [], laidByText := true, laidKinds := [.data, .data, .data, .data], laidTests := true, laidLooks := .later }
def RightGivesCardSaid : Prop := Claim7.holds Tryz.pinned (.plain (OpenSpec.ofChange rightGivesSpec)) rightGivesCard

/-- THE SECOND FORM's CARD OF 'mortsafelaw05.RightReplays'. -/
def rightReplaysUptoCard : Claim7 := { stood := { row := rightReplaysUptoRow, standIns := [], harness := (true, "f175cc7a393dc49895bf8f332fe68a59e2fd0cb17659ad7d7d260f12b47ea9ee"), looks := false }, kinds := [], alts := [], laidByText := true, laidKinds := [.data, .data, .data, .data], laidTests := true, laidLooks := .later }
def RightReplaysUptoCardSaid : Prop := Claim7.holds Tryz.pinned (.plain (OpenSpec.upto rightReplaysSpec)) rightReplaysUptoCard

/-- THE SECOND FORM's CARD OF 'mortsafelaw05.RightSums'. -/
def rightSumsUptoCard : Claim7 := { stood := { row := rightSumsUptoRow, standIns := [], harness := (true, "f175cc7a393dc49895bf8f332fe68a59e2fd0cb17659ad7d7d260f12b47ea9ee"), looks := false }, kinds := [], alts := [], laidByText := true, laidKinds := [.data, .data, .data, .data], laidTests := true, laidLooks := .later }
def RightSumsUptoCardSaid : Prop := Claim7.holds Tryz.pinned (.plain (OpenSpec.upto rightSumsSpec)) rightSumsUptoCard

/-- THE SECOND FORM's CARD OF 'mortsafelaw05.RightGives'. -/
def rightGivesUptoCard : Claim7 := { stood := { row := rightGivesUptoRow, standIns := [], harness := (true, "f175cc7a393dc49895bf8f332fe68a59e2fd0cb17659ad7d7d260f12b47ea9ee"), looks := false }, kinds := [], alts := [], laidByText := true, laidKinds := [.data, .data, .data, .data], laidTests := true, laidLooks := .later }
def RightGivesUptoCardSaid : Prop := Claim7.holds Tryz.pinned (.plain (OpenSpec.upto rightGivesSpec)) rightGivesUptoCard
end Rows
end Go.Proofs.YtmaidggpbihlgaaGreatDoor
