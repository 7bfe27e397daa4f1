/-
  DERIVED. GIVEN WITH THE SEED: THE CARDS: each row of YtckkbkdcdkhglaaGreatDoorRows.lean that lists a variable, with what it lists TIED to the program's text (the seventh form; the later family's looks); each row that meets fmt, with fmt's text TOLD by the authors' own Lean function (tested against real Go, not proved from fmt's source: count such statements apart). THE CARD IS WHAT COUNTS. Prove the row's statement (the work); the ties are given (YtckkbkdcdkhglaaGreatDoorTie.lean); close each card by the builder's one call (the guide's Derived/Test/ToyasCard.lean, 'card_holds'). Laid BY PROGRAM, IN A SANDBOX (cutbox-door.mjs). By AI agents, Wed Nov 11 2026. No macro, syntax, notation, axiom, sorry.
-/
import Derived.Test.YtckkbkdcdkhglaaGreatDoorRows
import GoSem.ClaimSeven
namespace Go.Proofs.YtckkbkdcdkhglaaGreatDoor
namespace Rows

/-- THE TIED CARD OF 'mortsafelaw05.RightHolders'. -/
def rightHoldersCard : Claim7 := { stood := { row := rightHoldersRow, standIns := [], harness := (true, "ea10add8fdf0a72273245d0aa5135a906a31a033605e79f2a737e091e7344b78"), looks := false }, kinds := [], alts := [], laidByText := true, laidKinds := [.data, .data, .data, .data], laidTests := true, laidLooks := .later }
def RightHoldersCardSaid : Prop := Claim7.holds Tryz.pinned (.plain (OpenSpec.ofChange rightHoldersSpec)) rightHoldersCard

/-- THE TIED CARD OF 'mortsafelaw05.RightEstates'. -/
def rightEstatesCard : Claim7 := { stood := { row := rightEstatesRow, standIns := [], harness := (true, "ea10add8fdf0a72273245d0aa5135a906a31a033605e79f2a737e091e7344b78"), looks := false }, kinds := [], alts := [], laidByText := true, laidKinds := [.data, .data, .data, .data], laidTests := true, laidLooks := .later }
def RightEstatesCardSaid : Prop := Claim7.holds Tryz.pinned (.plain (OpenSpec.ofChange rightEstatesSpec)) rightEstatesCard

/-- THE SECOND FORM's CARD OF 'mortsafelaw05.RightHolders'. -/
def rightHoldersUptoCard : Claim7 := { stood := { row := rightHoldersUptoRow, standIns := [], harness := (true, "ea10add8fdf0a72273245d0aa5135a906a31a033605e79f2a737e091e7344b78"), looks := false }, kinds := [], alts := [], laidByText := true, laidKinds := [.data, .data, .data, .data], laidTests := true, laidLooks := .later }
def RightHoldersUptoCardSaid : Prop := Claim7.holds Tryz.pinned (.plain (OpenSpec.upto rightHoldersSpec)) rightHoldersUptoCard

/-- THE SECOND FORM's CARD OF 'mortsafelaw05.RightEstates'. -/
def rightEstatesUptoCard : Claim7 := { stood := { row := rightEstatesUptoRow, standIns := [], harness := (true, "ea10add8fdf0a72273245d0aa5135a906a31a033605e79f2a737e091e7344b78"), looks := false }, kinds := [], alts := [], laidByText := true, laidKinds := [.data, .data, .data, .data], laidTests := true, laidLooks := .later }
def RightEstatesUptoCardSaid : Prop := Claim7.holds Tryz.pinned (.plain (OpenSpec.upto rightEstatesSpec)) rightEstatesUptoCard
end Rows
end Go.Proofs.YtckkbkdcdkhglaaGreatDoor
