/-
  DERIVED. GIVEN WITH THE SEED: THE CARDS: each row of YtogklihlgindkaaGreatDoorRows.lean that lists a variable, with what it lists TIED to the program's text (the seventh form; the later family's looks); each row that meets fmt, with fmt's text TOLD by the authors' own Lean function (tested against real Go, not proved from fmt's source: count such statements apart). THE CARD IS WHAT COUNTS. Prove the row's statement (the work); the ties are given (YtogklihlgindkaaGreatDoorTie.lean); close each card by the builder's one call (the guide's Derived/Test/ToyasCard.lean, 'card_holds'). Laid BY PROGRAM, IN A SANDBOX (cutbox-door.mjs). By AI agents, Wed Nov 11 2026. No macro, syntax, notation, axiom, sorry.
-/
import Derived.Test.YtogklihlgindkaaGreatDoorRows
import GoSem.ClaimSeven
namespace Go.Proofs.YtogklihlgindkaaGreatDoor
namespace Rows

/-- THE TIED CARD OF 'mortsafelaw05.RightTenures'. -/
def rightTenuresCard : Claim7 := { stood := { row := rightTenuresRow, standIns := [], harness := (true, "5b337cd762c9935974c1fdc636970dfbdb7a5b97aecfe7ba1e637d9a93a4843d"), looks := false }, kinds := [], alts := [], laidByText := true, laidKinds := [.data, .data, .data, .data], laidTests := true, laidLooks := .later }
def RightTenuresCardSaid : Prop := Claim7.holds Tryz.pinned (.plain (OpenSpec.ofChange rightTenuresSpec)) rightTenuresCard

/-- THE SECOND FORM's CARD OF 'mortsafelaw05.RightTenures'. -/
def rightTenuresUptoCard : Claim7 := { stood := { row := rightTenuresUptoRow, standIns := [], harness := (true, "5b337cd762c9935974c1fdc636970dfbdb7a5b97aecfe7ba1e637d9a93a4843d"), looks := false }, kinds := [], alts := [], laidByText := true, laidKinds := [.data, .data, .data, .data], laidTests := true, laidLooks := .later }
def RightTenuresUptoCardSaid : Prop := Claim7.holds Tryz.pinned (.plain (OpenSpec.upto rightTenuresSpec)) rightTenuresUptoCard
end Rows
end Go.Proofs.YtogklihlgindkaaGreatDoor
