/-
  DERIVED. GIVEN WITH THE SEED: THE CARDS: each row of YthhgkjfgpkbliaaGreatDoorRows.lean that lists a variable, with what it lists TIED to the program's text (the seventh form; the later family's looks); each row that meets fmt, with fmt's text TOLD by the authors' own Lean function (tested against real Go, not proved from fmt's source: count such statements apart). THE CARD IS WHAT COUNTS. Prove the row's statement (the work); the ties are given (YthhgkjfgpkbliaaGreatDoorTie.lean); close each card by the builder's one call (the guide's Derived/Test/ToyasCard.lean, 'card_holds'). Laid BY PROGRAM, IN A SANDBOX (cutbox-door.mjs). By AI agents, Wed Nov 11 2026. No macro, syntax, notation, axiom, sorry.
-/
import Derived.Test.YthhgkjfgpkbliaaGreatDoorRows
import GoSem.ClaimSeven
namespace Go.Proofs.YthhgkjfgpkbliaaGreatDoor
namespace Rows

/-- THE TIED CARD OF 'mortsafetop.TopSharesAreOne'. -/
def topSharesAreOneCard : Claim7 := { stood := { row := topSharesAreOneRow, standIns := [], harness := (true, "2e93f21d2ae852028a45fc10c46767c4ca73811abf52f2695f5c22b0404646b9"), looks := false }, kinds := [], alts := [], laidByText := true, laidKinds := [.data, .data], laidTests := true, laidLooks := .later }
def TopSharesAreOneCardSaid : Prop := Claim7.holds Tryz.pinned (.plain (OpenSpec.ofChange topSharesAreOneSpec)) topSharesAreOneCard

/-- THE TIED CARD OF 'mortsafelaw05.RightGives'. -/
def rightGivesCard : Claim7 := { stood := { row := rightGivesRow, standIns := [], harness := (true, "2e93f21d2ae852028a45fc10c46767c4ca73811abf52f2695f5c22b0404646b9"), looks := false }, kinds := [], alts := [], laidByText := true, laidKinds := [.data, .data, .data, .data], laidTests := true, laidLooks := .later }
def RightGivesCardSaid : Prop := Claim7.holds Tryz.pinned (.plain (OpenSpec.ofChange rightGivesSpec)) rightGivesCard

/-- THE TIED CARD OF 'mortsafelaw05.RightTenures'. -/
def rightTenuresCard : Claim7 := { stood := { row := rightTenuresRow, standIns := [], harness := (true, "2e93f21d2ae852028a45fc10c46767c4ca73811abf52f2695f5c22b0404646b9"), looks := false }, kinds := [], alts := [], laidByText := true, laidKinds := [.data, .data, .data, .data], laidTests := true, laidLooks := .later }
def RightTenuresCardSaid : Prop := Claim7.holds Tryz.pinned (.plain (OpenSpec.ofChange rightTenuresSpec)) rightTenuresCard

/-- THE TIED CARD OF 'mortsafelaw05.RightBurials'. -/
def rightBurialsCard : Claim7 := { stood := { row := rightBurialsRow, standIns := [], harness := (true, "2e93f21d2ae852028a45fc10c46767c4ca73811abf52f2695f5c22b0404646b9"), looks := false }, kinds := [], alts := [], laidByText := true, laidKinds := [.data, .data, .data, .data], laidTests := true, laidLooks := .later }
def RightBurialsCardSaid : Prop := Claim7.holds Tryz.pinned (.plain (OpenSpec.ofChange rightBurialsSpec)) rightBurialsCard

/-- THE SECOND FORM's CARD OF 'mortsafetop.TopSharesAreOne'. -/
def topSharesAreOneUptoCard : Claim7 := { stood := { row := topSharesAreOneUptoRow, standIns := [], harness := (true, "2e93f21d2ae852028a45fc10c46767c4ca73811abf52f2695f5c22b0404646b9"), looks := false }, kinds := [], alts := [], laidByText := true, laidKinds := [.data, .data], laidTests := true, laidLooks := .later }
def TopSharesAreOneUptoCardSaid : Prop := Claim7.holds Tryz.pinned (.plain (OpenSpec.upto topSharesAreOneSpec)) topSharesAreOneUptoCard

/-- THE SECOND FORM's CARD OF 'mortsafelaw05.RightGives'. -/
def rightGivesUptoCard : Claim7 := { stood := { row := rightGivesUptoRow, standIns := [], harness := (true, "2e93f21d2ae852028a45fc10c46767c4ca73811abf52f2695f5c22b0404646b9"), looks := false }, kinds := [], alts := [], laidByText := true, laidKinds := [.data, .data, .data, .data], laidTests := true, laidLooks := .later }
def RightGivesUptoCardSaid : Prop := Claim7.holds Tryz.pinned (.plain (OpenSpec.upto rightGivesSpec)) rightGivesUptoCard

/-- THE SECOND FORM's CARD OF 'mortsafelaw05.RightTenures'. -/
def rightTenuresUptoCard : Claim7 := { stood := { row := rightTenuresUptoRow, standIns := [], harness := (true, "2e93f21d2ae852028a45fc10c46767c4ca73811abf52f2695f5c22b0404646b9"), looks := false }, kinds := [], alts := [], laidByText := true, laidKinds := [.data, .data, .data, .data], laidTests := true, laidLooks := .later }
def RightTenuresUptoCardSaid : Prop := Claim7.holds Tryz.pinned (.plain (OpenSpec.upto rightTenuresSpec)) rightTenuresUptoCard

/-- THE SECOND FORM's CARD OF 'mortsafelaw05.RightBurials'. -/
def rightBurialsUptoCard : Claim7 := { stood := { row := rightBurialsUptoRow, standIns := [], harness := (true, "2e93f21d2ae852028a45fc10c46767c4ca73811abf52f2695f5c22b0404646b9"), looks := false }, kinds := [], alts := [], laidByText := true, laidKinds := [.data, .data, .data, .data], laidTests := true, laidLooks := .later }
def RightBurialsUptoCardSaid : Prop := Claim7.holds Tryz.pinned (.plain (OpenSpec.upto rightBurialsSpec)) rightBurialsUptoCard
end Rows
end Go.Proofs.YthhgkjfgpkbliaaGreatDoor
