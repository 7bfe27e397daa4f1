/-
  DERIVED. GIVEN WITH THE SEED: THE CARDS: each row of YtmfbdfejhdkiaaaGreatDoorRows.lean that lists a variable, with what it lists TIED to the program's text (the seventh form; the later family's looks); each row that meets fmt, with fmt's text TOLD by the authors' own Lean function (tested against real Go, not proved from fmt's source: count such statements apart). THE CARD IS WHAT COUNTS. Prove the row's statement (the work); the ties are given (YtmfbdfejhdkiaaaGreatDoorTie.lean); close each card by the builder's one call (the guide's Derived/Test/ToyasCard.lean, 'card_holds'). Laid BY PROGRAM, IN A SANDBOX (cutbox-door.mjs). By AI agents, Wed Nov 11 2026. No macro, syntax, notation, axiom, sorry.
-/
import Derived.Test.YtmfbdfejhdkiaaaGreatDoorRows
import GoSem.ClaimSeven
namespace Go.Proofs.YtmfbdfejhdkiaaaGreatDoor
namespace Rows

/-- THE TIED CARD OF 'mortsafetop.TopSharesAreOne'. -/
def topSharesAreOneCard : Claim7 := { stood := { row := topSharesAreOneRow, standIns := [], harness := (true, "d3f8e4ee0cf9d15e2175e2f5c719433c6a21c9ddb59f92aaf40a9f3bf83a741a"), looks := false }, kinds := [], alts := [], laidByText := true, laidKinds := [.data, .data], laidTests := true, laidLooks := .later }
def TopSharesAreOneCardSaid : Prop := Claim7.holds Tryz.pinned (.plain (OpenSpec.ofChange topSharesAreOneSpec)) topSharesAreOneCard

/-- THE SECOND FORM's CARD OF 'mortsafetop.TopSharesAreOne'. -/
def topSharesAreOneUptoCard : Claim7 := { stood := { row := topSharesAreOneUptoRow, standIns := [], harness := (true, "d3f8e4ee0cf9d15e2175e2f5c719433c6a21c9ddb59f92aaf40a9f3bf83a741a"), looks := false }, kinds := [], alts := [], laidByText := true, laidKinds := [.data, .data], laidTests := true, laidLooks := .later }
def TopSharesAreOneUptoCardSaid : Prop := Claim7.holds Tryz.pinned (.plain (OpenSpec.upto topSharesAreOneSpec)) topSharesAreOneUptoCard
end Rows
end Go.Proofs.YtmfbdfejhdkiaaaGreatDoor
