/-
  DERIVED. GIVEN WITH THE SEED: THE CARDS: each row of YtcfheecahnnhjaaGreatDoorRows.lean that lists a variable, with what it lists TIED to the program's text (the seventh form; the later family's looks); each row that meets fmt, with fmt's text TOLD by the authors' own Lean function (tested against real Go, not proved from fmt's source: count such statements apart). THE CARD IS WHAT COUNTS. Prove the row's statement (the work); the ties are given (YtcfheecahnnhjaaGreatDoorTie.lean); close each card by the builder's one call (the guide's Derived/Test/ToyasCard.lean, 'card_holds'). Laid BY PROGRAM, IN A SANDBOX (cutbox-door.mjs). By AI agents, Wed Nov 11 2026. No macro, syntax, notation, axiom, sorry.
-/
import Derived.Test.YtcfheecahnnhjaaGreatDoorRows
import GoSem.ClaimSeven
namespace Go.Proofs.YtcfheecahnnhjaaGreatDoor
namespace Rows

/-- THE TIED CARD OF 'mortsafelaw05.RightShares'. -/
def rightSharesCard : Claim7 := { stood := { row := rightSharesRow, standIns := [], harness := (true, "10d506da9ee3011fd72c5cb930176740b1ac3546ffe3362a9603668e378c19bd"), looks := false }, kinds := [], alts := [], laidByText := true, laidKinds := [.data, .data, .data, .data], laidTests := true, laidLooks := .later }
def RightSharesCardSaid : Prop := Claim7.holds Tryz.pinned (.plain (OpenSpec.ofChange rightSharesSpec)) rightSharesCard

/-- THE SECOND FORM's CARD OF 'mortsafelaw05.RightShares'. -/
def rightSharesUptoCard : Claim7 := { stood := { row := rightSharesUptoRow, standIns := [], harness := (true, "10d506da9ee3011fd72c5cb930176740b1ac3546ffe3362a9603668e378c19bd"), looks := false }, kinds := [], alts := [], laidByText := true, laidKinds := [.data, .data, .data, .data], laidTests := true, laidLooks := .later }
def RightSharesUptoCardSaid : Prop := Claim7.holds Tryz.pinned (.plain (OpenSpec.upto rightSharesSpec)) rightSharesUptoCard
end Rows
end Go.Proofs.YtcfheecahnnhjaaGreatDoor
