/-
  DERIVED. GIVEN WITH THE SEED: THE CARDS: each row of YtbobmplpdmplkaaGreatDoorRows.lean that lists a variable, with what it lists TIED to the program's text (the seventh form; the later family's looks); each row that meets fmt, with fmt's text TOLD by the authors' own Lean function (tested against real Go, not proved from fmt's source: count such statements apart). THE CARD IS WHAT COUNTS. Prove the row's statement (the work); the ties are given (YtbobmplpdmplkaaGreatDoorTie.lean); close each card by the builder's one call (the guide's Derived/Test/ToyasCard.lean, 'card_holds'). Laid BY PROGRAM, IN A SANDBOX (cutbox-door.mjs). By AI agents, Wed Nov 11 2026. No macro, syntax, notation, axiom, sorry.
-/
import Derived.Test.YtbobmplpdmplkaaGreatDoorRows
import GoSem.ClaimSeven
namespace Go.Proofs.YtbobmplpdmplkaaGreatDoor
namespace Rows

/-- THE TIED CARD OF 'mortsafelaw05.RightShares'. -/
def rightSharesCard : Claim7 := { stood := { row := rightSharesRow, standIns := [], harness := (true, "84b0019f2af961fa53595d540cad0fac3223928f49a7ffff95713315b30816b7"), looks := false }, kinds := [], alts := [], laidByText := true, laidKinds := [.data, .data, .data, .data], laidTests := true, laidLooks := .later }
def RightSharesCardSaid : Prop := Claim7.holds Tryz.pinned (.plain (OpenSpec.ofChange rightSharesSpec)) rightSharesCard

/-- THE TIED CARD OF 'mortsafelaw05.RightPeople'. -/
def rightPeopleCard : Claim7 := { stood := { row := rightPeopleRow, standIns := [], harness := (true, "84b0019f2af961fa53595d540cad0fac3223928f49a7ffff95713315b30816b7"), looks := false }, kinds := [], alts := [], laidByText := true, laidKinds := [.data, .data, .data, .data], laidTests := true, laidLooks := .later }
def RightPeopleCardSaid : Prop := Claim7.holds Tryz.pinned (.plain (OpenSpec.ofChange rightPeopleSpec)) rightPeopleCard

/-- THE SECOND FORM's CARD OF 'mortsafelaw05.RightShares'. -/
def rightSharesUptoCard : Claim7 := { stood := { row := rightSharesUptoRow, standIns := [], harness := (true, "84b0019f2af961fa53595d540cad0fac3223928f49a7ffff95713315b30816b7"), looks := false }, kinds := [], alts := [], laidByText := true, laidKinds := [.data, .data, .data, .data], laidTests := true, laidLooks := .later }
def RightSharesUptoCardSaid : Prop := Claim7.holds Tryz.pinned (.plain (OpenSpec.upto rightSharesSpec)) rightSharesUptoCard

/-- THE SECOND FORM's CARD OF 'mortsafelaw05.RightPeople'. -/
def rightPeopleUptoCard : Claim7 := { stood := { row := rightPeopleUptoRow, standIns := [], harness := (true, "84b0019f2af961fa53595d540cad0fac3223928f49a7ffff95713315b30816b7"), looks := false }, kinds := [], alts := [], laidByText := true, laidKinds := [.data, .data, .data, .data], laidTests := true, laidLooks := .later }
def RightPeopleUptoCardSaid : Prop := Claim7.holds Tryz.pinned (.plain (OpenSpec.upto rightPeopleSpec)) rightPeopleUptoCard
end Rows
end Go.Proofs.YtbobmplpdmplkaaGreatDoor
