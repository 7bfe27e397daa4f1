/-
  DERIVED. GIVEN WITH THE SEED: THE CARDS: each row of YtjhbofabmpfniaaGreatDoorRows.lean that lists a variable, with what it lists TIED to the program's text (the seventh form; the later family's looks); each row that meets fmt, with fmt's text TOLD by the authors' own Lean function (tested against real Go, not proved from fmt's source: count such statements apart). THE CARD IS WHAT COUNTS. Prove the row's statement (the work); the ties are given (YtjhbofabmpfniaaGreatDoorTie.lean); close each card by the builder's one call (the guide's Derived/Test/ToyasCard.lean, 'card_holds'). Laid BY PROGRAM, IN A SANDBOX (cutbox-door.mjs). By AI agents, Wed Nov 11 2026. No macro, syntax, notation, axiom, sorry.
-/
import Derived.Test.YtjhbofabmpfniaaGreatDoorRows
import GoSem.ClaimSeven
namespace Go.Proofs.YtjhbofabmpfniaaGreatDoor
namespace Rows

/-- THE TIED CARD OF 'mortsafelaw05.RightReplays'. -/
def rightReplaysCard : Claim7 := { stood := { row := rightReplaysRow, standIns := [], harness := (true, "728d3d6088afe897ed9518237d54bfaaf6d4a00fbafa316b100aa6b4c7fc73a4"), looks := false }, kinds := [], alts := [], laidByText := true, laidKinds := [.data, .data, .data, .data], laidTests := true, laidLooks := .later }
def RightReplaysCardSaid : Prop := Claim7.holds Tryz.pinned (.plain (OpenSpec.ofChange rightReplaysSpec)) rightReplaysCard

/-- THE TIED CARD OF 'mortsafelaw05.RightHolders'. -/
def rightHoldersCard : Claim7 := { stood := { row := rightHoldersRow, standIns := [], harness := (true, "728d3d6088afe897ed9518237d54bfaaf6d4a00fbafa316b100aa6b4c7fc73a4"), looks := false }, kinds := [], alts := [], laidByText := true, laidKinds := [.data, .data, .data, .data], laidTests := true, laidLooks := .later }
def RightHoldersCardSaid : Prop := Claim7.holds Tryz.pinned (.plain (OpenSpec.ofChange rightHoldersSpec)) rightHoldersCard

/-- THE TIED CARD OF 'mortsafetop.TopSharesAreOne'. -/
def topSharesAreOneCard : Claim7 := { stood := { row := topSharesAreOneRow, standIns := [], harness := (true, "728d3d6088afe897ed9518237d54bfaaf6d4a00fbafa316b100aa6b4c7fc73a4"), looks := false }, kinds := [], alts := [], laidByText := true, laidKinds := [.data, .data], laidTests := true, laidLooks := .later }
def TopSharesAreOneCardSaid : Prop := Claim7.holds Tryz.pinned (.plain (OpenSpec.ofChange topSharesAreOneSpec)) topSharesAreOneCard

/-- THE TIED CARD OF 'mortsafelaw05.RightEstates'. -/
def rightEstatesCard : Claim7 := { stood := { row := rightEstatesRow, standIns := [], harness := (true, "728d3d6088afe897ed9518237d54bfaaf6d4a00fbafa316b100aa6b4c7fc73a4"), looks := false }, kinds := [], alts := [], laidByText := true, laidKinds := [.data, .data, .data, .data], laidTests := true, laidLooks := .later }
def RightEstatesCardSaid : Prop := Claim7.holds Tryz.pinned (.plain (OpenSpec.ofChange rightEstatesSpec)) rightEstatesCard

/-- THE TIED CARD OF 'mortsafelaw05.RightNexts'. -/
def rightNextsCard : Claim7 := { stood := { row := rightNextsRow, standIns := [], harness := (true, "728d3d6088afe897ed9518237d54bfaaf6d4a00fbafa316b100aa6b4c7fc73a4"), looks := false }, kinds := [], alts := [], laidByText := true, laidKinds := [.data, .data, .data, .data], laidTests := true, laidLooks := .later }
def RightNextsCardSaid : Prop := Claim7.holds Tryz.pinned (.plain (OpenSpec.ofChange rightNextsSpec)) rightNextsCard

/-- THE TIED CARD OF 'mortsafelaw05.RightGives'. -/
def rightGivesCard : Claim7 := { stood := { row := rightGivesRow, standIns := [], harness := (true, "728d3d6088afe897ed9518237d54bfaaf6d4a00fbafa316b100aa6b4c7fc73a4"), looks := false }, kinds := [], alts := [], laidByText := true, laidKinds := [.data, .data, .data, .data], laidTests := true, laidLooks := .later }
def RightGivesCardSaid : Prop := Claim7.holds Tryz.pinned (.plain (OpenSpec.ofChange rightGivesSpec)) rightGivesCard

/-- THE TIED CARD OF 'mortsafelaw05.RightShares'. -/
def rightSharesCard : Claim7 := { stood := { row := rightSharesRow, standIns := [], harness := (true, "728d3d6088afe897ed9518237d54bfaaf6d4a00fbafa316b100aa6b4c7fc73a4"), looks := false }, kinds := [], alts := [], laidByText := true, laidKinds := [.data, .data, .data, .data], laidTests := true, laidLooks := .later }
def RightSharesCardSaid : Prop := Claim7.holds Tryz.pinned (.plain (OpenSpec.ofChange rightSharesSpec)) rightSharesCard

/-- THE TIED CARD OF 'mortsafelaw05.RightPeople'. -/
def rightPeopleCard : Claim7 := { stood := { row := rightPeopleRow, standIns := [], harness := (true, "728d3d6088afe897ed9518237d54bfaaf6d4a00fbafa316b100aa6b4c7fc73a4"), looks := false }, kinds := [], alts := [], laidByText := true, laidKinds := [.data, .data, .data, .data], laidTests := true, laidLooks := .later }
def RightPeopleCardSaid : Prop := Claim7.holds Tryz.pinned (.plain (OpenSpec.ofChange rightPeopleSpec)) rightPeopleCard

/-- THE TIED CARD OF 'mortsafelaw05.RightTenures'. -/
def rightTenuresCard : Claim7 := { stood := { row := rightTenuresRow, standIns := [], harness := (true, "728d3d6088afe897ed9518237d54bfaaf6d4a00fbafa316b100aa6b4c7fc73a4"), looks := false }, kinds := [], alts := [], laidByText := true, laidKinds := [.data, .data, .data, .data], laidTests := true, laidLooks := .later }
def RightTenuresCardSaid : Prop := Claim7.holds Tryz.pinned (.plain (OpenSpec.ofChange rightTenuresSpec)) rightTenuresCard

/-- THE TIED CARD OF 'mortsafelaw05.RightBurials'. -/
def rightBurialsCard : Claim7 := { stood := { row := rightBurialsRow, standIns := [], harness := (true, "728d3d6088afe897ed9518237d54bfaaf6d4a00fbafa316b100aa6b4c7fc73a4"), looks := false }, kinds := [], alts := [], laidByText := true, laidKinds := [.data, .data, .data, .data], laidTests := true, laidLooks := .later }
def RightBurialsCardSaid : Prop := Claim7.holds Tryz.pinned (.plain (OpenSpec.ofChange rightBurialsSpec)) rightBurialsCard

/-- THE SECOND FORM's CARD OF 'mortsafelaw05.RightReplays'. -/
def rightReplaysUptoCard : Claim7 := { stood := { row := rightReplaysUptoRow, standIns := [], harness := (true, "728d3d6088afe897ed9518237d54bfaaf6d4a00fbafa316b100aa6b4c7fc73a4"), looks := false }, kinds := [], alts := [], laidByText := true, laidKinds := [.data, .data, .data, .data], laidTests := true, laidLooks := .later }
def RightReplaysUptoCardSaid : Prop := Claim7.holds Tryz.pinned (.plain (OpenSpec.upto rightReplaysSpec)) rightReplaysUptoCard

/-- THE SECOND FORM's CARD OF 'mortsafelaw05.RightHolders'. -/
def rightHoldersUptoCard : Claim7 := { stood := { row := rightHoldersUptoRow, standIns := [], harness := (true, "728d3d6088afe897ed9518237d54bfaaf6d4a00fbafa316b100aa6b4c7fc73a4"), looks := false }, kinds := [], alts := [], laidByText := true, laidKinds := [.data, .data, .data, .data], laidTests := true, laidLooks := .later }
def RightHoldersUptoCardSaid : Prop := Claim7.holds Tryz.pinned (.plain (OpenSpec.upto rightHoldersSpec)) rightHoldersUptoCard

/-- THE SECOND FORM's CARD OF 'mortsafetop.TopSharesAreOne'. -/
def topSharesAreOneUptoCard : Claim7 := { stood := { row := topSharesAreOneUptoRow, standIns := [], harness := (true, "728d3d6088afe897ed9518237d54bfaaf6d4a00fbafa316b100aa6b4c7fc73a4"), looks := false }, kinds := [], alts := [], laidByText := true, laidKinds := [.data, .data], laidTests := true, laidLooks := .later }
def TopSharesAreOneUptoCardSaid : Prop := Claim7.holds Tryz.pinned (.plain (OpenSpec.upto topSharesAreOneSpec)) topSharesAreOneUptoCard

/-- THE SECOND FORM's CARD OF 'mortsafelaw05.RightEstates'. -/
def rightEstatesUptoCard : Claim7 := { stood := { row := rightEstatesUptoRow, standIns := [], harness := (true, "728d3d6088afe897ed9518237d54bfaaf6d4a00fbafa316b100aa6b4c7fc73a4"), looks := false }, kinds := [], alts := [], laidByText := true, laidKinds := [.data, .data, .data, .data], laidTests := true, laidLooks := .later }
def RightEstatesUptoCardSaid : Prop := Claim7.holds Tryz.pinned (.plain (OpenSpec.upto rightEstatesSpec)) rightEstatesUptoCard

/-- THE SECOND FORM's CARD OF 'mortsafelaw05.RightNexts'. -/
def rightNextsUptoCard : Claim7 := { stood := { row := rightNextsUptoRow, standIns := [], harness := (true, "728d3d6088afe897ed9518237d54bfaaf6d4a00fbafa316b100aa6b4c7fc73a4"), looks := false }, kinds := [], alts := [], laidByText := true, laidKinds := [.data, .data, .data, .data], laidTests := true, laidLooks := .later }
def RightNextsUptoCardSaid : Prop := Claim7.holds Tryz.pinned (.plain (OpenSpec.upto rightNextsSpec)) rightNextsUptoCard

/-- THE SECOND FORM's CARD OF 'mortsafelaw05.RightGives'. -/
def rightGivesUptoCard : Claim7 := { stood := { row := rightGivesUptoRow, standIns := [], harness := (true, "728d3d6088afe897ed9518237d54bfaaf6d4a00fbafa316b100aa6b4c7fc73a4"), looks := false }, kinds := [], alts := [], laidByText := true, laidKinds := [.data, .data, .data, .data], laidTests := true, laidLooks := .later }
def RightGivesUptoCardSaid : Prop := Claim7.holds Tryz.pinned (.plain (OpenSpec.upto rightGivesSpec)) rightGivesUptoCard

/-- THE SECOND FORM's CARD OF 'mortsafelaw05.RightShares'. -/
def rightSharesUptoCard : Claim7 := { stood := { row := rightSharesUptoRow, standIns := [], harness := (true, "728d3d6088afe897ed9518237d54bfaaf6d4a00fbafa316b100aa6b4c7fc73a4"), looks := false }, kinds := [], alts := [], laidByText := true, laidKinds := [.data, .data, .data, .data], laidTests := true, laidLooks := .later }
def RightSharesUptoCardSaid : Prop := Claim7.holds Tryz.pinned (.plain (OpenSpec.upto rightSharesSpec)) rightSharesUptoCard

/-- THE SECOND FORM's CARD OF 'mortsafelaw05.RightPeople'. -/
def rightPeopleUptoCard : Claim7 := { stood := { row := rightPeopleUptoRow, standIns := [], harness := (true, "728d3d6088afe897ed9518237d54bfaaf6d4a00fbafa316b100aa6b4c7fc73a4"), looks := false }, kinds := [], alts := [], laidByText := true, laidKinds := [.data, .data, .data, .data], laidTests := true, laidLooks := .later }
def RightPeopleUptoCardSaid : Prop := Claim7.holds Tryz.pinned (.plain (OpenSpec.upto rightPeopleSpec)) rightPeopleUptoCard

/-- THE SECOND FORM's CARD OF 'mortsafelaw05.RightTenures'. -/
def rightTenuresUptoCard : Claim7 := { stood := { row := rightTenuresUptoRow, standIns := [], harness := (true, "728d3d6088afe897ed9518237d54bfaaf6d4a00fbafa316b100aa6b4c7fc73a4"), looks := false }, kinds := [], alts := [], laidByText := true, laidKinds := [.data, .data, .data, .data], laidTests := true, laidLooks := .later }
def RightTenuresUptoCardSaid : Prop := Claim7.holds Tryz.pinned (.plain (OpenSpec.upto rightTenuresSpec)) rightTenuresUptoCard

/-- THE SECOND FORM's CARD OF 'mortsafelaw05.RightBurials'. -/
def rightBurialsUptoCard : Claim7 := { stood := { row := rightBurialsUptoRow, standIns := [], harness := (true, "728d3d6088afe897ed9518237d54bfaaf6d4a00fbafa316b100aa6b4c7fc73a4"), looks := false }, kinds := [], alts := [], laidByText := true, laidKinds := [.data, .data, .data, .data], laidTests := true, laidLooks := .later }
def RightBurialsUptoCardSaid : Prop := Claim7.holds Tryz.pinned (.plain (OpenSpec.upto rightBurialsSpec)) rightBurialsUptoCard
end Rows
end Go.Proofs.YtjhbofabmpfniaaGreatDoor
