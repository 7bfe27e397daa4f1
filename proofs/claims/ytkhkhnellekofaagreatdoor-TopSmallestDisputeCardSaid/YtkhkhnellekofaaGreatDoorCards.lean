/-
  DERIVED. GIVEN WITH THE SEED: THE CARDS: each row of YtkhkhnellekofaaGreatDoorRows.lean that lists a variable, with what it lists TIED to the program's text (the seventh form; the later family's looks); each row that meets fmt, with fmt's text TOLD by the authors' own Lean function (tested against real Go, not proved from fmt's source: count such statements apart). THE CARD IS WHAT COUNTS. Prove the row's statement (the work); the ties are given (YtkhkhnellekofaaGreatDoorTie.lean); close each card by the builder's one call (the guide's Derived/Test/ToyasCard.lean, 'card_holds'). Laid BY PROGRAM, IN A SANDBOX (cutbox-door.mjs). By AI agents, Wed Nov 11 2026. No macro, syntax, notation, axiom, sorry.
-/
import Derived.Test.YtkhkhnellekofaaGreatDoorRows
import GoSem.ClaimSeven
namespace Go.Proofs.YtkhkhnellekofaaGreatDoor
namespace Rows

/-- THE TIED CARD OF 'mortsafetop.TopSmallestDispute'. -/
def topSmallestDisputeCard : Claim7 := { stood := { row := topSmallestDisputeRow, standIns := [], harness := (true, "dd5aa225d33a0cb8a933d313361c59613c0938c174dffbe6fda7be46cdb73902"), looks := false }, kinds := [], alts := [], laidByText := true, laidKinds := [.data, .data, .data, .data], laidTests := true, laidLooks := .later }
def TopSmallestDisputeCardSaid : Prop := Claim7.holds Tryz.pinned (.plain (OpenSpec.ofChange topSmallestDisputeSpec)) topSmallestDisputeCard

/-- THE TIED CARD OF 'mortsafelaw05.RightRecords'. -/
def rightRecordsCard : Claim7 := { stood := { row := rightRecordsRow, standIns := [], harness := (true, "dd5aa225d33a0cb8a933d313361c59613c0938c174dffbe6fda7be46cdb73902"), looks := false }, kinds := [], alts := [], laidByText := true, laidKinds := [.data, .data, .data, .data], laidTests := true, laidLooks := .later }
def RightRecordsCardSaid : Prop := Claim7.holds Tryz.pinned (.plain (OpenSpec.ofChange rightRecordsSpec)) rightRecordsCard

/-- THE TIED CARD OF 'mortsafelaw05.RightLaws'. -/
def rightLawsCard : Claim7 := { stood := { row := rightLawsRow, standIns := [], harness := (true, "dd5aa225d33a0cb8a933d313361c59613c0938c174dffbe6fda7be46cdb73902"), looks := false }, kinds := [], alts := [], laidByText := true, laidKinds := [.data, .data, .data, .data], laidTests := true, laidLooks := .later }
def RightLawsCardSaid : Prop := Claim7.holds Tryz.pinned (.plain (OpenSpec.ofChange rightLawsSpec)) rightLawsCard

/-- THE TIED CARD OF 'mortsafelaw05.RightProofs'. -/
def rightProofsCard : Claim7 := { stood := { row := rightProofsRow, standIns := [], harness := (true, "dd5aa225d33a0cb8a933d313361c59613c0938c174dffbe6fda7be46cdb73902"), looks := false }, kinds := [], alts := [], laidByText := true, laidKinds := [.data, .data, .data, .data], laidTests := true, laidLooks := .later }
def RightProofsCardSaid : Prop := Claim7.holds Tryz.pinned (.plain (OpenSpec.ofChange rightProofsSpec)) rightProofsCard

/-- THE TIED CARD OF 'mortsafelaw05.RightDisputes'. -/
def rightDisputesCard : Claim7 := { stood := { row := rightDisputesRow, standIns := [], harness := (true, "dd5aa225d33a0cb8a933d313361c59613c0938c174dffbe6fda7be46cdb73902"), looks := false }, kinds := [], alts := [], laidByText := true, laidKinds := [.data, .data, .data, .data], laidTests := true, laidLooks := .later }
def RightDisputesCardSaid : Prop := Claim7.holds Tryz.pinned (.plain (OpenSpec.ofChange rightDisputesSpec)) rightDisputesCard

/-- THE SECOND FORM's CARD OF 'mortsafetop.TopSmallestDispute'. -/
def topSmallestDisputeUptoCard : Claim7 := { stood := { row := topSmallestDisputeUptoRow, standIns := [], harness := (true, "dd5aa225d33a0cb8a933d313361c59613c0938c174dffbe6fda7be46cdb73902"), looks := false }, kinds := [], alts := [], laidByText := true, laidKinds := [.data, .data, .data, .data], laidTests := true, laidLooks := .later }
def TopSmallestDisputeUptoCardSaid : Prop := Claim7.holds Tryz.pinned (.plain (OpenSpec.upto topSmallestDisputeSpec)) topSmallestDisputeUptoCard

/-- THE SECOND FORM's CARD OF 'mortsafelaw05.RightRecords'. -/
def rightRecordsUptoCard : Claim7 := { stood := { row := rightRecordsUptoRow, standIns := [], harness := (true, "dd5aa225d33a0cb8a933d313361c59613c0938c174dffbe6fda7be46cdb73902"), looks := false }, kinds := [], alts := [], laidByText := true, laidKinds := [.data, .data, .data, .data], laidTests := true, laidLooks := .later }
def RightRecordsUptoCardSaid : Prop := Claim7.holds Tryz.pinned (.plain (OpenSpec.upto rightRecordsSpec)) rightRecordsUptoCard

/-- THE SECOND FORM's CARD OF 'mortsafelaw05.RightLaws'. -/
def rightLawsUptoCard : Claim7 := { stood := { row := rightLawsUptoRow, standIns := [], harness := (true, "dd5aa225d33a0cb8a933d313361c59613c0938c174dffbe6fda7be46cdb73902"), looks := false }, kinds := [], alts := [], laidByText := true, laidKinds := [.data, .data, .data, .data], laidTests := true, laidLooks := .later }
def RightLawsUptoCardSaid : Prop := Claim7.holds Tryz.pinned (.plain (OpenSpec.upto rightLawsSpec)) rightLawsUptoCard

/-- THE SECOND FORM's CARD OF 'mortsafelaw05.RightProofs'. -/
def rightProofsUptoCard : Claim7 := { stood := { row := rightProofsUptoRow, standIns := [], harness := (true, "dd5aa225d33a0cb8a933d313361c59613c0938c174dffbe6fda7be46cdb73902"), looks := false }, kinds := [], alts := [], laidByText := true, laidKinds := [.data, .data, .data, .data], laidTests := true, laidLooks := .later }
def RightProofsUptoCardSaid : Prop := Claim7.holds Tryz.pinned (.plain (OpenSpec.upto rightProofsSpec)) rightProofsUptoCard

/-- THE SECOND FORM's CARD OF 'mortsafelaw05.RightDisputes'. -/
def rightDisputesUptoCard : Claim7 := { stood := { row := rightDisputesUptoRow, standIns := [], harness := (true, "dd5aa225d33a0cb8a933d313361c59613c0938c174dffbe6fda7be46cdb73902"), looks := false }, kinds := [], alts := [], laidByText := true, laidKinds := [.data, .data, .data, .data], laidTests := true, laidLooks := .later }
def RightDisputesUptoCardSaid : Prop := Claim7.holds Tryz.pinned (.plain (OpenSpec.upto rightDisputesSpec)) rightDisputesUptoCard
end Rows
end Go.Proofs.YtkhkhnellekofaaGreatDoor
