/-
  NARROWER THAN 'FOR EVERY INPUT', by the rows' own cells (each row's printed sentence says how): TopSharesAreOne: laid.
  DERIVED. THE GIVEN ROWS OF THIS SEAT. 1 by the template 'for every input the law returns true; each argument reads behind the call as it read before'; 0 by the template 'total and deterministic' (their statements: YtmfbdfejhdkiaaaGreatDoorTotals.lean).
  GIVEN WITH THE SEED: the statements are not yours to turn. If you find one false, say at which input.
  Laid BY PROGRAM, IN A SANDBOX (cutbox-rows.mjs): the forced cells as the released guide's own fill.sh prints them over the translation 0ca35d8a8e9ddf1e… (all of the seat's roots in one cut). By AI agents, Wed Nov 11 2026. No macro, syntax, notation, axiom, sorry.
-/
import Derived.Test.YtmfbdfejhdkiaaaGreatDoorChecked
import GoSem.Claim
import GoSem.ClaimJoined
import GoSem.ClaimMapViews
import Derived.JoinedTies
import Derived.KernelRfl
namespace Go.Proofs.YtmfbdfejhdkiaaaGreatDoor
/- THE CELL 'sum', in the pinned program and in every row, IS THE sha256 OF THE DUMP (.gsa) THAT YtmfbdfejhdkiaaaGreatDoorProg.lean LOADS. Nothing in Lean hashes anything: it is a label: what it is worth is what the hold of that sum in a sandbox is worth. -/
noncomputable def Tryz.pinned : Pinned := { name := "ytmfbdfejhdkiaaagreatdoor", sum := "0ca35d8a8e9ddf1e5b4ff4fe598c7ddc62d90bdcf9f300360d72af6b1e12f8fd", checked := Tryz.checked }
namespace Rows
def none {H : Type} : Left H := { results := [], args := [] }

/- WHAT THE LISTED PACKAGE-LEVEL VARIABLES READ AS WHEN THE CALL BEGINS. Each datum BY PROGRAM (the guide's laid-datum.mjs) off the statement by which the dump's own 'gosem.cut.vars' lays the variable. In a bare row this is a premise. The card (YtmfbdfejhdkiaaaGreatDoorCards.lean) ties it to the program's text. -/
def laid_mortsafe_rule_lengths {H : Type} : DataW H := .agg [.lit (.int .i64 31), .lit (.int .i64 28), .lit (.int .i64 31), .lit (.int .i64 30), .lit (.int .i64 31), .lit (.int .i64 30), .lit (.int .i64 31), .lit (.int .i64 31), .lit (.int .i64 30), .lit (.int .i64 31), .lit (.int .i64 30), .lit (.int .i64 31)]
def laid_mortsafe_right_forms {H : Type} : DataW H := .agg [.agg [.lit (.string [103, 114, 97, 110, 116]), .lit (.bool true), .lit (.bool false), .lit (.bool true), .lit (.bool true), .lit (.bool true), .lit (.bool true), .lit (.bool true)], .agg [.lit (.string [116, 114, 97, 110, 115, 102, 101, 114]), .lit (.bool true), .lit (.bool true), .lit (.bool false), .lit (.bool false), .lit (.bool false), .lit (.bool true), .lit (.bool true)], .agg [.lit (.string [115, 117, 114, 114, 101, 110, 100, 101, 114]), .lit (.bool true), .lit (.bool true), .lit (.bool false), .lit (.bool false), .lit (.bool false), .lit (.bool false), .lit (.bool false)], .agg [.lit (.string [114, 101, 110, 101, 119, 97, 108]), .lit (.bool true), .lit (.bool false), .lit (.bool false), .lit (.bool true), .lit (.bool false), .lit (.bool false), .lit (.bool false)], .agg [.lit (.string [119, 105, 108, 108]), .lit (.bool false), .lit (.bool true), .lit (.bool false), .lit (.bool false), .lit (.bool false), .lit (.bool true), .lit (.bool true)], .agg [.lit (.string [114, 101, 110, 111, 117, 110, 99, 101]), .lit (.bool false), .lit (.bool true), .lit (.bool false), .lit (.bool false), .lit (.bool false), .lit (.bool true), .lit (.bool false)], .agg [.lit (.string [99, 104, 105, 108, 100]), .lit (.bool false), .lit (.bool true), .lit (.bool false), .lit (.bool false), .lit (.bool false), .lit (.bool true), .lit (.bool false)], .agg [.lit (.string [109, 97, 114, 114, 105, 97, 103, 101]), .lit (.bool false), .lit (.bool true), .lit (.bool false), .lit (.bool false), .lit (.bool false), .lit (.bool true), .lit (.bool false)], .agg [.lit (.string [100, 101, 97, 116, 104]), .lit (.bool false), .lit (.bool true), .lit (.bool false), .lit (.bool false), .lit (.bool false), .lit (.bool false), .lit (.bool false)]]

/-- 'mortsafetop.TopSharesAreOne': WHATEVER THE INPUT: true; the input reads as it did. -/
def topSharesAreOneSpec : ChangeSpec := { name := "topSharesAreOne", fn := fun _ => fun
  | [d1, d2] => { results := [.lit (.bool true)], args := [d1, d2] }
  | _ => none }
def topSharesAreOneRow : OpenClaim := { program := "ytmfbdfejhdkiaaagreatdoor", sum := "0ca35d8a8e9ddf1e5b4ff4fe598c7ddc62d90bdcf9f300360d72af6b1e12f8fd", func := "mortsafe/mortsafetop.TopSharesAreOne", spec := "topSharesAreOne", inPlace := ["internal/bytealg.abigen_runtime_cmpstring", "slices.overlaps[mortsafe/api.Part]"], unfollowed := true, recurses := true, named := ["mortsafe/right.forms", "mortsafe/rule.lengths"], plainKeys := false, apart := false, laid := [("mortsafe/rule.lengths", laid_mortsafe_rule_lengths), ("mortsafe/right.forms", laid_mortsafe_right_forms)] }
def TopSharesAreOneSaid : Prop := topSharesAreOneRow.holds Tryz.pinned (OpenSpec.ofChange topSharesAreOneSpec)

/-- ITS FALSE NEIGHBOUR: 'it returns false'. Refute it at one input. -/
def topSharesAreOneWrong : ChangeSpec := { name := "topSharesAreOne", fn := fun _ => fun
  | [d1, d2] => { results := [.lit (.bool false)], args := [d1, d2] }
  | _ => none }
def TopSharesAreOneWrongFalsely : Prop := topSharesAreOneRow.holds Tryz.pinned (OpenSpec.ofChange topSharesAreOneWrong)

/- THE SECOND FORM. 'bulk': how many values and letters a reading holds, each counted each time it is reached (what is shared counts as often as it is met; a slice's spare places count too). A statement '..UptoSaid' is the law's where the arguments, and the package variables that the reading takes, are together of bulk at most 1048576: NARROWER than '..Said'. Prove '..Said' where nothing that the law and all that it calls make is longer than what came in: it says more and counts as full. Else prove '..UptoSaid'. A law counts once. -/
mutual
def uptoBulk {H : Type} : DataW H → Nat
  | .lit (.string bytes) => bytes.length + 1
  | .lit _ => 1
  | .nil => 1
  | .ptr d => uptoBulk d + 1
  | .slice elems spare => uptoBulkAll elems + uptoBulkAll spare + 1
  | .agg parts => uptoBulkAll parts + 1
  | .iface _ d => uptoBulk d + 1
  | .map entries => uptoBulkEntries entries + 1
  | .held _ => 1
def uptoBulkAll {H : Type} : List (DataW H) → Nat
  | [] => 0
  | d :: r => uptoBulk d + uptoBulkAll r
def uptoBulkEntries {H : Type} : List (Lit × DataW H) → Nat
  | [] => 0
  | x :: r => uptoBulkEntry x + uptoBulkEntries r
def uptoBulkEntry {H : Type} : Lit × DataW H → Nat
  | (.string bytes, d) => bytes.length + uptoBulk d + 1
  | (_, d) => uptoBulk d + 1
 end
def uptoSmall : (H : Type) → List (DataW H) → Bool := fun _ ds => decide (uptoBulkAll ds ≤ 1048576)
def OpenSpec.upto (s : _root_.Go.ChangeSpec) : _root_.Go.OpenSpec := { _root_.Go.OpenSpec.ofChange s with cond := some uptoSmall }

/-- 'mortsafetop.TopSharesAreOne', WHERE WHAT IT READS IS OF BULK AT MOST 1048576: true; the input reads as it did. -/
def topSharesAreOneUptoRow : OpenClaim := { program := "ytmfbdfejhdkiaaagreatdoor", sum := "0ca35d8a8e9ddf1e5b4ff4fe598c7ddc62d90bdcf9f300360d72af6b1e12f8fd", func := "mortsafe/mortsafetop.TopSharesAreOne", spec := "topSharesAreOne", inPlace := ["internal/bytealg.abigen_runtime_cmpstring", "slices.overlaps[mortsafe/api.Part]"], unfollowed := true, recurses := true, named := ["mortsafe/right.forms", "mortsafe/rule.lengths"], plainKeys := false, apart := false, laid := [("mortsafe/rule.lengths", laid_mortsafe_rule_lengths), ("mortsafe/right.forms", laid_mortsafe_right_forms)], narrowed := true }
def TopSharesAreOneUptoSaid : Prop := topSharesAreOneUptoRow.holds Tryz.pinned (OpenSpec.upto topSharesAreOneSpec)

end Rows
end Go.Proofs.YtmfbdfejhdkiaaaGreatDoor
