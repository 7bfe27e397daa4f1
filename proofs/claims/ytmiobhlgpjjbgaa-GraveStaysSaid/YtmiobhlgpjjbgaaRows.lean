/-
  No cell of these rows narrows 'for every input' (looked for: loops, veiled, ifaces, maps, wideKeys, modest, calm, conditions, laid).
  DERIVED. THE GIVEN ROWS OF THIS SEAT. 9 by the template 'for every input the law returns true; each argument reads behind the call as it read before'; 0 by the template 'total and deterministic' (their statements: YtmiobhlgpjjbgaaTotals.lean).
  GIVEN WITH THE SEED: the statements are not yours to turn. If you find one false, say at which input.
  Laid BY PROGRAM, IN A SANDBOX (cutbox-rows.mjs): the forced cells as the released guide's own fill.sh prints them over the translation 018b1c0aee04a3ca… (all of the seat's roots in one cut). By AI agents, Wed Nov 11 2026. No macro, syntax, notation, axiom, sorry.
-/
import Derived.Test.YtmiobhlgpjjbgaaChecked
import GoSem.Claim
import GoSem.ClaimJoined
import GoSem.ClaimMapViews
import Derived.JoinedTies
import Derived.KernelRfl
namespace Go.Proofs.Ytmiobhlgpjjbgaa
/- THE CELL 'sum', in the pinned program and in every row, IS THE sha256 OF THE DUMP (.gsa) THAT YtmiobhlgpjjbgaaProg.lean LOADS. Nothing in Lean hashes anything: it is a label: what it is worth is what the hold of that sum in a sandbox is worth. -/
noncomputable def Try.pinned : Pinned := { name := "ytmiobhlgpjjbgaa", sum := "018b1c0aee04a3ca0f717ea0ec379769457ba4445475a12e0c496128771e4c89", checked := Try.checked }
namespace Rows
def none {H : Type} : Left H := { results := [], args := [] }

/-- 'mortsafelaw03.GraveYards': WHATEVER THE INPUT: true; the input reads as it did. -/
def graveYardsSpec : ChangeSpec := { name := "graveYards", fn := fun _ => fun
  | [d] => { results := [.lit (.bool true)], args := [d] }
  | _ => none }
def graveYardsRow : OpenClaim := { program := "ytmiobhlgpjjbgaa", sum := "018b1c0aee04a3ca0f717ea0ec379769457ba4445475a12e0c496128771e4c89", func := "mortsafe/mortsafelaw03.GraveYards", spec := "graveYards", unfollowed := true, recurses := true, plainKeys := false, apart := false }
def GraveYardsSaid : Prop := graveYardsRow.holds Try.pinned (OpenSpec.ofChange graveYardsSpec)

/-- ITS FALSE NEIGHBOUR: 'it returns false'. Refute it at one input. -/
def graveYardsWrong : ChangeSpec := { name := "graveYards", fn := fun _ => fun
  | [d] => { results := [.lit (.bool false)], args := [d] }
  | _ => none }
def GraveYardsWrongFalsely : Prop := graveYardsRow.holds Try.pinned (OpenSpec.ofChange graveYardsWrong)

/-- 'mortsafelaw03.GraveStaysOn': WHATEVER THE INPUT: true; the input reads as it did. -/
def graveStaysOnSpec : ChangeSpec := { name := "graveStaysOn", fn := fun _ => fun
  | [d1, d2] => { results := [.lit (.bool true)], args := [d1, d2] }
  | _ => none }
def graveStaysOnRow : OpenClaim := { program := "ytmiobhlgpjjbgaa", sum := "018b1c0aee04a3ca0f717ea0ec379769457ba4445475a12e0c496128771e4c89", func := "mortsafe/mortsafelaw03.GraveStaysOn", spec := "graveStaysOn", unfollowed := true, recurses := true, plainKeys := false, apart := false }
def GraveStaysOnSaid : Prop := graveStaysOnRow.holds Try.pinned (OpenSpec.ofChange graveStaysOnSpec)

/-- ITS FALSE NEIGHBOUR: 'it returns false'. Refute it at one input. -/
def graveStaysOnWrong : ChangeSpec := { name := "graveStaysOn", fn := fun _ => fun
  | [d1, d2] => { results := [.lit (.bool false)], args := [d1, d2] }
  | _ => none }
def GraveStaysOnWrongFalsely : Prop := graveStaysOnRow.holds Try.pinned (OpenSpec.ofChange graveStaysOnWrong)

/-- 'mortsafelaw03.GraveLevels': WHATEVER THE INPUT: true; the input reads as it did. -/
def graveLevelsSpec : ChangeSpec := { name := "graveLevels", fn := fun _ => fun
  | [d1, d2, d3] => { results := [.lit (.bool true)], args := [d1, d2, d3] }
  | _ => none }
def graveLevelsRow : OpenClaim := { program := "ytmiobhlgpjjbgaa", sum := "018b1c0aee04a3ca0f717ea0ec379769457ba4445475a12e0c496128771e4c89", func := "mortsafe/mortsafelaw03.GraveLevels", spec := "graveLevels", unfollowed := true, recurses := true, plainKeys := false, apart := false }
def GraveLevelsSaid : Prop := graveLevelsRow.holds Try.pinned (OpenSpec.ofChange graveLevelsSpec)

/-- ITS FALSE NEIGHBOUR: 'it returns false'. Refute it at one input. -/
def graveLevelsWrong : ChangeSpec := { name := "graveLevels", fn := fun _ => fun
  | [d1, d2, d3] => { results := [.lit (.bool false)], args := [d1, d2, d3] }
  | _ => none }
def GraveLevelsWrongFalsely : Prop := graveLevelsRow.holds Try.pinned (OpenSpec.ofChange graveLevelsWrong)

/-- 'mortsafelaw03.GraveFree': WHATEVER THE INPUT: true; the input reads as it did. -/
def graveFreeSpec : ChangeSpec := { name := "graveFree", fn := fun _ => fun
  | [d1, d2, d3] => { results := [.lit (.bool true)], args := [d1, d2, d3] }
  | _ => none }
def graveFreeRow : OpenClaim := { program := "ytmiobhlgpjjbgaa", sum := "018b1c0aee04a3ca0f717ea0ec379769457ba4445475a12e0c496128771e4c89", func := "mortsafe/mortsafelaw03.GraveFree", spec := "graveFree", unfollowed := true, recurses := true, plainKeys := false, apart := false }
def GraveFreeSaid : Prop := graveFreeRow.holds Try.pinned (OpenSpec.ofChange graveFreeSpec)

/-- ITS FALSE NEIGHBOUR: 'it returns false'. Refute it at one input. -/
def graveFreeWrong : ChangeSpec := { name := "graveFree", fn := fun _ => fun
  | [d1, d2, d3] => { results := [.lit (.bool false)], args := [d1, d2, d3] }
  | _ => none }
def GraveFreeWrongFalsely : Prop := graveFreeRow.holds Try.pinned (OpenSpec.ofChange graveFreeWrong)

/-- 'mortsafelaw03.GraveLeft': WHATEVER THE INPUT: true; the input reads as it did. -/
def graveLeftSpec : ChangeSpec := { name := "graveLeft", fn := fun _ => fun
  | [d1, d2, d3] => { results := [.lit (.bool true)], args := [d1, d2, d3] }
  | _ => none }
def graveLeftRow : OpenClaim := { program := "ytmiobhlgpjjbgaa", sum := "018b1c0aee04a3ca0f717ea0ec379769457ba4445475a12e0c496128771e4c89", func := "mortsafe/mortsafelaw03.GraveLeft", spec := "graveLeft", unfollowed := true, recurses := true, plainKeys := false, apart := false }
def GraveLeftSaid : Prop := graveLeftRow.holds Try.pinned (OpenSpec.ofChange graveLeftSpec)

/-- ITS FALSE NEIGHBOUR: 'it returns false'. Refute it at one input. -/
def graveLeftWrong : ChangeSpec := { name := "graveLeft", fn := fun _ => fun
  | [d1, d2, d3] => { results := [.lit (.bool false)], args := [d1, d2, d3] }
  | _ => none }
def GraveLeftWrongFalsely : Prop := graveLeftRow.holds Try.pinned (OpenSpec.ofChange graveLeftWrong)

/-- 'mortsafelaw03.GraveStays': WHATEVER THE INPUT: true; the input reads as it did. -/
def graveStaysSpec : ChangeSpec := { name := "graveStays", fn := fun _ => fun
  | [d1, d2, d3] => { results := [.lit (.bool true)], args := [d1, d2, d3] }
  | _ => none }
def graveStaysRow : OpenClaim := { program := "ytmiobhlgpjjbgaa", sum := "018b1c0aee04a3ca0f717ea0ec379769457ba4445475a12e0c496128771e4c89", func := "mortsafe/mortsafelaw03.GraveStays", spec := "graveStays", unfollowed := true, recurses := true, plainKeys := false, apart := false }
def GraveStaysSaid : Prop := graveStaysRow.holds Try.pinned (OpenSpec.ofChange graveStaysSpec)

/-- ITS FALSE NEIGHBOUR: 'it returns false'. Refute it at one input. -/
def graveStaysWrong : ChangeSpec := { name := "graveStays", fn := fun _ => fun
  | [d1, d2, d3] => { results := [.lit (.bool false)], args := [d1, d2, d3] }
  | _ => none }
def GraveStaysWrongFalsely : Prop := graveStaysRow.holds Try.pinned (OpenSpec.ofChange graveStaysWrong)

/-- 'mortsafelaw03.GraveReplays': WHATEVER THE INPUT: true; the input reads as it did. -/
def graveReplaysSpec : ChangeSpec := { name := "graveReplays", fn := fun _ => fun
  | [d1, d2, d3] => { results := [.lit (.bool true)], args := [d1, d2, d3] }
  | _ => none }
def graveReplaysRow : OpenClaim := { program := "ytmiobhlgpjjbgaa", sum := "018b1c0aee04a3ca0f717ea0ec379769457ba4445475a12e0c496128771e4c89", func := "mortsafe/mortsafelaw03.GraveReplays", spec := "graveReplays", inPlace := ["internal/bytealg.abigen_runtime_cmpstring"], unfollowed := true, recurses := true, plainKeys := false, apart := false }
def GraveReplaysSaid : Prop := graveReplaysRow.holds Try.pinned (OpenSpec.ofChange graveReplaysSpec)

/-- ITS FALSE NEIGHBOUR: 'it returns false'. Refute it at one input. -/
def graveReplaysWrong : ChangeSpec := { name := "graveReplays", fn := fun _ => fun
  | [d1, d2, d3] => { results := [.lit (.bool false)], args := [d1, d2, d3] }
  | _ => none }
def GraveReplaysWrongFalsely : Prop := graveReplaysRow.holds Try.pinned (OpenSpec.ofChange graveReplaysWrong)

/-- 'mortsafelaw03.GraveOnePlace': WHATEVER THE INPUT: true; the input reads as it did. -/
def graveOnePlaceSpec : ChangeSpec := { name := "graveOnePlace", fn := fun _ => fun
  | [d1, d2, d3] => { results := [.lit (.bool true)], args := [d1, d2, d3] }
  | _ => none }
def graveOnePlaceRow : OpenClaim := { program := "ytmiobhlgpjjbgaa", sum := "018b1c0aee04a3ca0f717ea0ec379769457ba4445475a12e0c496128771e4c89", func := "mortsafe/mortsafelaw03.GraveOnePlace", spec := "graveOnePlace", inPlace := ["internal/bytealg.abigen_runtime_cmpstring"], unfollowed := true, recurses := true, plainKeys := false, apart := false }
def GraveOnePlaceSaid : Prop := graveOnePlaceRow.holds Try.pinned (OpenSpec.ofChange graveOnePlaceSpec)

/-- ITS FALSE NEIGHBOUR: 'it returns false'. Refute it at one input. -/
def graveOnePlaceWrong : ChangeSpec := { name := "graveOnePlace", fn := fun _ => fun
  | [d1, d2, d3] => { results := [.lit (.bool false)], args := [d1, d2, d3] }
  | _ => none }
def GraveOnePlaceWrongFalsely : Prop := graveOnePlaceRow.holds Try.pinned (OpenSpec.ofChange graveOnePlaceWrong)

/-- 'mortsafelaw03.GraveNeverEarly': WHATEVER THE INPUT: true; the input reads as it did. -/
def graveNeverEarlySpec : ChangeSpec := { name := "graveNeverEarly", fn := fun _ => fun
  | [d1, d2] => { results := [.lit (.bool true)], args := [d1, d2] }
  | _ => none }
def graveNeverEarlyRow : OpenClaim := { program := "ytmiobhlgpjjbgaa", sum := "018b1c0aee04a3ca0f717ea0ec379769457ba4445475a12e0c496128771e4c89", func := "mortsafe/mortsafelaw03.GraveNeverEarly", spec := "graveNeverEarly", inPlace := ["internal/bytealg.abigen_runtime_cmpstring"], unfollowed := true, recurses := true, plainKeys := false, apart := false }
def GraveNeverEarlySaid : Prop := graveNeverEarlyRow.holds Try.pinned (OpenSpec.ofChange graveNeverEarlySpec)

/-- ITS FALSE NEIGHBOUR: 'it returns false'. Refute it at one input. -/
def graveNeverEarlyWrong : ChangeSpec := { name := "graveNeverEarly", fn := fun _ => fun
  | [d1, d2] => { results := [.lit (.bool false)], args := [d1, d2] }
  | _ => none }
def GraveNeverEarlyWrongFalsely : Prop := graveNeverEarlyRow.holds Try.pinned (OpenSpec.ofChange graveNeverEarlyWrong)

/- THE SECOND FORM. 'bulk': how many values and letters a reading holds, each counted each time it is reached (what is shared counts as often as it is met; a slice's spare places count too). A statement '..UptoSaid' is the law's where the arguments, and the package variables that the reading takes, are together of bulk at most 1048576: NARROWER than '..Said'. Prove '..Said' where nothing that the law and all that it calls make is longer than what came in: it says more and counts as full. Else prove '..UptoSaid'. A law counts once. -/
mutual
def uptoBulk {H : Type} : DataW H → Nat
  | .lit (.string bytes) => bytes.length + 1
  | .lit _ => 1
  | .nil => 1
  | .ptr d => uptoBulk d + 1
  | .slice elems spare => uptoBulkAll elems + uptoBulkAll spare + 1
  | .agg parts => uptoBulkAll parts + 1
  | .iface _ d => uptoBulk d + 1
  | .map entries => uptoBulkEntries entries + 1
  | .held _ => 1
def uptoBulkAll {H : Type} : List (DataW H) → Nat
  | [] => 0
  | d :: r => uptoBulk d + uptoBulkAll r
def uptoBulkEntries {H : Type} : List (Lit × DataW H) → Nat
  | [] => 0
  | x :: r => uptoBulkEntry x + uptoBulkEntries r
def uptoBulkEntry {H : Type} : Lit × DataW H → Nat
  | (.string bytes, d) => bytes.length + uptoBulk d + 1
  | (_, d) => uptoBulk d + 1
 end
def uptoSmall : (H : Type) → List (DataW H) → Bool := fun _ ds => decide (uptoBulkAll ds ≤ 1048576)
def OpenSpec.upto (s : _root_.Go.ChangeSpec) : _root_.Go.OpenSpec := { _root_.Go.OpenSpec.ofChange s with cond := some uptoSmall }

/-- 'mortsafelaw03.GraveYards', WHERE WHAT IT READS IS OF BULK AT MOST 1048576: true; the input reads as it did. -/
def graveYardsUptoRow : OpenClaim := { program := "ytmiobhlgpjjbgaa", sum := "018b1c0aee04a3ca0f717ea0ec379769457ba4445475a12e0c496128771e4c89", func := "mortsafe/mortsafelaw03.GraveYards", spec := "graveYards", unfollowed := true, recurses := true, plainKeys := false, apart := false, narrowed := true }
def GraveYardsUptoSaid : Prop := graveYardsUptoRow.holds Try.pinned (OpenSpec.upto graveYardsSpec)

/-- 'mortsafelaw03.GraveStaysOn', WHERE WHAT IT READS IS OF BULK AT MOST 1048576: true; the input reads as it did. -/
def graveStaysOnUptoRow : OpenClaim := { program := "ytmiobhlgpjjbgaa", sum := "018b1c0aee04a3ca0f717ea0ec379769457ba4445475a12e0c496128771e4c89", func := "mortsafe/mortsafelaw03.GraveStaysOn", spec := "graveStaysOn", unfollowed := true, recurses := true, plainKeys := false, apart := false, narrowed := true }
def GraveStaysOnUptoSaid : Prop := graveStaysOnUptoRow.holds Try.pinned (OpenSpec.upto graveStaysOnSpec)

/-- 'mortsafelaw03.GraveLevels', WHERE WHAT IT READS IS OF BULK AT MOST 1048576: true; the input reads as it did. -/
def graveLevelsUptoRow : OpenClaim := { program := "ytmiobhlgpjjbgaa", sum := "018b1c0aee04a3ca0f717ea0ec379769457ba4445475a12e0c496128771e4c89", func := "mortsafe/mortsafelaw03.GraveLevels", spec := "graveLevels", unfollowed := true, recurses := true, plainKeys := false, apart := false, narrowed := true }
def GraveLevelsUptoSaid : Prop := graveLevelsUptoRow.holds Try.pinned (OpenSpec.upto graveLevelsSpec)

/-- 'mortsafelaw03.GraveFree', WHERE WHAT IT READS IS OF BULK AT MOST 1048576: true; the input reads as it did. -/
def graveFreeUptoRow : OpenClaim := { program := "ytmiobhlgpjjbgaa", sum := "018b1c0aee04a3ca0f717ea0ec379769457ba4445475a12e0c496128771e4c89", func := "mortsafe/mortsafelaw03.GraveFree", spec := "graveFree", unfollowed := true, recurses := true, plainKeys := false, apart := false, narrowed := true }
def GraveFreeUptoSaid : Prop := graveFreeUptoRow.holds Try.pinned (OpenSpec.upto graveFreeSpec)

/-- 'mortsafelaw03.GraveLeft', WHERE WHAT IT READS IS OF BULK AT MOST 1048576: true; the input reads as it did. -/
def graveLeftUptoRow : OpenClaim := { program := "ytmiobhlgpjjbgaa", sum := "018b1c0aee04a3ca0f717ea0ec379769457ba4445475a12e0c496128771e4c89", func := "mortsafe/mortsafelaw03.GraveLeft", spec := "graveLeft", unfollowed := true, recurses := true, plainKeys := false, apart := false, narrowed := true }
def GraveLeftUptoSaid : Prop := graveLeftUptoRow.holds Try.pinned (OpenSpec.upto graveLeftSpec)

/-- 'mortsafelaw03.GraveStays', WHERE WHAT IT READS IS OF BULK AT MOST 1048576: true; the input reads as it did. -/
def graveStaysUptoRow : OpenClaim := { program := "ytmiobhlgpjjbgaa", sum := "018b1c0aee04a3ca0f717ea0ec379769457ba4445475a12e0c496128771e4c89", func := "mortsafe/mortsafelaw03.GraveStays", spec := "graveStays", unfollowed := true, recurses := true, plainKeys := false, apart := false, narrowed := true }
def GraveStaysUptoSaid : Prop := graveStaysUptoRow.holds Try.pinned (OpenSpec.upto graveStaysSpec)

/-- 'mortsafelaw03.GraveReplays', WHERE WHAT IT READS IS OF BULK AT MOST 1048576: true; the input reads as it did. -/
def graveReplaysUptoRow : OpenClaim := { program := "ytmiobhlgpjjbgaa", sum := "018b1c0aee04a3ca0f717ea0ec379769457ba4445475a12e0c496128771e4c89", func := "mortsafe/mortsafelaw03.GraveReplays", spec := "graveReplays", inPlace := ["internal/bytealg.abigen_runtime_cmpstring"], unfollowed := true, recurses := true, plainKeys := false, apart := false, narrowed := true }
def GraveReplaysUptoSaid : Prop := graveReplaysUptoRow.holds Try.pinned (OpenSpec.upto graveReplaysSpec)

/-- 'mortsafelaw03.GraveOnePlace', WHERE WHAT IT READS IS OF BULK AT MOST 1048576: true; the input reads as it did. -/
def graveOnePlaceUptoRow : OpenClaim := { program := "ytmiobhlgpjjbgaa", sum := "018b1c0aee04a3ca0f717ea0ec379769457ba4445475a12e0c496128771e4c89", func := "mortsafe/mortsafelaw03.GraveOnePlace", spec := "graveOnePlace", inPlace := ["internal/bytealg.abigen_runtime_cmpstring"], unfollowed := true, recurses := true, plainKeys := false, apart := false, narrowed := true }
def GraveOnePlaceUptoSaid : Prop := graveOnePlaceUptoRow.holds Try.pinned (OpenSpec.upto graveOnePlaceSpec)

/-- 'mortsafelaw03.GraveNeverEarly', WHERE WHAT IT READS IS OF BULK AT MOST 1048576: true; the input reads as it did. -/
def graveNeverEarlyUptoRow : OpenClaim := { program := "ytmiobhlgpjjbgaa", sum := "018b1c0aee04a3ca0f717ea0ec379769457ba4445475a12e0c496128771e4c89", func := "mortsafe/mortsafelaw03.GraveNeverEarly", spec := "graveNeverEarly", inPlace := ["internal/bytealg.abigen_runtime_cmpstring"], unfollowed := true, recurses := true, plainKeys := false, apart := false, narrowed := true }
def GraveNeverEarlyUptoSaid : Prop := graveNeverEarlyUptoRow.holds Try.pinned (OpenSpec.upto graveNeverEarlySpec)

end Rows
end Go.Proofs.Ytmiobhlgpjjbgaa
