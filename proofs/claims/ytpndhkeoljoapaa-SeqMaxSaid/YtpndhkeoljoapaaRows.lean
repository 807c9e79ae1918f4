/-
  No cell of these rows narrows 'for every input' (looked for: loops, veiled, ifaces, maps, wideKeys, modest, calm, conditions, laid).
  DERIVED. THE GIVEN ROWS OF THIS SEAT. 8 by the template 'for every input the law returns true; each argument reads behind the call as it read before'; 0 by the template 'total and deterministic' (their statements: YtpndhkeoljoapaaTotals.lean).
  GIVEN WITH THE SEED: the statements are not yours to turn. If you find one false, say at which input.
  Laid BY PROGRAM, IN A SANDBOX (cutbox-rows.mjs): the forced cells as the released guide's own fill.sh prints them over the translation ac88c78d9f44f3ba… (all of the seat's roots in one cut). By AI agents, Wed Nov 11 2026. No macro, syntax, notation, axiom, sorry.
-/
import Derived.Test.YtpndhkeoljoapaaChecked
import GoSem.Claim
import GoSem.ClaimJoined
import GoSem.ClaimMapViews
import Derived.JoinedTies
import Derived.KernelRfl
namespace Go.Proofs.Ytpndhkeoljoapaa
/- THE CELL 'sum', in the pinned program and in every row, IS THE sha256 OF THE DUMP (.gsa) THAT YtpndhkeoljoapaaProg.lean LOADS. Nothing in Lean hashes anything: it is a label: what it is worth is what the hold of that sum in a sandbox is worth. -/
noncomputable def Try.pinned : Pinned := { name := "ytpndhkeoljoapaa", sum := "ac88c78d9f44f3baa9b0c987a5c2aa23f541c2918c914a62f7058c0a8cd370d0", checked := Try.checked }
namespace Rows
def none {H : Type} : Left H := { results := [], args := [] }

/-- 'modillionlaw09.SeqSteps': WHATEVER THE INPUT: true; the input reads as it did. -/
def seqStepsSpec : ChangeSpec := { name := "seqSteps", fn := fun _ => fun
  | [d1, d2] => { results := [.lit (.bool true)], args := [d1, d2] }
  | _ => none }
def seqStepsRow : OpenClaim := { program := "ytpndhkeoljoapaa", sum := "ac88c78d9f44f3baa9b0c987a5c2aa23f541c2918c914a62f7058c0a8cd370d0", func := "modillion/modillionlaw09.SeqSteps", spec := "seqSteps", unfollowed := true, recurses := true, apart := false }
def SeqStepsSaid : Prop := seqStepsRow.holds Try.pinned (OpenSpec.ofChange seqStepsSpec)

/-- ITS FALSE NEIGHBOUR: 'it returns false'. Refute it at one input. -/
def seqStepsWrong : ChangeSpec := { name := "seqSteps", fn := fun _ => fun
  | [d1, d2] => { results := [.lit (.bool false)], args := [d1, d2] }
  | _ => none }
def SeqStepsWrongFalsely : Prop := seqStepsRow.holds Try.pinned (OpenSpec.ofChange seqStepsWrong)

/-- 'modillionlaw09.SeqTurned': WHATEVER THE INPUT: true; the input reads as it did. -/
def seqTurnedSpec : ChangeSpec := { name := "seqTurned", fn := fun _ => fun
  | [d1, d2, d3] => { results := [.lit (.bool true)], args := [d1, d2, d3] }
  | _ => none }
def seqTurnedRow : OpenClaim := { program := "ytpndhkeoljoapaa", sum := "ac88c78d9f44f3baa9b0c987a5c2aa23f541c2918c914a62f7058c0a8cd370d0", func := "modillion/modillionlaw09.SeqTurned", spec := "seqTurned", unfollowed := true, recurses := true, apart := false }
def SeqTurnedSaid : Prop := seqTurnedRow.holds Try.pinned (OpenSpec.ofChange seqTurnedSpec)

/-- ITS FALSE NEIGHBOUR: 'it returns false'. Refute it at one input. -/
def seqTurnedWrong : ChangeSpec := { name := "seqTurned", fn := fun _ => fun
  | [d1, d2, d3] => { results := [.lit (.bool false)], args := [d1, d2, d3] }
  | _ => none }
def SeqTurnedWrongFalsely : Prop := seqTurnedRow.holds Try.pinned (OpenSpec.ofChange seqTurnedWrong)

/-- 'modillionlaw09.SeqReaches': WHATEVER THE INPUT: true; the input reads as it did. -/
def seqReachesSpec : ChangeSpec := { name := "seqReaches", fn := fun _ => fun
  | [d1, d2] => { results := [.lit (.bool true)], args := [d1, d2] }
  | _ => none }
def seqReachesRow : OpenClaim := { program := "ytpndhkeoljoapaa", sum := "ac88c78d9f44f3baa9b0c987a5c2aa23f541c2918c914a62f7058c0a8cd370d0", func := "modillion/modillionlaw09.SeqReaches", spec := "seqReaches", unfollowed := true, recurses := true, apart := false }
def SeqReachesSaid : Prop := seqReachesRow.holds Try.pinned (OpenSpec.ofChange seqReachesSpec)

/-- ITS FALSE NEIGHBOUR: 'it returns false'. Refute it at one input. -/
def seqReachesWrong : ChangeSpec := { name := "seqReaches", fn := fun _ => fun
  | [d1, d2] => { results := [.lit (.bool false)], args := [d1, d2] }
  | _ => none }
def SeqReachesWrongFalsely : Prop := seqReachesRow.holds Try.pinned (OpenSpec.ofChange seqReachesWrong)

/-- 'modillionlaw09.SeqSends': WHATEVER THE INPUT: true; the input reads as it did. -/
def seqSendsSpec : ChangeSpec := { name := "seqSends", fn := fun _ => fun
  | [d1, d2, d3, d4] => { results := [.lit (.bool true)], args := [d1, d2, d3, d4] }
  | _ => none }
def seqSendsRow : OpenClaim := { program := "ytpndhkeoljoapaa", sum := "ac88c78d9f44f3baa9b0c987a5c2aa23f541c2918c914a62f7058c0a8cd370d0", func := "modillion/modillionlaw09.SeqSends", spec := "seqSends", unfollowed := true, recurses := true, apart := false }
def SeqSendsSaid : Prop := seqSendsRow.holds Try.pinned (OpenSpec.ofChange seqSendsSpec)

/-- ITS FALSE NEIGHBOUR: 'it returns false'. Refute it at one input. -/
def seqSendsWrong : ChangeSpec := { name := "seqSends", fn := fun _ => fun
  | [d1, d2, d3, d4] => { results := [.lit (.bool false)], args := [d1, d2, d3, d4] }
  | _ => none }
def SeqSendsWrongFalsely : Prop := seqSendsRow.holds Try.pinned (OpenSpec.ofChange seqSendsWrong)

/-- 'modillionlaw09.SeqDegrees': WHATEVER THE INPUT: true; the input reads as it did. -/
def seqDegreesSpec : ChangeSpec := { name := "seqDegrees", fn := fun _ => fun
  | [d1, d2] => { results := [.lit (.bool true)], args := [d1, d2] }
  | _ => none }
def seqDegreesRow : OpenClaim := { program := "ytpndhkeoljoapaa", sum := "ac88c78d9f44f3baa9b0c987a5c2aa23f541c2918c914a62f7058c0a8cd370d0", func := "modillion/modillionlaw09.SeqDegrees", spec := "seqDegrees", unfollowed := true, recurses := true, apart := false }
def SeqDegreesSaid : Prop := seqDegreesRow.holds Try.pinned (OpenSpec.ofChange seqDegreesSpec)

/-- ITS FALSE NEIGHBOUR: 'it returns false'. Refute it at one input. -/
def seqDegreesWrong : ChangeSpec := { name := "seqDegrees", fn := fun _ => fun
  | [d1, d2] => { results := [.lit (.bool false)], args := [d1, d2] }
  | _ => none }
def SeqDegreesWrongFalsely : Prop := seqDegreesRow.holds Try.pinned (OpenSpec.ofChange seqDegreesWrong)

/-- 'modillionlaw09.SeqLabels': WHATEVER THE INPUT: true; the input reads as it did. -/
def seqLabelsSpec : ChangeSpec := { name := "seqLabels", fn := fun _ => fun
  | [d] => { results := [.lit (.bool true)], args := [d] }
  | _ => none }
def seqLabelsRow : OpenClaim := { program := "ytpndhkeoljoapaa", sum := "ac88c78d9f44f3baa9b0c987a5c2aa23f541c2918c914a62f7058c0a8cd370d0", func := "modillion/modillionlaw09.SeqLabels", spec := "seqLabels", unfollowed := true, recurses := true, apart := false }
def SeqLabelsSaid : Prop := seqLabelsRow.holds Try.pinned (OpenSpec.ofChange seqLabelsSpec)

/-- ITS FALSE NEIGHBOUR: 'it returns false'. Refute it at one input. -/
def seqLabelsWrong : ChangeSpec := { name := "seqLabels", fn := fun _ => fun
  | [d] => { results := [.lit (.bool false)], args := [d] }
  | _ => none }
def SeqLabelsWrongFalsely : Prop := seqLabelsRow.holds Try.pinned (OpenSpec.ofChange seqLabelsWrong)

/-- 'modillionlaw09.SeqMax': WHATEVER THE INPUT: true; the input reads as it did. -/
def seqMaxSpec : ChangeSpec := { name := "seqMax", fn := fun _ => fun
  | [d] => { results := [.lit (.bool true)], args := [d] }
  | _ => none }
def seqMaxRow : OpenClaim := { program := "ytpndhkeoljoapaa", sum := "ac88c78d9f44f3baa9b0c987a5c2aa23f541c2918c914a62f7058c0a8cd370d0", func := "modillion/modillionlaw09.SeqMax", spec := "seqMax", unfollowed := true, recurses := true, apart := false }
def SeqMaxSaid : Prop := seqMaxRow.holds Try.pinned (OpenSpec.ofChange seqMaxSpec)

/-- ITS FALSE NEIGHBOUR: 'it returns false'. Refute it at one input. -/
def seqMaxWrong : ChangeSpec := { name := "seqMax", fn := fun _ => fun
  | [d] => { results := [.lit (.bool false)], args := [d] }
  | _ => none }
def SeqMaxWrongFalsely : Prop := seqMaxRow.holds Try.pinned (OpenSpec.ofChange seqMaxWrong)

/-- 'modillionlaw09.SeqPaths': WHATEVER THE INPUT: true; the input reads as it did. -/
def seqPathsSpec : ChangeSpec := { name := "seqPaths", fn := fun _ => fun
  | [d1, d2] => { results := [.lit (.bool true)], args := [d1, d2] }
  | _ => none }
def seqPathsRow : OpenClaim := { program := "ytpndhkeoljoapaa", sum := "ac88c78d9f44f3baa9b0c987a5c2aa23f541c2918c914a62f7058c0a8cd370d0", func := "modillion/modillionlaw09.SeqPaths", spec := "seqPaths", unfollowed := true, recurses := true, apart := false }
def SeqPathsSaid : Prop := seqPathsRow.holds Try.pinned (OpenSpec.ofChange seqPathsSpec)

/-- ITS FALSE NEIGHBOUR: 'it returns false'. Refute it at one input. -/
def seqPathsWrong : ChangeSpec := { name := "seqPaths", fn := fun _ => fun
  | [d1, d2] => { results := [.lit (.bool false)], args := [d1, d2] }
  | _ => none }
def SeqPathsWrongFalsely : Prop := seqPathsRow.holds Try.pinned (OpenSpec.ofChange seqPathsWrong)

/- THE SECOND FORM. 'bulk': how many values and letters a reading holds, each counted each time it is reached (what is shared counts as often as it is met; a slice's spare places count too). A statement '..UptoSaid' is the law's where the arguments, and the package variables that the reading takes, are together of bulk at most 1048576: NARROWER than '..Said'. Prove '..Said' where nothing that the law and all that it calls make is longer than what came in: it says more and counts as full. Else prove '..UptoSaid'. A law counts once. -/
mutual
def uptoBulk {H : Type} : DataW H → Nat
  | .lit (.string bytes) => bytes.length + 1
  | .lit _ => 1
  | .nil => 1
  | .ptr d => uptoBulk d + 1
  | .slice elems spare => uptoBulkAll elems + uptoBulkAll spare + 1
  | .agg parts => uptoBulkAll parts + 1
  | .iface _ d => uptoBulk d + 1
  | .map entries => uptoBulkEntries entries + 1
  | .held _ => 1
def uptoBulkAll {H : Type} : List (DataW H) → Nat
  | [] => 0
  | d :: r => uptoBulk d + uptoBulkAll r
def uptoBulkEntries {H : Type} : List (Lit × DataW H) → Nat
  | [] => 0
  | x :: r => uptoBulkEntry x + uptoBulkEntries r
def uptoBulkEntry {H : Type} : Lit × DataW H → Nat
  | (.string bytes, d) => bytes.length + uptoBulk d + 1
  | (_, d) => uptoBulk d + 1
 end
def uptoSmall : (H : Type) → List (DataW H) → Bool := fun _ ds => decide (uptoBulkAll ds ≤ 1048576)
def OpenSpec.upto (s : _root_.Go.ChangeSpec) : _root_.Go.OpenSpec := { _root_.Go.OpenSpec.ofChange s with cond := some uptoSmall }

/-- 'modillionlaw09.SeqSteps', WHERE WHAT IT READS IS OF BULK AT MOST 1048576: true; the input reads as it did. -/
def seqStepsUptoRow : OpenClaim := { program := "ytpndhkeoljoapaa", sum := "ac88c78d9f44f3baa9b0c987a5c2aa23f541c2918c914a62f7058c0a8cd370d0", func := "modillion/modillionlaw09.SeqSteps", spec := "seqSteps", unfollowed := true, recurses := true, apart := false, narrowed := true }
def SeqStepsUptoSaid : Prop := seqStepsUptoRow.holds Try.pinned (OpenSpec.upto seqStepsSpec)

/-- 'modillionlaw09.SeqTurned', WHERE WHAT IT READS IS OF BULK AT MOST 1048576: true; the input reads as it did. -/
def seqTurnedUptoRow : OpenClaim := { program := "ytpndhkeoljoapaa", sum := "ac88c78d9f44f3baa9b0c987a5c2aa23f541c2918c914a62f7058c0a8cd370d0", func := "modillion/modillionlaw09.SeqTurned", spec := "seqTurned", unfollowed := true, recurses := true, apart := false, narrowed := true }
def SeqTurnedUptoSaid : Prop := seqTurnedUptoRow.holds Try.pinned (OpenSpec.upto seqTurnedSpec)

/-- 'modillionlaw09.SeqReaches', WHERE WHAT IT READS IS OF BULK AT MOST 1048576: true; the input reads as it did. -/
def seqReachesUptoRow : OpenClaim := { program := "ytpndhkeoljoapaa", sum := "ac88c78d9f44f3baa9b0c987a5c2aa23f541c2918c914a62f7058c0a8cd370d0", func := "modillion/modillionlaw09.SeqReaches", spec := "seqReaches", unfollowed := true, recurses := true, apart := false, narrowed := true }
def SeqReachesUptoSaid : Prop := seqReachesUptoRow.holds Try.pinned (OpenSpec.upto seqReachesSpec)

/-- 'modillionlaw09.SeqSends', WHERE WHAT IT READS IS OF BULK AT MOST 1048576: true; the input reads as it did. -/
def seqSendsUptoRow : OpenClaim := { program := "ytpndhkeoljoapaa", sum := "ac88c78d9f44f3baa9b0c987a5c2aa23f541c2918c914a62f7058c0a8cd370d0", func := "modillion/modillionlaw09.SeqSends", spec := "seqSends", unfollowed := true, recurses := true, apart := false, narrowed := true }
def SeqSendsUptoSaid : Prop := seqSendsUptoRow.holds Try.pinned (OpenSpec.upto seqSendsSpec)

/-- 'modillionlaw09.SeqDegrees', WHERE WHAT IT READS IS OF BULK AT MOST 1048576: true; the input reads as it did. -/
def seqDegreesUptoRow : OpenClaim := { program := "ytpndhkeoljoapaa", sum := "ac88c78d9f44f3baa9b0c987a5c2aa23f541c2918c914a62f7058c0a8cd370d0", func := "modillion/modillionlaw09.SeqDegrees", spec := "seqDegrees", unfollowed := true, recurses := true, apart := false, narrowed := true }
def SeqDegreesUptoSaid : Prop := seqDegreesUptoRow.holds Try.pinned (OpenSpec.upto seqDegreesSpec)

/-- 'modillionlaw09.SeqLabels', WHERE WHAT IT READS IS OF BULK AT MOST 1048576: true; the input reads as it did. -/
def seqLabelsUptoRow : OpenClaim := { program := "ytpndhkeoljoapaa", sum := "ac88c78d9f44f3baa9b0c987a5c2aa23f541c2918c914a62f7058c0a8cd370d0", func := "modillion/modillionlaw09.SeqLabels", spec := "seqLabels", unfollowed := true, recurses := true, apart := false, narrowed := true }
def SeqLabelsUptoSaid : Prop := seqLabelsUptoRow.holds Try.pinned (OpenSpec.upto seqLabelsSpec)

/-- 'modillionlaw09.SeqMax', WHERE WHAT IT READS IS OF BULK AT MOST 1048576: true; the input reads as it did. -/
def seqMaxUptoRow : OpenClaim := { program := "ytpndhkeoljoapaa", sum := "ac88c78d9f44f3baa9b0c987a5c2aa23f541c2918c914a62f7058c0a8cd370d0", func := "modillion/modillionlaw09.SeqMax", spec := "seqMax", unfollowed := true, recurses := true, apart := false, narrowed := true }
def SeqMaxUptoSaid : Prop := seqMaxUptoRow.holds Try.pinned (OpenSpec.upto seqMaxSpec)

/-- 'modillionlaw09.SeqPaths', WHERE WHAT IT READS IS OF BULK AT MOST 1048576: true; the input reads as it did. -/
def seqPathsUptoRow : OpenClaim := { program := "ytpndhkeoljoapaa", sum := "ac88c78d9f44f3baa9b0c987a5c2aa23f541c2918c914a62f7058c0a8cd370d0", func := "modillion/modillionlaw09.SeqPaths", spec := "seqPaths", unfollowed := true, recurses := true, apart := false, narrowed := true }
def SeqPathsUptoSaid : Prop := seqPathsUptoRow.holds Try.pinned (OpenSpec.upto seqPathsSpec)

end Rows
end Go.Proofs.Ytpndhkeoljoapaa
