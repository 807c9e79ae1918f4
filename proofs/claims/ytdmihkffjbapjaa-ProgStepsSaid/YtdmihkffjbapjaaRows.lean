/-
  No cell of these rows narrows 'for every input' (looked for: loops, veiled, ifaces, maps, wideKeys, modest, calm, conditions, laid).
  DERIVED. THE GIVEN ROWS OF THIS SEAT. 7 by the template 'for every input the law returns true; each argument reads behind the call as it read before'; 0 by the template 'total and deterministic' (their statements: YtdmihkffjbapjaaTotals.lean).
  GIVEN WITH THE SEED: the statements are not yours to turn. If you find one false, say at which input.
  Laid BY PROGRAM, IN A SANDBOX (cutbox-rows.mjs): the forced cells as the released guide's own fill.sh prints them over the translation 301428fe7264242e… (all of the seat's roots in one cut). By AI agents, Wed Nov 11 2026. No macro, syntax, notation, axiom, sorry.
-/
import Derived.Test.YtdmihkffjbapjaaChecked
import GoSem.Claim
import GoSem.ClaimJoined
import GoSem.ClaimMapViews
import Derived.JoinedTies
import Derived.KernelRfl
namespace Go.Proofs.Ytdmihkffjbapjaa
/- THE CELL 'sum', in the pinned program and in every row, IS THE sha256 OF THE DUMP (.gsa) THAT YtdmihkffjbapjaaProg.lean LOADS. Nothing in Lean hashes anything: it is a label: what it is worth is what the hold of that sum in a sandbox is worth. -/
noncomputable def Try.pinned : Pinned := { name := "ytdmihkffjbapjaa", sum := "301428fe7264242edf2ca2bde9107f4b7d3a2a97594e923cc80a9da484973bb4", checked := Try.checked }
namespace Rows
def none {H : Type} : Left H := { results := [], args := [] }

/-- 'modillionlaw07.ProgSteps': WHATEVER THE INPUT: true; the input reads as it did. -/
def progStepsSpec : ChangeSpec := { name := "progSteps", fn := fun _ => fun
  | [d1, d2, d3, d4] => { results := [.lit (.bool true)], args := [d1, d2, d3, d4] }
  | _ => none }
def progStepsRow : OpenClaim := { program := "ytdmihkffjbapjaa", sum := "301428fe7264242edf2ca2bde9107f4b7d3a2a97594e923cc80a9da484973bb4", func := "modillion/modillionlaw07.ProgSteps", spec := "progSteps", unfollowed := true, recurses := true, apart := false }
def ProgStepsSaid : Prop := progStepsRow.holds Try.pinned (OpenSpec.ofChange progStepsSpec)

/-- ITS FALSE NEIGHBOUR: 'it returns false'. Refute it at one input. -/
def progStepsWrong : ChangeSpec := { name := "progSteps", fn := fun _ => fun
  | [d1, d2, d3, d4] => { results := [.lit (.bool false)], args := [d1, d2, d3, d4] }
  | _ => none }
def ProgStepsWrongFalsely : Prop := progStepsRow.holds Try.pinned (OpenSpec.ofChange progStepsWrong)

/-- 'modillionlaw07.ProgFirsts': WHATEVER THE INPUT: true; the input reads as it did. -/
def progFirstsSpec : ChangeSpec := { name := "progFirsts", fn := fun _ => fun
  | [d1, d2, d3] => { results := [.lit (.bool true)], args := [d1, d2, d3] }
  | _ => none }
def progFirstsRow : OpenClaim := { program := "ytdmihkffjbapjaa", sum := "301428fe7264242edf2ca2bde9107f4b7d3a2a97594e923cc80a9da484973bb4", func := "modillion/modillionlaw07.ProgFirsts", spec := "progFirsts", unfollowed := true, recurses := true, apart := false }
def ProgFirstsSaid : Prop := progFirstsRow.holds Try.pinned (OpenSpec.ofChange progFirstsSpec)

/-- ITS FALSE NEIGHBOUR: 'it returns false'. Refute it at one input. -/
def progFirstsWrong : ChangeSpec := { name := "progFirsts", fn := fun _ => fun
  | [d1, d2, d3] => { results := [.lit (.bool false)], args := [d1, d2, d3] }
  | _ => none }
def ProgFirstsWrongFalsely : Prop := progFirstsRow.holds Try.pinned (OpenSpec.ofChange progFirstsWrong)

/-- 'modillionlaw07.ProgFolds': WHATEVER THE INPUT: true; the input reads as it did. -/
def progFoldsSpec : ChangeSpec := { name := "progFolds", fn := fun _ => fun
  | [d1, d2, d3, d4] => { results := [.lit (.bool true)], args := [d1, d2, d3, d4] }
  | _ => none }
def progFoldsRow : OpenClaim := { program := "ytdmihkffjbapjaa", sum := "301428fe7264242edf2ca2bde9107f4b7d3a2a97594e923cc80a9da484973bb4", func := "modillion/modillionlaw07.ProgFolds", spec := "progFolds", unfollowed := true, recurses := true, apart := false }
def ProgFoldsSaid : Prop := progFoldsRow.holds Try.pinned (OpenSpec.ofChange progFoldsSpec)

/-- ITS FALSE NEIGHBOUR: 'it returns false'. Refute it at one input. -/
def progFoldsWrong : ChangeSpec := { name := "progFolds", fn := fun _ => fun
  | [d1, d2, d3, d4] => { results := [.lit (.bool false)], args := [d1, d2, d3, d4] }
  | _ => none }
def ProgFoldsWrongFalsely : Prop := progFoldsRow.holds Try.pinned (OpenSpec.ofChange progFoldsWrong)

/-- 'modillionlaw07.ProgQuiet': WHATEVER THE INPUT: true; the input reads as it did. -/
def progQuietSpec : ChangeSpec := { name := "progQuiet", fn := fun _ => fun
  | [d1, d2, d3, d4] => { results := [.lit (.bool true)], args := [d1, d2, d3, d4] }
  | _ => none }
def progQuietRow : OpenClaim := { program := "ytdmihkffjbapjaa", sum := "301428fe7264242edf2ca2bde9107f4b7d3a2a97594e923cc80a9da484973bb4", func := "modillion/modillionlaw07.ProgQuiet", spec := "progQuiet", unfollowed := true, recurses := true, apart := false }
def ProgQuietSaid : Prop := progQuietRow.holds Try.pinned (OpenSpec.ofChange progQuietSpec)

/-- ITS FALSE NEIGHBOUR: 'it returns false'. Refute it at one input. -/
def progQuietWrong : ChangeSpec := { name := "progQuiet", fn := fun _ => fun
  | [d1, d2, d3, d4] => { results := [.lit (.bool false)], args := [d1, d2, d3, d4] }
  | _ => none }
def ProgQuietWrongFalsely : Prop := progQuietRow.holds Try.pinned (OpenSpec.ofChange progQuietWrong)

/-- 'modillionlaw07.ProgMax': WHATEVER THE INPUT: true; the input reads as it did. -/
def progMaxSpec : ChangeSpec := { name := "progMax", fn := fun _ => fun
  | [d1, d2, d3, d4] => { results := [.lit (.bool true)], args := [d1, d2, d3, d4] }
  | _ => none }
def progMaxRow : OpenClaim := { program := "ytdmihkffjbapjaa", sum := "301428fe7264242edf2ca2bde9107f4b7d3a2a97594e923cc80a9da484973bb4", func := "modillion/modillionlaw07.ProgMax", spec := "progMax", unfollowed := true, recurses := true, apart := false }
def ProgMaxSaid : Prop := progMaxRow.holds Try.pinned (OpenSpec.ofChange progMaxSpec)

/-- ITS FALSE NEIGHBOUR: 'it returns false'. Refute it at one input. -/
def progMaxWrong : ChangeSpec := { name := "progMax", fn := fun _ => fun
  | [d1, d2, d3, d4] => { results := [.lit (.bool false)], args := [d1, d2, d3, d4] }
  | _ => none }
def ProgMaxWrongFalsely : Prop := progMaxRow.holds Try.pinned (OpenSpec.ofChange progMaxWrong)

/-- 'modillionlaw07.ProgSends': WHATEVER THE INPUT: true; the input reads as it did. -/
def progSendsSpec : ChangeSpec := { name := "progSends", fn := fun _ => fun
  | [d1, d2, d3, d4] => { results := [.lit (.bool true)], args := [d1, d2, d3, d4] }
  | _ => none }
def progSendsRow : OpenClaim := { program := "ytdmihkffjbapjaa", sum := "301428fe7264242edf2ca2bde9107f4b7d3a2a97594e923cc80a9da484973bb4", func := "modillion/modillionlaw07.ProgSends", spec := "progSends", unfollowed := true, recurses := true, apart := false }
def ProgSendsSaid : Prop := progSendsRow.holds Try.pinned (OpenSpec.ofChange progSendsSpec)

/-- ITS FALSE NEIGHBOUR: 'it returns false'. Refute it at one input. -/
def progSendsWrong : ChangeSpec := { name := "progSends", fn := fun _ => fun
  | [d1, d2, d3, d4] => { results := [.lit (.bool false)], args := [d1, d2, d3, d4] }
  | _ => none }
def ProgSendsWrongFalsely : Prop := progSendsRow.holds Try.pinned (OpenSpec.ofChange progSendsWrong)

/-- 'modillionlaw07.ProgRanks': WHATEVER THE INPUT: true; the input reads as it did. -/
def progRanksSpec : ChangeSpec := { name := "progRanks", fn := fun _ => fun
  | [d1, d2, d3, d4] => { results := [.lit (.bool true)], args := [d1, d2, d3, d4] }
  | _ => none }
def progRanksRow : OpenClaim := { program := "ytdmihkffjbapjaa", sum := "301428fe7264242edf2ca2bde9107f4b7d3a2a97594e923cc80a9da484973bb4", func := "modillion/modillionlaw07.ProgRanks", spec := "progRanks", unfollowed := true, recurses := true, apart := false }
def ProgRanksSaid : Prop := progRanksRow.holds Try.pinned (OpenSpec.ofChange progRanksSpec)

/-- ITS FALSE NEIGHBOUR: 'it returns false'. Refute it at one input. -/
def progRanksWrong : ChangeSpec := { name := "progRanks", fn := fun _ => fun
  | [d1, d2, d3, d4] => { results := [.lit (.bool false)], args := [d1, d2, d3, d4] }
  | _ => none }
def ProgRanksWrongFalsely : Prop := progRanksRow.holds Try.pinned (OpenSpec.ofChange progRanksWrong)

/- THE SECOND FORM. 'bulk': how many values and letters a reading holds, each counted each time it is reached (what is shared counts as often as it is met; a slice's spare places count too). A statement '..UptoSaid' is the law's where the arguments, and the package variables that the reading takes, are together of bulk at most 1048576: NARROWER than '..Said'. Prove '..Said' where nothing that the law and all that it calls make is longer than what came in: it says more and counts as full. Else prove '..UptoSaid'. A law counts once. -/
mutual
def uptoBulk {H : Type} : DataW H → Nat
  | .lit (.string bytes) => bytes.length + 1
  | .lit _ => 1
  | .nil => 1
  | .ptr d => uptoBulk d + 1
  | .slice elems spare => uptoBulkAll elems + uptoBulkAll spare + 1
  | .agg parts => uptoBulkAll parts + 1
  | .iface _ d => uptoBulk d + 1
  | .map entries => uptoBulkEntries entries + 1
  | .held _ => 1
def uptoBulkAll {H : Type} : List (DataW H) → Nat
  | [] => 0
  | d :: r => uptoBulk d + uptoBulkAll r
def uptoBulkEntries {H : Type} : List (Lit × DataW H) → Nat
  | [] => 0
  | x :: r => uptoBulkEntry x + uptoBulkEntries r
def uptoBulkEntry {H : Type} : Lit × DataW H → Nat
  | (.string bytes, d) => bytes.length + uptoBulk d + 1
  | (_, d) => uptoBulk d + 1
 end
def uptoSmall : (H : Type) → List (DataW H) → Bool := fun _ ds => decide (uptoBulkAll ds ≤ 1048576)
def OpenSpec.upto (s : _root_.Go.ChangeSpec) : _root_.Go.OpenSpec := { _root_.Go.OpenSpec.ofChange s with cond := some uptoSmall }

/-- 'modillionlaw07.ProgSteps', WHERE WHAT IT READS IS OF BULK AT MOST 1048576: true; the input reads as it did. -/
def progStepsUptoRow : OpenClaim := { program := "ytdmihkffjbapjaa", sum := "301428fe7264242edf2ca2bde9107f4b7d3a2a97594e923cc80a9da484973bb4", func := "modillion/modillionlaw07.ProgSteps", spec := "progSteps", unfollowed := true, recurses := true, apart := false, narrowed := true }
def ProgStepsUptoSaid : Prop := progStepsUptoRow.holds Try.pinned (OpenSpec.upto progStepsSpec)

/-- 'modillionlaw07.ProgFirsts', WHERE WHAT IT READS IS OF BULK AT MOST 1048576: true; the input reads as it did. -/
def progFirstsUptoRow : OpenClaim := { program := "ytdmihkffjbapjaa", sum := "301428fe7264242edf2ca2bde9107f4b7d3a2a97594e923cc80a9da484973bb4", func := "modillion/modillionlaw07.ProgFirsts", spec := "progFirsts", unfollowed := true, recurses := true, apart := false, narrowed := true }
def ProgFirstsUptoSaid : Prop := progFirstsUptoRow.holds Try.pinned (OpenSpec.upto progFirstsSpec)

/-- 'modillionlaw07.ProgFolds', WHERE WHAT IT READS IS OF BULK AT MOST 1048576: true; the input reads as it did. -/
def progFoldsUptoRow : OpenClaim := { program := "ytdmihkffjbapjaa", sum := "301428fe7264242edf2ca2bde9107f4b7d3a2a97594e923cc80a9da484973bb4", func := "modillion/modillionlaw07.ProgFolds", spec := "progFolds", unfollowed := true, recurses := true, apart := false, narrowed := true }
def ProgFoldsUptoSaid : Prop := progFoldsUptoRow.holds Try.pinned (OpenSpec.upto progFoldsSpec)

/-- 'modillionlaw07.ProgQuiet', WHERE WHAT IT READS IS OF BULK AT MOST 1048576: true; the input reads as it did. -/
def progQuietUptoRow : OpenClaim := { program := "ytdmihkffjbapjaa", sum := "301428fe7264242edf2ca2bde9107f4b7d3a2a97594e923cc80a9da484973bb4", func := "modillion/modillionlaw07.ProgQuiet", spec := "progQuiet", unfollowed := true, recurses := true, apart := false, narrowed := true }
def ProgQuietUptoSaid : Prop := progQuietUptoRow.holds Try.pinned (OpenSpec.upto progQuietSpec)

/-- 'modillionlaw07.ProgMax', WHERE WHAT IT READS IS OF BULK AT MOST 1048576: true; the input reads as it did. -/
def progMaxUptoRow : OpenClaim := { program := "ytdmihkffjbapjaa", sum := "301428fe7264242edf2ca2bde9107f4b7d3a2a97594e923cc80a9da484973bb4", func := "modillion/modillionlaw07.ProgMax", spec := "progMax", unfollowed := true, recurses := true, apart := false, narrowed := true }
def ProgMaxUptoSaid : Prop := progMaxUptoRow.holds Try.pinned (OpenSpec.upto progMaxSpec)

/-- 'modillionlaw07.ProgSends', WHERE WHAT IT READS IS OF BULK AT MOST 1048576: true; the input reads as it did. -/
def progSendsUptoRow : OpenClaim := { program := "ytdmihkffjbapjaa", sum := "301428fe7264242edf2ca2bde9107f4b7d3a2a97594e923cc80a9da484973bb4", func := "modillion/modillionlaw07.ProgSends", spec := "progSends", unfollowed := true, recurses := true, apart := false, narrowed := true }
def ProgSendsUptoSaid : Prop := progSendsUptoRow.holds Try.pinned (OpenSpec.upto progSendsSpec)

/-- 'modillionlaw07.ProgRanks', WHERE WHAT IT READS IS OF BULK AT MOST 1048576: true; the input reads as it did. -/
def progRanksUptoRow : OpenClaim := { program := "ytdmihkffjbapjaa", sum := "301428fe7264242edf2ca2bde9107f4b7d3a2a97594e923cc80a9da484973bb4", func := "modillion/modillionlaw07.ProgRanks", spec := "progRanks", unfollowed := true, recurses := true, apart := false, narrowed := true }
def ProgRanksUptoSaid : Prop := progRanksUptoRow.holds Try.pinned (OpenSpec.upto progRanksSpec)

end Rows
end Go.Proofs.Ytdmihkffjbapjaa
