/-
  No cell of these rows narrows 'for every input' (looked for: loops, veiled, ifaces, maps, wideKeys, modest, calm, conditions, laid).
  DERIVED. THE GIVEN ROWS OF THIS SEAT. 6 by the template 'for every input the law returns true; each argument reads behind the call as it read before'; 0 by the template 'total and deterministic' (their statements: YtgdkemgilmfkfaaTotals.lean).
  GIVEN WITH THE SEED: the statements are not yours to turn. If you find one false, say at which input.
  Laid BY PROGRAM, IN A SANDBOX (cutbox-rows.mjs): the forced cells as the released guide's own fill.sh prints them over the translation dfbb3f541da3ccc5… (all of the seat's roots in one cut). By AI agents, Wed Nov 11 2026. No macro, syntax, notation, axiom, sorry.
-/
import Derived.Test.YtgdkemgilmfkfaaChecked
import GoSem.Claim
import GoSem.ClaimJoined
import GoSem.ClaimMapViews
import Derived.JoinedTies
import Derived.KernelRfl
namespace Go.Proofs.Ytgdkemgilmfkfaa
/- THE CELL 'sum', in the pinned program and in every row, IS THE sha256 OF THE DUMP (.gsa) THAT YtgdkemgilmfkfaaProg.lean LOADS. Nothing in Lean hashes anything: it is a label: what it is worth is what the hold of that sum in a sandbox is worth. -/
noncomputable def Try.pinned : Pinned := { name := "ytgdkemgilmfkfaa", sum := "dfbb3f541da3ccc5bb16c2395a4a20e925675cbb1e0654473dba47af7ec3351d", checked := Try.checked }
namespace Rows
def none {H : Type} : Left H := { results := [], args := [] }

/-- 'modillionlaw08.FoldSorts': WHATEVER THE INPUT: true; the input reads as it did. -/
def foldSortsSpec : ChangeSpec := { name := "foldSorts", fn := fun _ => fun
  | [d1, d2] => { results := [.lit (.bool true)], args := [d1, d2] }
  | _ => none }
def foldSortsRow : OpenClaim := { program := "ytgdkemgilmfkfaa", sum := "dfbb3f541da3ccc5bb16c2395a4a20e925675cbb1e0654473dba47af7ec3351d", func := "modillion/modillionlaw08.FoldSorts", spec := "foldSorts", unfollowed := true, recurses := true, apart := false }
def FoldSortsSaid : Prop := foldSortsRow.holds Try.pinned (OpenSpec.ofChange foldSortsSpec)

/-- ITS FALSE NEIGHBOUR: 'it returns false'. Refute it at one input. -/
def foldSortsWrong : ChangeSpec := { name := "foldSorts", fn := fun _ => fun
  | [d1, d2] => { results := [.lit (.bool false)], args := [d1, d2] }
  | _ => none }
def FoldSortsWrongFalsely : Prop := foldSortsRow.holds Try.pinned (OpenSpec.ofChange foldSortsWrong)

/-- 'modillionlaw08.FoldChecks': WHATEVER THE INPUT: true; the input reads as it did. -/
def foldChecksSpec : ChangeSpec := { name := "foldChecks", fn := fun _ => fun
  | [d1, d2] => { results := [.lit (.bool true)], args := [d1, d2] }
  | _ => none }
def foldChecksRow : OpenClaim := { program := "ytgdkemgilmfkfaa", sum := "dfbb3f541da3ccc5bb16c2395a4a20e925675cbb1e0654473dba47af7ec3351d", func := "modillion/modillionlaw08.FoldChecks", spec := "foldChecks", unfollowed := true, recurses := true, apart := false }
def FoldChecksSaid : Prop := foldChecksRow.holds Try.pinned (OpenSpec.ofChange foldChecksSpec)

/-- ITS FALSE NEIGHBOUR: 'it returns false'. Refute it at one input. -/
def foldChecksWrong : ChangeSpec := { name := "foldChecks", fn := fun _ => fun
  | [d1, d2] => { results := [.lit (.bool false)], args := [d1, d2] }
  | _ => none }
def FoldChecksWrongFalsely : Prop := foldChecksRow.holds Try.pinned (OpenSpec.ofChange foldChecksWrong)

/-- 'modillionlaw08.FoldSplits': WHATEVER THE INPUT: true; the input reads as it did. -/
def foldSplitsSpec : ChangeSpec := { name := "foldSplits", fn := fun _ => fun
  | [d1, d2] => { results := [.lit (.bool true)], args := [d1, d2] }
  | _ => none }
def foldSplitsRow : OpenClaim := { program := "ytgdkemgilmfkfaa", sum := "dfbb3f541da3ccc5bb16c2395a4a20e925675cbb1e0654473dba47af7ec3351d", func := "modillion/modillionlaw08.FoldSplits", spec := "foldSplits", unfollowed := true, recurses := true, apart := false }
def FoldSplitsSaid : Prop := foldSplitsRow.holds Try.pinned (OpenSpec.ofChange foldSplitsSpec)

/-- ITS FALSE NEIGHBOUR: 'it returns false'. Refute it at one input. -/
def foldSplitsWrong : ChangeSpec := { name := "foldSplits", fn := fun _ => fun
  | [d1, d2] => { results := [.lit (.bool false)], args := [d1, d2] }
  | _ => none }
def FoldSplitsWrongFalsely : Prop := foldSplitsRow.holds Try.pinned (OpenSpec.ofChange foldSplitsWrong)

/-- 'modillionlaw08.FoldOne': WHATEVER THE INPUT: true; the input reads as it did. -/
def foldOneSpec : ChangeSpec := { name := "foldOne", fn := fun _ => fun
  | [d1, d2, d3] => { results := [.lit (.bool true)], args := [d1, d2, d3] }
  | _ => none }
def foldOneRow : OpenClaim := { program := "ytgdkemgilmfkfaa", sum := "dfbb3f541da3ccc5bb16c2395a4a20e925675cbb1e0654473dba47af7ec3351d", func := "modillion/modillionlaw08.FoldOne", spec := "foldOne", unfollowed := true, recurses := true, apart := false }
def FoldOneSaid : Prop := foldOneRow.holds Try.pinned (OpenSpec.ofChange foldOneSpec)

/-- ITS FALSE NEIGHBOUR: 'it returns false'. Refute it at one input. -/
def foldOneWrong : ChangeSpec := { name := "foldOne", fn := fun _ => fun
  | [d1, d2, d3] => { results := [.lit (.bool false)], args := [d1, d2, d3] }
  | _ => none }
def FoldOneWrongFalsely : Prop := foldOneRow.holds Try.pinned (OpenSpec.ofChange foldOneWrong)

/-- 'modillionlaw08.FoldRises': WHATEVER THE INPUT: true; the input reads as it did. -/
def foldRisesSpec : ChangeSpec := { name := "foldRises", fn := fun _ => fun
  | [d] => { results := [.lit (.bool true)], args := [d] }
  | _ => none }
def foldRisesRow : OpenClaim := { program := "ytgdkemgilmfkfaa", sum := "dfbb3f541da3ccc5bb16c2395a4a20e925675cbb1e0654473dba47af7ec3351d", func := "modillion/modillionlaw08.FoldRises", spec := "foldRises", unfollowed := true, recurses := true, apart := false }
def FoldRisesSaid : Prop := foldRisesRow.holds Try.pinned (OpenSpec.ofChange foldRisesSpec)

/-- ITS FALSE NEIGHBOUR: 'it returns false'. Refute it at one input. -/
def foldRisesWrong : ChangeSpec := { name := "foldRises", fn := fun _ => fun
  | [d] => { results := [.lit (.bool false)], args := [d] }
  | _ => none }
def FoldRisesWrongFalsely : Prop := foldRisesRow.holds Try.pinned (OpenSpec.ofChange foldRisesWrong)

/-- 'modillionlaw08.FoldSides': WHATEVER THE INPUT: true; the input reads as it did. -/
def foldSidesSpec : ChangeSpec := { name := "foldSides", fn := fun _ => fun
  | [d] => { results := [.lit (.bool true)], args := [d] }
  | _ => none }
def foldSidesRow : OpenClaim := { program := "ytgdkemgilmfkfaa", sum := "dfbb3f541da3ccc5bb16c2395a4a20e925675cbb1e0654473dba47af7ec3351d", func := "modillion/modillionlaw08.FoldSides", spec := "foldSides", unfollowed := true, recurses := true, apart := false }
def FoldSidesSaid : Prop := foldSidesRow.holds Try.pinned (OpenSpec.ofChange foldSidesSpec)

/-- ITS FALSE NEIGHBOUR: 'it returns false'. Refute it at one input. -/
def foldSidesWrong : ChangeSpec := { name := "foldSides", fn := fun _ => fun
  | [d] => { results := [.lit (.bool false)], args := [d] }
  | _ => none }
def FoldSidesWrongFalsely : Prop := foldSidesRow.holds Try.pinned (OpenSpec.ofChange foldSidesWrong)

/- THE SECOND FORM. 'bulk': how many values and letters a reading holds, each counted each time it is reached (what is shared counts as often as it is met; a slice's spare places count too). A statement '..UptoSaid' is the law's where the arguments, and the package variables that the reading takes, are together of bulk at most 1048576: NARROWER than '..Said'. Prove '..Said' where nothing that the law and all that it calls make is longer than what came in: it says more and counts as full. Else prove '..UptoSaid'. A law counts once. -/
mutual
def uptoBulk {H : Type} : DataW H → Nat
  | .lit (.string bytes) => bytes.length + 1
  | .lit _ => 1
  | .nil => 1
  | .ptr d => uptoBulk d + 1
  | .slice elems spare => uptoBulkAll elems + uptoBulkAll spare + 1
  | .agg parts => uptoBulkAll parts + 1
  | .iface _ d => uptoBulk d + 1
  | .map entries => uptoBulkEntries entries + 1
  | .held _ => 1
def uptoBulkAll {H : Type} : List (DataW H) → Nat
  | [] => 0
  | d :: r => uptoBulk d + uptoBulkAll r
def uptoBulkEntries {H : Type} : List (Lit × DataW H) → Nat
  | [] => 0
  | x :: r => uptoBulkEntry x + uptoBulkEntries r
def uptoBulkEntry {H : Type} : Lit × DataW H → Nat
  | (.string bytes, d) => bytes.length + uptoBulk d + 1
  | (_, d) => uptoBulk d + 1
 end
def uptoSmall : (H : Type) → List (DataW H) → Bool := fun _ ds => decide (uptoBulkAll ds ≤ 1048576)
def OpenSpec.upto (s : _root_.Go.ChangeSpec) : _root_.Go.OpenSpec := { _root_.Go.OpenSpec.ofChange s with cond := some uptoSmall }

/-- 'modillionlaw08.FoldSorts', WHERE WHAT IT READS IS OF BULK AT MOST 1048576: true; the input reads as it did. -/
def foldSortsUptoRow : OpenClaim := { program := "ytgdkemgilmfkfaa", sum := "dfbb3f541da3ccc5bb16c2395a4a20e925675cbb1e0654473dba47af7ec3351d", func := "modillion/modillionlaw08.FoldSorts", spec := "foldSorts", unfollowed := true, recurses := true, apart := false, narrowed := true }
def FoldSortsUptoSaid : Prop := foldSortsUptoRow.holds Try.pinned (OpenSpec.upto foldSortsSpec)

/-- 'modillionlaw08.FoldChecks', WHERE WHAT IT READS IS OF BULK AT MOST 1048576: true; the input reads as it did. -/
def foldChecksUptoRow : OpenClaim := { program := "ytgdkemgilmfkfaa", sum := "dfbb3f541da3ccc5bb16c2395a4a20e925675cbb1e0654473dba47af7ec3351d", func := "modillion/modillionlaw08.FoldChecks", spec := "foldChecks", unfollowed := true, recurses := true, apart := false, narrowed := true }
def FoldChecksUptoSaid : Prop := foldChecksUptoRow.holds Try.pinned (OpenSpec.upto foldChecksSpec)

/-- 'modillionlaw08.FoldSplits', WHERE WHAT IT READS IS OF BULK AT MOST 1048576: true; the input reads as it did. -/
def foldSplitsUptoRow : OpenClaim := { program := "ytgdkemgilmfkfaa", sum := "dfbb3f541da3ccc5bb16c2395a4a20e925675cbb1e0654473dba47af7ec3351d", func := "modillion/modillionlaw08.FoldSplits", spec := "foldSplits", unfollowed := true, recurses := true, apart := false, narrowed := true }
def FoldSplitsUptoSaid : Prop := foldSplitsUptoRow.holds Try.pinned (OpenSpec.upto foldSplitsSpec)

/-- 'modillionlaw08.FoldOne', WHERE WHAT IT READS IS OF BULK AT MOST 1048576: true; the input reads as it did. -/
def foldOneUptoRow : OpenClaim := { program := "ytgdkemgilmfkfaa", sum := "dfbb3f541da3ccc5bb16c2395a4a20e925675cbb1e0654473dba47af7ec3351d", func := "modillion/modillionlaw08.FoldOne", spec := "foldOne", unfollowed := true, recurses := true, apart := false, narrowed := true }
def FoldOneUptoSaid : Prop := foldOneUptoRow.holds Try.pinned (OpenSpec.upto foldOneSpec)

/-- 'modillionlaw08.FoldRises', WHERE WHAT IT READS IS OF BULK AT MOST 1048576: true; the input reads as it did. -/
def foldRisesUptoRow : OpenClaim := { program := "ytgdkemgilmfkfaa", sum := "dfbb3f541da3ccc5bb16c2395a4a20e925675cbb1e0654473dba47af7ec3351d", func := "modillion/modillionlaw08.FoldRises", spec := "foldRises", unfollowed := true, recurses := true, apart := false, narrowed := true }
def FoldRisesUptoSaid : Prop := foldRisesUptoRow.holds Try.pinned (OpenSpec.upto foldRisesSpec)

/-- 'modillionlaw08.FoldSides', WHERE WHAT IT READS IS OF BULK AT MOST 1048576: true; the input reads as it did. -/
def foldSidesUptoRow : OpenClaim := { program := "ytgdkemgilmfkfaa", sum := "dfbb3f541da3ccc5bb16c2395a4a20e925675cbb1e0654473dba47af7ec3351d", func := "modillion/modillionlaw08.FoldSides", spec := "foldSides", unfollowed := true, recurses := true, apart := false, narrowed := true }
def FoldSidesUptoSaid : Prop := foldSidesUptoRow.holds Try.pinned (OpenSpec.upto foldSidesSpec)

end Rows
end Go.Proofs.Ytgdkemgilmfkfaa
