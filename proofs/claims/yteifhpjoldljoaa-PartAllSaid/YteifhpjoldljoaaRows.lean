/-
  No cell of these rows narrows 'for every input' (looked for: loops, veiled, ifaces, maps, wideKeys, modest, calm, conditions, laid).
  DERIVED. THE GIVEN ROWS OF THIS SEAT. 6 by the template 'for every input the law returns true; each argument reads behind the call as it read before'; 0 by the template 'total and deterministic' (their statements: YteifhpjoldljoaaTotals.lean).
  GIVEN WITH THE SEED: the statements are not yours to turn. If you find one false, say at which input.
  Laid BY PROGRAM, IN A SANDBOX (cutbox-rows.mjs): the forced cells as the released guide's own fill.sh prints them over the translation 18a9c5989a2b0d97… (all of the seat's roots in one cut). By AI agents, Wed Nov 11 2026. No macro, syntax, notation, axiom, sorry.
-/
import Derived.Test.YteifhpjoldljoaaChecked
import GoSem.Claim
import GoSem.ClaimJoined
import GoSem.ClaimMapViews
import Derived.JoinedTies
import Derived.KernelRfl
namespace Go.Proofs.Yteifhpjoldljoaa
/- THE CELL 'sum', in the pinned program and in every row, IS THE sha256 OF THE DUMP (.gsa) THAT YteifhpjoldljoaaProg.lean LOADS. Nothing in Lean hashes anything: it is a label: what it is worth is what the hold of that sum in a sandbox is worth. -/
noncomputable def Try.pinned : Pinned := { name := "yteifhpjoldljoaa", sum := "18a9c5989a2b0d978f484e90c56c7eeeec90d157add3b4a27936a4d85af9062d", checked := Try.checked }
namespace Rows
def none {H : Type} : Left H := { results := [], args := [] }

/-- 'modillionlaw06.PartMixes': WHATEVER THE INPUT: true; the input reads as it did. -/
def partMixesSpec : ChangeSpec := { name := "partMixes", fn := fun _ => fun
  | [d1, d2, d3] => { results := [.lit (.bool true)], args := [d1, d2, d3] }
  | _ => none }
def partMixesRow : OpenClaim := { program := "yteifhpjoldljoaa", sum := "18a9c5989a2b0d978f484e90c56c7eeeec90d157add3b4a27936a4d85af9062d", func := "modillion/modillionlaw06.PartMixes", spec := "partMixes", unfollowed := true, recurses := true, apart := false }
def PartMixesSaid : Prop := partMixesRow.holds Try.pinned (OpenSpec.ofChange partMixesSpec)

/-- ITS FALSE NEIGHBOUR: 'it returns false'. Refute it at one input. -/
def partMixesWrong : ChangeSpec := { name := "partMixes", fn := fun _ => fun
  | [d1, d2, d3] => { results := [.lit (.bool false)], args := [d1, d2, d3] }
  | _ => none }
def PartMixesWrongFalsely : Prop := partMixesRow.holds Try.pinned (OpenSpec.ofChange partMixesWrong)

/-- 'modillionlaw06.PartOf': WHATEVER THE INPUT: true; the input reads as it did. -/
def partOfSpec : ChangeSpec := { name := "partOf", fn := fun _ => fun
  | [d1, d2, d3, d4] => { results := [.lit (.bool true)], args := [d1, d2, d3, d4] }
  | _ => none }
def partOfRow : OpenClaim := { program := "yteifhpjoldljoaa", sum := "18a9c5989a2b0d978f484e90c56c7eeeec90d157add3b4a27936a4d85af9062d", func := "modillion/modillionlaw06.PartOf", spec := "partOf", unfollowed := true, recurses := true, apart := false }
def PartOfSaid : Prop := partOfRow.holds Try.pinned (OpenSpec.ofChange partOfSpec)

/-- ITS FALSE NEIGHBOUR: 'it returns false'. Refute it at one input. -/
def partOfWrong : ChangeSpec := { name := "partOf", fn := fun _ => fun
  | [d1, d2, d3, d4] => { results := [.lit (.bool false)], args := [d1, d2, d3, d4] }
  | _ => none }
def PartOfWrongFalsely : Prop := partOfRow.holds Try.pinned (OpenSpec.ofChange partOfWrong)

/-- 'modillionlaw06.PartAll': WHATEVER THE INPUT: true; the input reads as it did. -/
def partAllSpec : ChangeSpec := { name := "partAll", fn := fun _ => fun
  | [d1, d2] => { results := [.lit (.bool true)], args := [d1, d2] }
  | _ => none }
def partAllRow : OpenClaim := { program := "yteifhpjoldljoaa", sum := "18a9c5989a2b0d978f484e90c56c7eeeec90d157add3b4a27936a4d85af9062d", func := "modillion/modillionlaw06.PartAll", spec := "partAll", unfollowed := true, recurses := true, apart := false }
def PartAllSaid : Prop := partAllRow.holds Try.pinned (OpenSpec.ofChange partAllSpec)

/-- ITS FALSE NEIGHBOUR: 'it returns false'. Refute it at one input. -/
def partAllWrong : ChangeSpec := { name := "partAll", fn := fun _ => fun
  | [d1, d2] => { results := [.lit (.bool false)], args := [d1, d2] }
  | _ => none }
def PartAllWrongFalsely : Prop := partAllRow.holds Try.pinned (OpenSpec.ofChange partAllWrong)

/-- 'modillionlaw06.PartTurns': WHATEVER THE INPUT: true; the input reads as it did. -/
def partTurnsSpec : ChangeSpec := { name := "partTurns", fn := fun _ => fun
  | [d1, d2] => { results := [.lit (.bool true)], args := [d1, d2] }
  | _ => none }
def partTurnsRow : OpenClaim := { program := "yteifhpjoldljoaa", sum := "18a9c5989a2b0d978f484e90c56c7eeeec90d157add3b4a27936a4d85af9062d", func := "modillion/modillionlaw06.PartTurns", spec := "partTurns", unfollowed := true, recurses := true, apart := false }
def PartTurnsSaid : Prop := partTurnsRow.holds Try.pinned (OpenSpec.ofChange partTurnsSpec)

/-- ITS FALSE NEIGHBOUR: 'it returns false'. Refute it at one input. -/
def partTurnsWrong : ChangeSpec := { name := "partTurns", fn := fun _ => fun
  | [d1, d2] => { results := [.lit (.bool false)], args := [d1, d2] }
  | _ => none }
def PartTurnsWrongFalsely : Prop := partTurnsRow.holds Try.pinned (OpenSpec.ofChange partTurnsWrong)

/-- 'modillionlaw06.PartMore': WHATEVER THE INPUT: true; the input reads as it did. -/
def partMoreSpec : ChangeSpec := { name := "partMore", fn := fun _ => fun
  | [d1, d2, d3, d4] => { results := [.lit (.bool true)], args := [d1, d2, d3, d4] }
  | _ => none }
def partMoreRow : OpenClaim := { program := "yteifhpjoldljoaa", sum := "18a9c5989a2b0d978f484e90c56c7eeeec90d157add3b4a27936a4d85af9062d", func := "modillion/modillionlaw06.PartMore", spec := "partMore", unfollowed := true, recurses := true, apart := false }
def PartMoreSaid : Prop := partMoreRow.holds Try.pinned (OpenSpec.ofChange partMoreSpec)

/-- ITS FALSE NEIGHBOUR: 'it returns false'. Refute it at one input. -/
def partMoreWrong : ChangeSpec := { name := "partMore", fn := fun _ => fun
  | [d1, d2, d3, d4] => { results := [.lit (.bool false)], args := [d1, d2, d3, d4] }
  | _ => none }
def PartMoreWrongFalsely : Prop := partMoreRow.holds Try.pinned (OpenSpec.ofChange partMoreWrong)

/-- 'modillionlaw06.PartOne': WHATEVER THE INPUT: true; the input reads as it did. -/
def partOneSpec : ChangeSpec := { name := "partOne", fn := fun _ => fun
  | [d1, d2, d3] => { results := [.lit (.bool true)], args := [d1, d2, d3] }
  | _ => none }
def partOneRow : OpenClaim := { program := "yteifhpjoldljoaa", sum := "18a9c5989a2b0d978f484e90c56c7eeeec90d157add3b4a27936a4d85af9062d", func := "modillion/modillionlaw06.PartOne", spec := "partOne", unfollowed := true, recurses := true, apart := false }
def PartOneSaid : Prop := partOneRow.holds Try.pinned (OpenSpec.ofChange partOneSpec)

/-- ITS FALSE NEIGHBOUR: 'it returns false'. Refute it at one input. -/
def partOneWrong : ChangeSpec := { name := "partOne", fn := fun _ => fun
  | [d1, d2, d3] => { results := [.lit (.bool false)], args := [d1, d2, d3] }
  | _ => none }
def PartOneWrongFalsely : Prop := partOneRow.holds Try.pinned (OpenSpec.ofChange partOneWrong)

/- THE SECOND FORM. 'bulk': how many values and letters a reading holds, each counted each time it is reached (what is shared counts as often as it is met; a slice's spare places count too). A statement '..UptoSaid' is the law's where the arguments, and the package variables that the reading takes, are together of bulk at most 1048576: NARROWER than '..Said'. Prove '..Said' where nothing that the law and all that it calls make is longer than what came in: it says more and counts as full. Else prove '..UptoSaid'. A law counts once. -/
mutual
def uptoBulk {H : Type} : DataW H → Nat
  | .lit (.string bytes) => bytes.length + 1
  | .lit _ => 1
  | .nil => 1
  | .ptr d => uptoBulk d + 1
  | .slice elems spare => uptoBulkAll elems + uptoBulkAll spare + 1
  | .agg parts => uptoBulkAll parts + 1
  | .iface _ d => uptoBulk d + 1
  | .map entries => uptoBulkEntries entries + 1
  | .held _ => 1
def uptoBulkAll {H : Type} : List (DataW H) → Nat
  | [] => 0
  | d :: r => uptoBulk d + uptoBulkAll r
def uptoBulkEntries {H : Type} : List (Lit × DataW H) → Nat
  | [] => 0
  | x :: r => uptoBulkEntry x + uptoBulkEntries r
def uptoBulkEntry {H : Type} : Lit × DataW H → Nat
  | (.string bytes, d) => bytes.length + uptoBulk d + 1
  | (_, d) => uptoBulk d + 1
 end
def uptoSmall : (H : Type) → List (DataW H) → Bool := fun _ ds => decide (uptoBulkAll ds ≤ 1048576)
def OpenSpec.upto (s : _root_.Go.ChangeSpec) : _root_.Go.OpenSpec := { _root_.Go.OpenSpec.ofChange s with cond := some uptoSmall }

/-- 'modillionlaw06.PartMixes', WHERE WHAT IT READS IS OF BULK AT MOST 1048576: true; the input reads as it did. -/
def partMixesUptoRow : OpenClaim := { program := "yteifhpjoldljoaa", sum := "18a9c5989a2b0d978f484e90c56c7eeeec90d157add3b4a27936a4d85af9062d", func := "modillion/modillionlaw06.PartMixes", spec := "partMixes", unfollowed := true, recurses := true, apart := false, narrowed := true }
def PartMixesUptoSaid : Prop := partMixesUptoRow.holds Try.pinned (OpenSpec.upto partMixesSpec)

/-- 'modillionlaw06.PartOf', WHERE WHAT IT READS IS OF BULK AT MOST 1048576: true; the input reads as it did. -/
def partOfUptoRow : OpenClaim := { program := "yteifhpjoldljoaa", sum := "18a9c5989a2b0d978f484e90c56c7eeeec90d157add3b4a27936a4d85af9062d", func := "modillion/modillionlaw06.PartOf", spec := "partOf", unfollowed := true, recurses := true, apart := false, narrowed := true }
def PartOfUptoSaid : Prop := partOfUptoRow.holds Try.pinned (OpenSpec.upto partOfSpec)

/-- 'modillionlaw06.PartAll', WHERE WHAT IT READS IS OF BULK AT MOST 1048576: true; the input reads as it did. -/
def partAllUptoRow : OpenClaim := { program := "yteifhpjoldljoaa", sum := "18a9c5989a2b0d978f484e90c56c7eeeec90d157add3b4a27936a4d85af9062d", func := "modillion/modillionlaw06.PartAll", spec := "partAll", unfollowed := true, recurses := true, apart := false, narrowed := true }
def PartAllUptoSaid : Prop := partAllUptoRow.holds Try.pinned (OpenSpec.upto partAllSpec)

/-- 'modillionlaw06.PartTurns', WHERE WHAT IT READS IS OF BULK AT MOST 1048576: true; the input reads as it did. -/
def partTurnsUptoRow : OpenClaim := { program := "yteifhpjoldljoaa", sum := "18a9c5989a2b0d978f484e90c56c7eeeec90d157add3b4a27936a4d85af9062d", func := "modillion/modillionlaw06.PartTurns", spec := "partTurns", unfollowed := true, recurses := true, apart := false, narrowed := true }
def PartTurnsUptoSaid : Prop := partTurnsUptoRow.holds Try.pinned (OpenSpec.upto partTurnsSpec)

/-- 'modillionlaw06.PartMore', WHERE WHAT IT READS IS OF BULK AT MOST 1048576: true; the input reads as it did. -/
def partMoreUptoRow : OpenClaim := { program := "yteifhpjoldljoaa", sum := "18a9c5989a2b0d978f484e90c56c7eeeec90d157add3b4a27936a4d85af9062d", func := "modillion/modillionlaw06.PartMore", spec := "partMore", unfollowed := true, recurses := true, apart := false, narrowed := true }
def PartMoreUptoSaid : Prop := partMoreUptoRow.holds Try.pinned (OpenSpec.upto partMoreSpec)

/-- 'modillionlaw06.PartOne', WHERE WHAT IT READS IS OF BULK AT MOST 1048576: true; the input reads as it did. -/
def partOneUptoRow : OpenClaim := { program := "yteifhpjoldljoaa", sum := "18a9c5989a2b0d978f484e90c56c7eeeec90d157add3b4a27936a4d85af9062d", func := "modillion/modillionlaw06.PartOne", spec := "partOne", unfollowed := true, recurses := true, apart := false, narrowed := true }
def PartOneUptoSaid : Prop := partOneUptoRow.holds Try.pinned (OpenSpec.upto partOneSpec)

end Rows
end Go.Proofs.Yteifhpjoldljoaa
