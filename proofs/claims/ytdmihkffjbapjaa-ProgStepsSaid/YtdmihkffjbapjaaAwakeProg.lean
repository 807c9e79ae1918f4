/- What the chapter's example fixes, holds. -/
import Derived.Test.YtdmihkffjbapjaaTag
namespace Go.Proofs.Ytdmihkffjbapjaa.Pure
open Go Go.RowKit Go.Proofs.Ytdmihkffjbapjaa.P Go.Proofs.YtdmihkffjbapjaaW.PrintWords Go.Proofs.YtdmihkffjbapjaaW.PrintLast Go.Proofs.YtdmihkffjbapjaaW.PrintMore
set_option linter.unusedVariables false
set_option linter.unusedSimpArgs false
abbrev exE : S46 := ⟨0, 1, 5⟩
abbrev exT : ByteArray := ⟨#[115, 115, 115, 112]⟩
theorem exT_list : exT.toList = [115, 115, 115, 112] := by simp [ByteArray.toList_eq]
theorem exSort : sortE [exE] = [exE] := by unfold sortE; exact List.mergeSort_singleton _
theorem exCheck (k : Nat) : prog_Check.f (k + 8) 2 [exE] exT 0 3 = some 0 := by
  unfold prog_Check.f
  rw [show graph_Check.f 2 [exE] = some 0 from rfl, Option.bind_some, if_pos rfl, known_f, Option.bind_some, exT_list]
  rfl
theorem exFirst : prog_First.f exT 0 3 0 = some (0, 0, true, false, 0) := by
  unfold prog_First.f
  rw [if_pos (show (0 : Int) ≤ 0 ∧ (0 : Int) ≤ 1048576 by omega), show (20 : Nat) = 12 + 8 from rfl, known_f, Option.bind_some, exT_list]
  rfl
theorem exStep0 : prog_Step.f 2 [exE] exT 0 3 0 0 0 true false 0 = some (0, 0, false, false, 0, [⟨0, 1, 5⟩], 0) := by
  unfold prog_Step.f
  rw [show (20 : Nat) = 12 + 8 from rfl, exCheck, Option.bind_some, if_pos rfl, exT_list]
  unfold goesV
  rw [exSort]
  rfl
theorem exStep1 : prog_Step.f 2 [exE] exT 0 3 1 1 (-1) false true 5 = some (1, 5, false, false, 0, [], 0) := by
  unfold prog_Step.f
  rw [show (20 : Nat) = 12 + 8 from rfl, exCheck, Option.bind_some, if_pos rfl, exT_list]
  unfold goesV
  rw [exSort]
  rfl
theorem exKnown (k : Nat) : prog_Known.f (k + 8) ⟨#[114, 97, 110, 107]⟩ = some true ∧ prog_Known.f (k + 8) ⟨#[120]⟩ = some false := by
  rw [known_f, known_f]
  simp only [ByteArray.toList_eq]
  exact ⟨rfl, rfl⟩
theorem exFold (k : Nat) : prog_Fold.f (k + 8) ⟨#[109, 97, 120]⟩ 3 4 = some (4, 0) := by
  rw [fold_f _ (by simp only [ByteArray.toList_eq]; rfl)]
  simp only [ByteArray.toList_eq]
  rfl
theorem exSame (k : Nat) : modillionref07_Same.f (k + 8) [⟨0, 1, 5⟩] [⟨0, 1, 5⟩] = some true := by
  unfold modillionref07_Same.f
  rw [if_pos rfl, modillionref07_Same.l0, if_pos (by decide), if_pos (by decide), if_pos (by decide), if_neg (by decide), wrapt (by decide) (by decide), modillionref07_Same.l0, if_neg (by decide)]
theorem awake07 (k : Nat) (h : 20 ≤ k) : modillionlaw07_awake.f k = some true := by
  obtain ⟨n, rfl⟩ : ∃ n, k = n + 8 := ⟨k - 8, by omega⟩
  unfold modillionlaw07_awake.f
  rw [Option.bind_some, exFirst, Option.bind_some]
  simp only []
  rw [exStep0, Option.bind_some, exStep1, Option.bind_some, exFold, Option.bind_some, exCheck, Option.bind_some, if_pos rfl, if_pos rfl, exSame, Option.bind_some, if_pos rfl, if_pos rfl]
  simp [(exKnown n).1, (exKnown n).2]
end Go.Proofs.Ytdmihkffjbapjaa.Pure
