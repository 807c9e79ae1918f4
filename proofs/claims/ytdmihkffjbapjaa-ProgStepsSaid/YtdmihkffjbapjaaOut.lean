/- Plain lemmas about the edges out of a vertex: they ascend; reading of lists. -/
import Derived.Test.YtdmihkffjbapjaaStep
namespace Go.Proofs.Ytdmihkffjbapjaa.Pure
open Go Go.RowKit Go.Proofs.Ytdmihkffjbapjaa.P Go.Proofs.YtdmihkffjbapjaaW.PrintWords Go.Proofs.YtdmihkffjbapjaaW.PrintLast Go.Proofs.YtdmihkffjbapjaaW.PrintMore
set_option linter.unusedVariables false
set_option linter.unusedSimpArgs false
theorem rdE7 (l : List VEdge) (i : Nat) (h : i < l.length) : rd_T46 l (i : Int) = l[i] := by
  unfold rd_T46
  simp [List.getD_eq_getElem?_getD, List.getElem?_eq_getElem h]
theorem rdM7 (l : List VMsg) (i : Nat) (h : i < l.length) : rd_T48 l (i : Int) = l[i] := by
  unfold rd_T48
  simp [List.getD_eq_getElem?_getD, List.getElem?_eq_getElem h]
end Go.Proofs.Ytdmihkffjbapjaa.Pure
