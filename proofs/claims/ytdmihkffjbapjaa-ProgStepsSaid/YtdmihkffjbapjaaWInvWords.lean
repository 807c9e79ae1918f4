-- Of the print's words those that this claim needs: taken out by a program of this session (shake.py)
import Derived.Test.YtdmihkffjbapjaaWInv
import Derived.Test.YtdmihkffjbapjaaWFootNe
namespace Go.Proofs.YtdmihkffjbapjaaW.PrintWords
open Go.RowKit
end Go.Proofs.YtdmihkffjbapjaaW.PrintWords
namespace Go.Proofs.YtdmihkffjbapjaaW.PrintLast
section
variable {ops : Array Oper} {a : Act} {o og : Oper} {g : Nat} {t : Tmp} {u : Bool}
end
end Go.Proofs.YtdmihkffjbapjaaW.PrintLast
