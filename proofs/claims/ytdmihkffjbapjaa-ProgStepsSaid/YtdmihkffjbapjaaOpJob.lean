/- What came in, opened: jobs. -/
import Derived.Test.YtdmihkffjbapjaaOpen
import Derived.Test.YtdmihkffjbapjaaPx0
namespace Go.Proofs.Ytdmihkffjbapjaa.Open
open Go.RowKit Go.Proofs.YtdmihkffjbapjaaW.PrintWords Go.Proofs.YtdmihkffjbapjaaW.PrintLast Go.Proofs.Ytdmihkffjbapjaa.P
theorem opensJob : Opens Try.prog 26 (Kd.pair Kd.string (Kd.pair (Kd.int .i64) (Kd.int .i64))) (fun x => x.1.size ≤ maxLen ∧ (Lit.int .i64 x.2.1).wf = true ∧ (Lit.int .i64 x.2.2).wf = true) := opens_three (P := Try.prog) (t := 26) Try.underlying26 (opens_string (P := Try.prog) (t := 9) Try.underlying9) (opens_int (P := Try.prog) (t := 3) Try.underlying3) (opens_int (P := Try.prog) (t := 3) Try.underlying3) rfl rfl rfl (by kernel_rfl) (by kernel_rfl) (by kernel_rfl) (by kernel_rfl)
end Go.Proofs.Ytdmihkffjbapjaa.Open
