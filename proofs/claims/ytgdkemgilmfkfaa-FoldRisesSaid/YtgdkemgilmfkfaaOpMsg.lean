/- What came in, opened: messages. -/
import Derived.Test.YtgdkemgilmfkfaaOpen
import Derived.Test.YtgdkemgilmfkfaaPx0
namespace Go.Proofs.Ytgdkemgilmfkfaa.Open
open Go.RowKit Go.Proofs.YtgdkemgilmfkfaaW.PrintWords Go.Proofs.YtgdkemgilmfkfaaW.PrintLast Go.Proofs.Ytgdkemgilmfkfaa.P
/-- A message of whole numbers of 64 bits. -/
def wfM (x : S41) : Prop := (Lit.int .i64 x.f0).wf = true ∧ (Lit.int .i64 x.f1).wf = true ∧ (Lit.int .i64 x.f2).wf = true
theorem opensMsg : Opens Try.prog 41 k41 wfM := opens_iso (opens_three (P := Try.prog) (t := 41) Try.underlying41 (opens_int (P := Try.prog) (t := 3) Try.underlying3) (opens_int (P := Try.prog) (t := 3) Try.underlying3) (opens_int (P := Try.prog) (t := 2) Try.underlying2) rfl rfl rfl (by kernel_rfl) (by kernel_rfl) (by kernel_rfl) (by kernel_rfl)) (fun x : S41 => (x.f0, x.f1, x.f2)) (fun y => ⟨y.1, y.2.1, y.2.2⟩) (fun _ => rfl)
theorem opensMsgs : Opens Try.prog 22 (Kd.slice 41 k41) (fun l => ∀ x ∈ l, wfM x) := opens_slice Try.underlying22 opensMsg (by kernel_rfl)
theorem opensMsg3 : Opens Try.prog 41 (Kd.pair (Kd.int .i64) (Kd.pair (Kd.int .i64) (Kd.int .i64))) (fun x => (Lit.int .i64 x.1).wf = true ∧ (Lit.int .i64 x.2.1).wf = true ∧ (Lit.int .i64 x.2.2).wf = true) := opens_three (P := Try.prog) (t := 41) Try.underlying41 (opens_int (P := Try.prog) (t := 3) Try.underlying3) (opens_int (P := Try.prog) (t := 3) Try.underlying3) (opens_int (P := Try.prog) (t := 2) Try.underlying2) rfl rfl rfl (by kernel_rfl) (by kernel_rfl) (by kernel_rfl) (by kernel_rfl)
end Go.Proofs.Ytgdkemgilmfkfaa.Open
