/- What came in, opened: edges and graphs. -/
import Derived.Test.YtpndhkeoljoapaaOpen
import Derived.Test.YtpndhkeoljoapaaPx0
namespace Go.Proofs.Ytpndhkeoljoapaa.Open
open Go.RowKit Go.Proofs.YtpndhkeoljoapaaW.PrintWords Go.Proofs.YtpndhkeoljoapaaW.PrintLast Go.Proofs.Ytpndhkeoljoapaa.P
/-- An edge of whole numbers of 64 bits. -/
def wfE (x : S45) : Prop := (Lit.int .i64 x.f0).wf = true ∧ (Lit.int .i64 x.f1).wf = true ∧ (Lit.int .i64 x.f2).wf = true
theorem opensEdge : Opens Try.prog 45 k45 wfE := opens_iso (opens_three (P := Try.prog) (t := 45) Try.underlying45 (opens_int (P := Try.prog) (t := 3) Try.underlying3) (opens_int (P := Try.prog) (t := 3) Try.underlying3) (opens_int (P := Try.prog) (t := 2) Try.underlying2) rfl rfl rfl (by kernel_rfl) (by kernel_rfl) (by kernel_rfl) (by kernel_rfl)) (fun x : S45 => (x.f0, x.f1, x.f2)) (fun y => ⟨y.1, y.2.1, y.2.2⟩) (fun _ => rfl)
theorem opensEdges : Opens Try.prog 22 (Kd.slice 45 k45) (fun l => ∀ x ∈ l, wfE x) := opens_slice Try.underlying22 opensEdge (by kernel_rfl)
theorem opensGraph : Opens Try.prog 24 (Kd.pair (Kd.int .i64) (Kd.slice 45 k45)) (fun x => (Lit.int .i64 x.1).wf = true ∧ ∀ y ∈ x.2, wfE y) := opens_two Try.underlying24 (opens_int (P := Try.prog) (t := 3) Try.underlying3) opensEdges rfl rfl (by kernel_rfl) (by kernel_rfl) (by kernel_rfl)
end Go.Proofs.Ytpndhkeoljoapaa.Open
