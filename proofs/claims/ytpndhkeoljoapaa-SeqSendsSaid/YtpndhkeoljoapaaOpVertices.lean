/- What came in, opened: rows of vertices. -/
import Derived.Test.YtpndhkeoljoapaaOpVertex
namespace Go.Proofs.Ytpndhkeoljoapaa.Open
open Go.RowKit Go.Proofs.YtpndhkeoljoapaaW.PrintWords Go.Proofs.YtpndhkeoljoapaaW.PrintLast Go.Proofs.Ytpndhkeoljoapaa.P
/-- A vertex of whole numbers of 64 bits. -/
def wfV (x : S50) : Prop := (Lit.int .i64 x.f0).wf = true ∧ (Lit.int .i64 x.f1).wf = true ∧ True ∧ True ∧ (Lit.int .i64 x.f4).wf = true
theorem opensVertexK : Opens Try.prog 50 k50 wfV := opens_iso opensVertex5 (fun x : S50 => (x.f0, x.f1, x.f2, x.f3, x.f4)) (fun y => ⟨y.1, y.2.1, y.2.2.1, y.2.2.2.1, y.2.2.2.2⟩) (fun _ => rfl)
theorem opensVertices : Opens Try.prog 28 (Kd.slice 50 k50) (fun l => ∀ x ∈ l, wfV x) := opens_slice Try.underlying28 opensVertexK (by kernel_rfl)
end Go.Proofs.Ytpndhkeoljoapaa.Open
