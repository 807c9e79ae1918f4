/- Several texts of this claim, joined. No condition. -/
import Derived.Test.YtpndhkeoljoapaaGreatOpen
import Derived.Test.YtpndhkeoljoapaaGreatPx0
section
/- What came in, opened: edges and graphs. -/
namespace Go.Proofs.YtpndhkeoljoapaaGreat.Open
open Go.RowKit Go.Proofs.YtpndhkeoljoapaaGreatW.PrintWords Go.Proofs.YtpndhkeoljoapaaGreatW.PrintLast Go.Proofs.YtpndhkeoljoapaaGreat.P
/-- An edge of whole numbers of 64 bits. -/
def wfE (x : S48) : Prop := (Lit.int .i64 x.f0).wf = true ∧ (Lit.int .i64 x.f1).wf = true ∧ (Lit.int .i64 x.f2).wf = true
theorem opensEdge : Opens Tryz.prog 48 k48 wfE := opens_iso (opens_three (P := Tryz.prog) (t := 48) Tryz.underlying48 (opens_int (P := Tryz.prog) (t := 3) Tryz.underlying3) (opens_int (P := Tryz.prog) (t := 3) Tryz.underlying3) (opens_int (P := Tryz.prog) (t := 2) Tryz.underlying2) rfl rfl rfl (by kernel_rfl) (by kernel_rfl) (by kernel_rfl) (by kernel_rfl)) (fun x : S48 => (x.f0, x.f1, x.f2)) (fun y => ⟨y.1, y.2.1, y.2.2⟩) (fun _ => rfl)
theorem opensEdges : Opens Tryz.prog 22 (Kd.slice 48 k48) (fun l => ∀ x ∈ l, wfE x) := opens_slice Tryz.underlying22 opensEdge (by kernel_rfl)
theorem opensGraph : Opens Tryz.prog 24 (Kd.pair (Kd.int .i64) (Kd.slice 48 k48)) (fun x => (Lit.int .i64 x.1).wf = true ∧ ∀ y ∈ x.2, wfE y) := opens_two Tryz.underlying24 (opens_int (P := Tryz.prog) (t := 3) Tryz.underlying3) opensEdges rfl rfl (by kernel_rfl) (by kernel_rfl) (by kernel_rfl)
end Go.Proofs.YtpndhkeoljoapaaGreat.Open
end
section
/- What came in, opened: vertices. -/
namespace Go.Proofs.YtpndhkeoljoapaaGreat.Open
open Go.RowKit Go.Proofs.YtpndhkeoljoapaaGreatW.PrintWords Go.Proofs.YtpndhkeoljoapaaGreatW.PrintLast Go.Proofs.YtpndhkeoljoapaaGreat.P
open Go.ChangeShapes Go.WideShapes
theorem take_two {α : Type} (cs : List α) (o n m : Nat) : (cs.drop o).take (n + m) = (cs.drop o).take n ++ (cs.drop (o + n)).take m := by
  rw [List.take_add, List.drop_drop]
theorem opens_five {P : Program} {t : TypeId} {α β γ δ ε : Type} {f0 f1 f2 f3 f4 : Field} (ht : P.underlying t = some (.struct #[f0, f1, f2, f3, f4])) {d0 : Kd α} {d1 : Kd β} {d2 : Kd γ} {d3 : Kd δ} {d4 : Kd ε} {w0 : α → Prop} {w1 : β → Prop} {w2 : γ → Prop} {w3 : δ → Prop} {w4 : ε → Prop} (h0 : Opens P f0.type d0 w0) (h1 : Opens P f1.type d1 w1) (h2 : Opens P f2.type d2 w2) (h3 : Opens P f3.type d3 w3) (h4 : Opens P f4.type d4 w4)
    (o0 : f0.offset = 0) (o1 : f1.offset = 0 + d0.sz) (o2 : f2.offset = 0 + d0.sz + d1.sz) (o3 : f3.offset = 0 + d0.sz + d1.sz + d2.sz) (o4 : f4.offset = 0 + d0.sz + d1.sz + d2.sz + d3.sz) (s0 : P.cellsOf f0.type = d0.sz) (s1 : P.cellsOf f1.type = d1.sz) (s2 : P.cellsOf f2.type = d2.sz) (s3 : P.cellsOf f3.type = d3.sz) (s4 : P.cellsOf f4.type = d4.sz) (hc : P.cellsOf t = d0.sz + (d1.sz + (d2.sz + (d3.sz + d4.sz)))) : Opens P t (Kd.pair d0 (Kd.pair d1 (Kd.pair d2 (Kd.pair d3 d4)))) (fun x => w0 x.1 ∧ w1 x.2.1 ∧ w2 x.2.2.1 ∧ w3 x.2.2.2.1 ∧ w4 x.2.2.2.2) := fun enc w base spare held fuel cs y hy => by
  obtain ⟨xs, n, _, _, hl, hlen, hf⟩ := DataW.trod_struct ht hy
  have hlen : xs.length = 5 := hlen
  obtain ⟨x0, k0, u0⟩ := h0 enc w base spare held n _ xs[0] (by rw [hf 0 f0 rfl, List.getElem?_eq_getElem])
  obtain ⟨x1, k1, u1⟩ := h1 enc w base spare held n _ xs[1] (by rw [hf 1 f1 rfl, List.getElem?_eq_getElem])
  obtain ⟨x2, k2, u2⟩ := h2 enc w base spare held n _ xs[2] (by rw [hf 2 f2 rfl, List.getElem?_eq_getElem])
  obtain ⟨x3, k3, u3⟩ := h3 enc w base spare held n _ xs[3] (by rw [hf 3 f3 rfl, List.getElem?_eq_getElem])
  obtain ⟨x4, k4, u4⟩ := h4 enc w base spare held n _ xs[4] (by rw [hf 4 f4 rfl, List.getElem?_eq_getElem])
  rw [o0, s0] at k0
  rw [o1, s1] at k1
  rw [o2, s2] at k2
  rw [o3, s3] at k3
  rw [o4, s4] at k4
  have e : cs = (cs.drop 0).take (d0.sz + (d1.sz + (d2.sz + (d3.sz + d4.sz)))) := by
    rw [List.drop_zero, List.take_of_length_le]
    rw [← hc, ← hl]
    exact Nat.le_refl _
  rw [take_two, take_two, take_two, take_two] at e
  exact ⟨(x0, x1, x2, x3, x4), ⟨_, _, e, k0, ⟨_, _, rfl, k1, ⟨_, _, rfl, k2, ⟨_, _, rfl, k3, k4⟩⟩⟩⟩, u0, u1, u2, u3, u4⟩
theorem opensVertex5 : Opens Tryz.prog 50 (Kd.pair (Kd.int .i64) (Kd.pair (Kd.int .i64) (Kd.pair Kd.bool (Kd.pair Kd.bool (Kd.int .i64))))) (fun x => (Lit.int .i64 x.1).wf = true ∧ (Lit.int .i64 x.2.1).wf = true ∧ True ∧ True ∧ (Lit.int .i64 x.2.2.2.2).wf = true) := opens_five (P := Tryz.prog) (t := 50) Tryz.underlying50 (opens_int (P := Tryz.prog) (t := 3) Tryz.underlying3) (opens_int (P := Tryz.prog) (t := 2) Tryz.underlying2) (opens_bool (P := Tryz.prog) (t := 4) Tryz.underlying4) (opens_bool (P := Tryz.prog) (t := 4) Tryz.underlying4) (opens_int (P := Tryz.prog) (t := 2) Tryz.underlying2) rfl rfl rfl rfl rfl (by kernel_rfl) (by kernel_rfl) (by kernel_rfl) (by kernel_rfl) (by kernel_rfl) (by kernel_rfl)
end Go.Proofs.YtpndhkeoljoapaaGreat.Open
end
section
/- What came in, opened: rows of vertices. -/
namespace Go.Proofs.YtpndhkeoljoapaaGreat.Open
open Go.RowKit Go.Proofs.YtpndhkeoljoapaaGreatW.PrintWords Go.Proofs.YtpndhkeoljoapaaGreatW.PrintLast Go.Proofs.YtpndhkeoljoapaaGreat.P
/-- A vertex of whole numbers of 64 bits. -/
def wfV (x : S50) : Prop := (Lit.int .i64 x.f0).wf = true ∧ (Lit.int .i64 x.f1).wf = true ∧ True ∧ True ∧ (Lit.int .i64 x.f4).wf = true
theorem opensVertexK : Opens Tryz.prog 50 k50 wfV := opens_iso opensVertex5 (fun x : S50 => (x.f0, x.f1, x.f2, x.f3, x.f4)) (fun y => ⟨y.1, y.2.1, y.2.2.1, y.2.2.2.1, y.2.2.2.2⟩) (fun _ => rfl)
theorem opensVertices : Opens Tryz.prog 27 (Kd.slice 50 k50) (fun l => ∀ x ∈ l, wfV x) := opens_slice Tryz.underlying27 opensVertexK (by kernel_rfl)
end Go.Proofs.YtpndhkeoljoapaaGreat.Open
end
