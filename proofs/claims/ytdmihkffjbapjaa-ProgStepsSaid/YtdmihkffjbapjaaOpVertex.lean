/- What came in, opened: vertices. -/
import Derived.Test.YtdmihkffjbapjaaOpen
import Derived.Test.YtdmihkffjbapjaaPx0
namespace Go.Proofs.Ytdmihkffjbapjaa.Open
open Go.RowKit Go.Proofs.YtdmihkffjbapjaaW.PrintWords Go.Proofs.YtdmihkffjbapjaaW.PrintLast Go.Proofs.Ytdmihkffjbapjaa.P
open Go.ChangeShapes Go.WideShapes
theorem take_two {α : Type} (cs : List α) (o n m : Nat) : (cs.drop o).take (n + m) = (cs.drop o).take n ++ (cs.drop (o + n)).take m := by
  rw [List.take_add, List.drop_drop]
theorem opens_five {P : Program} {t : TypeId} {α β γ δ ε : Type} {f0 f1 f2 f3 f4 : Field} (ht : P.underlying t = some (.struct #[f0, f1, f2, f3, f4])) {d0 : Kd α} {d1 : Kd β} {d2 : Kd γ} {d3 : Kd δ} {d4 : Kd ε} {w0 : α → Prop} {w1 : β → Prop} {w2 : γ → Prop} {w3 : δ → Prop} {w4 : ε → Prop} (h0 : Opens P f0.type d0 w0) (h1 : Opens P f1.type d1 w1) (h2 : Opens P f2.type d2 w2) (h3 : Opens P f3.type d3 w3) (h4 : Opens P f4.type d4 w4)
    (o0 : f0.offset = 0) (o1 : f1.offset = 0 + d0.sz) (o2 : f2.offset = 0 + d0.sz + d1.sz) (o3 : f3.offset = 0 + d0.sz + d1.sz + d2.sz) (o4 : f4.offset = 0 + d0.sz + d1.sz + d2.sz + d3.sz) (s0 : P.cellsOf f0.type = d0.sz) (s1 : P.cellsOf f1.type = d1.sz) (s2 : P.cellsOf f2.type = d2.sz) (s3 : P.cellsOf f3.type = d3.sz) (s4 : P.cellsOf f4.type = d4.sz) (hc : P.cellsOf t = d0.sz + (d1.sz + (d2.sz + (d3.sz + d4.sz)))) : Opens P t (Kd.pair d0 (Kd.pair d1 (Kd.pair d2 (Kd.pair d3 d4)))) (fun x => w0 x.1 ∧ w1 x.2.1 ∧ w2 x.2.2.1 ∧ w3 x.2.2.2.1 ∧ w4 x.2.2.2.2) := fun enc w base spare held fuel cs y hy => by
  obtain ⟨xs, n, _, _, hl, hlen, hf⟩ := DataW.trod_struct ht hy
  have hlen : xs.length = 5 := hlen
  obtain ⟨x0, k0, u0⟩ := h0 enc w base spare held n _ xs[0] (by rw [hf 0 f0 rfl, List.getElem?_eq_getElem])
  obtain ⟨x1, k1, u1⟩ := h1 enc w base spare held n _ xs[1] (by rw [hf 1 f1 rfl, List.getElem?_eq_getElem])
  obtain ⟨x2, k2, u2⟩ := h2 enc w base spare held n _ xs[2] (by rw [hf 2 f2 rfl, List.getElem?_eq_getElem])
  obtain ⟨x3, k3, u3⟩ := h3 enc w base spare held n _ xs[3] (by rw [hf 3 f3 rfl, List.getElem?_eq_getElem])
  obtain ⟨x4, k4, u4⟩ := h4 enc w base spare held n _ xs[4] (by rw [hf 4 f4 rfl, List.getElem?_eq_getElem])
  rw [o0, s0] at k0
  rw [o1, s1] at k1
  rw [o2, s2] at k2
  rw [o3, s3] at k3
  rw [o4, s4] at k4
  have e : cs = (cs.drop 0).take (d0.sz + (d1.sz + (d2.sz + (d3.sz + d4.sz)))) := by
    rw [List.drop_zero, List.take_of_length_le]
    rw [← hc, ← hl]
    exact Nat.le_refl _
  rw [take_two, take_two, take_two, take_two] at e
  exact ⟨(x0, x1, x2, x3, x4), ⟨_, _, e, k0, ⟨_, _, rfl, k1, ⟨_, _, rfl, k2, ⟨_, _, rfl, k3, k4⟩⟩⟩⟩, u0, u1, u2, u3, u4⟩
theorem opensVertex5 : Opens Try.prog 28 (Kd.pair (Kd.int .i64) (Kd.pair (Kd.int .i64) (Kd.pair Kd.bool (Kd.pair Kd.bool (Kd.int .i64))))) (fun x => (Lit.int .i64 x.1).wf = true ∧ (Lit.int .i64 x.2.1).wf = true ∧ True ∧ True ∧ (Lit.int .i64 x.2.2.2.2).wf = true) := opens_five (P := Try.prog) (t := 28) Try.underlying28 (opens_int (P := Try.prog) (t := 3) Try.underlying3) (opens_int (P := Try.prog) (t := 2) Try.underlying2) (opens_bool (P := Try.prog) (t := 4) Try.underlying4) (opens_bool (P := Try.prog) (t := 4) Try.underlying4) (opens_int (P := Try.prog) (t := 2) Try.underlying2) rfl rfl rfl rfl rfl (by kernel_rfl) (by kernel_rfl) (by kernel_rfl) (by kernel_rfl) (by kernel_rfl) (by kernel_rfl)
theorem opens_vertex {H : Type} (enc : TypeId × Value → H) (w : World) (base : Nat) (spare : Nat → Bool) (held : Bool) (fuel : Nat) (cs : List Value) (y : DataW H × List MemPlace) (h : DataW.trod enc Try.prog w base spare held fuel 28 cs = some y) : ∃ a0 a1 a2 a3 a4, cs = [Value.int .i64 a0, Value.int .i64 a1, Value.bool a2, Value.bool a3, Value.int .i64 a4] ∧ (Lit.int .i64 a0).wf = true ∧ (Lit.int .i64 a1).wf = true ∧ (Lit.int .i64 a4).wf = true := by
  obtain ⟨⟨a0, a1, a2, a3, a4⟩, ⟨x0, r0, h0, hx0, ⟨x1, r1, h1, hx1, ⟨x2, r2, h2, hx2, ⟨x3, x4, h3, hx3, hx4⟩⟩⟩⟩, v0, v1, _, _, v4⟩ := opensVertex5 enc w base spare held fuel cs y h
  change x0 = [Value.int .i64 a0] at hx0
  change x1 = [Value.int .i64 a1] at hx1
  change x2 = [Value.bool a2] at hx2
  change x3 = [Value.bool a3] at hx3
  change x4 = [Value.int .i64 a4] at hx4
  subst hx0 hx1 hx2 hx3 hx4 h3 h2 h1 h0
  exact ⟨a0, a1, a2, a3, a4, rfl, v0, v1, v4⟩
end Go.Proofs.Ytdmihkffjbapjaa.Open
