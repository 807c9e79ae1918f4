/- What came in, opened: of each type of these laws' parameters, that what is read of a value is a value of the printed kinds. -/
import Derived.Test.YtpndhkeoljoapaaGreatWQPutAll
import Derived.Deep.Slices
import Derived.ChangeArms
import Derived.ChangeOld
import Derived.WideShapes
namespace Go.Proofs.YtpndhkeoljoapaaGreat.Open
open Go.RowKit Go.Proofs.YtpndhkeoljoapaaGreatW.PrintWords Go.Proofs.YtpndhkeoljoapaaGreatW.PrintLast
open Go.ChangeShapes Go.WideShapes
/-- What is read as a t is one of d's, and so fair. -/
def Opens {α : Type} (P : Program) (t : TypeId) (d : Kd α) (wf : α → Prop) : Prop :=
  ∀ {H : Type} (enc : TypeId × Value → H) (w : World) (base : Nat) (spare : Nat → Bool) (held : Bool) (fuel : Nat) (cs : List Value) (y : DataW H × List MemPlace), DataW.trod enc P w base spare held fuel t cs = some y → ∃ x, d.K w x cs ∧ wf x
section
variable {P : Program} {t e : TypeId} {α β γ δ ε : Type}
theorem opens_int {k : IntKind} (ht : P.underlying t = some (.int k)) : Opens P t (Kd.int k) (fun n => (Lit.int k n).wf = true) := fun enc w base spare held fuel cs y h => by
  obtain ⟨n, rfl, _, hw⟩ := DataW.trod_int ht h
  exact ⟨n, rfl, hw⟩
theorem opens_bool (ht : P.underlying t = some .bool) : Opens P t Kd.bool (fun _ => True) := fun enc w base spare held fuel cs y h => by
  obtain ⟨b, rfl, _⟩ := DataW.trod_bool ht h
  exact ⟨b, rfl, trivial⟩
theorem opens_string (ht : P.underlying t = some .string) : Opens P t Kd.string (fun s => s.size ≤ maxLen) := fun enc w base spare held fuel cs y h => by
  obtain ⟨s, rfl, _, hw⟩ := DataW.trod_string ht h
  exact ⟨s, rfl, hw⟩
theorem opens_iso {d : Kd α} {wf : α → Prop} (h : Opens P t d wf) (g : β → α) (f : α → β) (hg : ∀ x, g (f x) = x) : Opens P t (Kd.iso d g) (fun x => wf (g x)) := fun enc w base spare held fuel cs y hy => by
  obtain ⟨x, hk, hw⟩ := h enc w base spare held fuel cs y hy
  exact ⟨f x, by show d.K w (g (f x)) cs; rw [hg]; exact hk, by show wf (g (f x)); rw [hg]; exact hw⟩
theorem chosen {p : Nat → α → Prop} : ∀ n, (∀ i, i < n → ∃ x, p i x) → ∃ l : List α, l.length = n ∧ ∀ i x, l[i]? = some x → p i x
  | 0, _ => ⟨[], rfl, fun i x h => by simp at h⟩
  | n + 1, h => by
    obtain ⟨l, hl, hp⟩ := chosen n (fun i hi => h i (by omega))
    obtain ⟨x, hx⟩ := h n (by omega)
    refine ⟨l ++ [x], by simp [hl], fun i z hz => ?_⟩
    rw [List.getElem?_append] at hz
    split at hz
    · exact hp i z hz
    · rename_i hi
      have h1 := (List.getElem?_eq_some_iff.1 hz).1
      simp only [List.length_singleton] at h1
      have h0 : i - l.length = 0 := by omega
      rw [h0] at hz
      obtain rfl : x = z := by simpa using hz
      have : i = n := by omega
      rw [this]; exact hx
theorem opens_slice (ht : P.underlying t = some (.slice e)) {d : Kd α} {wf : α → Prop} (h : Opens P e d wf) (hs : P.cellsOf e = d.sz) : Opens P t (Kd.slice e d) (fun l => ∀ x ∈ l, wf x) := fun enc w base spare held fuel cs y hy => by
  rcases Go.Deep.open_slice ht hy with ⟨rfl, _⟩ | ⟨a, len, cap, m, n, D, Pl, rfl, hb, hl, hm, hmm, _, hx⟩
  · exact ⟨[], ⟨none, 0, rfl, Nat.le_refl _, ⟨rfl, Nat.zero_le _, fun h => absurd h (Nat.lt_irrefl _)⟩⟩, fun x hx => by cases hx⟩
  · have hle : len ≤ m := by rw [hmm]; split <;> omega
    obtain ⟨l, hlen, hp⟩ := chosen (p := fun i x => wf x ∧ ∃ c, c.length = d.sz ∧ d.K w x c ∧ ∀ j u, c[j]? = some u → w.cell? (a.add (i * d.sz + j)) = some u) len (fun i hi => by
      obtain ⟨c, hc, htr⟩ := hx i (by omega)
      obtain ⟨x, hk, hw⟩ := h enc w base spare held n c _ htr
      obtain ⟨_, hcl, hcell⟩ := World.cells?_some hc
      refine ⟨x, hw, c, by rw [hcl, hs], hk, fun j u hu => ?_⟩
      have hj := (List.getElem?_eq_some_iff.1 hu).1
      have := hcell j (by omega)
      rw [hs, Addr.add_add] at this
      rw [this]; exact hu)
    subst hlen
    refine ⟨l, ⟨some a, cap, rfl, hl, ⟨rfl, ?_, fun _ => ⟨a, rfl, fun j x hx => (hp j x hx).2⟩⟩⟩, fun x hx => ?_⟩
    · have : maxLen ≤ 9223372036854775807 := by unfold maxLen; omega
      omega
    · obtain ⟨i, hi, rfl⟩ := List.mem_iff_getElem.1 hx
      exact (hp i _ (List.getElem?_eq_getElem hi)).1
theorem split2 {cs : List Value} {a b : Nat} (h : cs.length = a + b) : cs = (cs.drop 0).take a ++ (cs.drop a).take b := by
  rw [List.drop_zero, List.take_of_length_le (i := b) (by rw [List.length_drop]; omega), List.take_append_drop]
theorem split3 {cs : List Value} {a b c : Nat} (h : cs.length = a + b + c) : cs = (cs.drop 0).take a ++ ((cs.drop a).take b ++ (cs.drop (a + b)).take c) := by
  have h2 := split2 (cs := cs.drop a) (a := b) (b := c) (by rw [List.length_drop]; omega)
  rw [List.drop_zero, List.drop_drop] at h2
  rw [← h2, List.drop_zero, List.take_append_drop]
theorem opens_two {f0 f1 : Field} (ht : P.underlying t = some (.struct #[f0, f1])) {d0 : Kd α} {d1 : Kd β} {w0 : α → Prop} {w1 : β → Prop} (h0 : Opens P f0.type d0 w0) (h1 : Opens P f1.type d1 w1)
    (o0 : f0.offset = 0) (o1 : f1.offset = d0.sz) (s0 : P.cellsOf f0.type = d0.sz) (s1 : P.cellsOf f1.type = d1.sz) (hc : P.cellsOf t = d0.sz + d1.sz) : Opens P t (Kd.pair d0 d1) (fun x => w0 x.1 ∧ w1 x.2) := fun enc w base spare held fuel cs y hy => by
  obtain ⟨xs, n, _, _, hl, hlen, hf⟩ := DataW.trod_struct ht hy
  have hlen : xs.length = 2 := hlen
  obtain ⟨x0, k0, u0⟩ := h0 enc w base spare held n _ xs[0] (by rw [hf 0 f0 rfl, List.getElem?_eq_getElem])
  obtain ⟨x1, k1, u1⟩ := h1 enc w base spare held n _ xs[1] (by rw [hf 1 f1 rfl, List.getElem?_eq_getElem])
  rw [o0, s0] at k0
  rw [o1, s1] at k1
  exact ⟨(x0, x1), ⟨_, _, split2 (hl.trans hc), k0, k1⟩, u0, u1⟩
theorem opens_three {f0 f1 f2 : Field} (ht : P.underlying t = some (.struct #[f0, f1, f2])) {d0 : Kd α} {d1 : Kd β} {d2 : Kd γ} {w0 : α → Prop} {w1 : β → Prop} {w2 : γ → Prop} (h0 : Opens P f0.type d0 w0) (h1 : Opens P f1.type d1 w1) (h2 : Opens P f2.type d2 w2)
    (o0 : f0.offset = 0) (o1 : f1.offset = d0.sz) (o2 : f2.offset = d0.sz + d1.sz) (s0 : P.cellsOf f0.type = d0.sz) (s1 : P.cellsOf f1.type = d1.sz) (s2 : P.cellsOf f2.type = d2.sz) (hc : P.cellsOf t = d0.sz + d1.sz + d2.sz) : Opens P t (Kd.pair d0 (Kd.pair d1 d2)) (fun x => w0 x.1 ∧ w1 x.2.1 ∧ w2 x.2.2) := fun enc w base spare held fuel cs y hy => by
  obtain ⟨xs, n, _, _, hl, hlen, hf⟩ := DataW.trod_struct ht hy
  have hlen : xs.length = 3 := hlen
  obtain ⟨x0, k0, u0⟩ := h0 enc w base spare held n _ xs[0] (by rw [hf 0 f0 rfl, List.getElem?_eq_getElem])
  obtain ⟨x1, k1, u1⟩ := h1 enc w base spare held n _ xs[1] (by rw [hf 1 f1 rfl, List.getElem?_eq_getElem])
  obtain ⟨x2, k2, u2⟩ := h2 enc w base spare held n _ xs[2] (by rw [hf 2 f2 rfl, List.getElem?_eq_getElem])
  rw [o0, s0] at k0
  rw [o1, s1] at k1
  rw [o2, s2] at k2
  exact ⟨(x0, x1, x2), ⟨_, _, split3 (hl.trans hc), k0, ⟨_, _, rfl, k1, k2⟩⟩, u0, u1, u2⟩
end
end Go.Proofs.YtpndhkeoljoapaaGreat.Open
