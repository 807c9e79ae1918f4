/- The plain law: bfs is bfs: each edge goes at most one further, and who is reached has one ahead. -/
import Derived.Test.YtpndhkeoljoapaaAwakeSeq
import Derived.Test.YtpndhkeoljoapaaSeqPath
import Derived.Test.YtpndhkeoljoapaaOpEdge
namespace Go.Proofs.Ytpndhkeoljoapaa.Pure
open Go Go.RowKit Go.Proofs.Ytpndhkeoljoapaa Go.Proofs.Ytpndhkeoljoapaa.P Go.Proofs.YtpndhkeoljoapaaW.PrintWords Go.Proofs.YtpndhkeoljoapaaW.PrintLast Go.Proofs.YtpndhkeoljoapaaW.PrintMore
set_option linter.unusedVariables false
set_option linter.unusedSimpArgs false
set_option linter.unusedSectionVars false
def aheadR (x : List Int) (v : Nat) (e : VEdge) : Bool := e.f1 == (v : Int) && rd x e.f0 == rd x (v : Int) - 1
section
variable (s : Int) (x : List Int) (n : Int) (l : List VEdge) (hx : x.length ≤ 1000) (hl : l.length ≤ 1000) (hr : ∀ e ∈ l, 0 ≤ e.f0 ∧ e.f0 < (x.length : Int) ∧ 0 ≤ e.f1 ∧ e.f1 < (x.length : Int)) (hsm : ∀ v : Int, -1125899906842624 ≤ rd x v ∧ rd x v ≤ 1125899906842624)
include hx hl hr hsm
theorem reaches_l2 (v : Nat) (hv : v < x.length) (r : Bool) : ∀ (d j : Nat) (is : Bool), l.length - j = d → j ≤ l.length → Ev (fun k => modillionlaw09_SeqReaches.l2 k s x (v : Int) (is || (l.drop j).any (aheadR x v)) (l.length : Int) n l) r → Ev (fun k => modillionlaw09_SeqReaches.l2 k s x (v : Int) is (j : Int) n l) r
  | 0, j, is, hd, hj, h => by
    rw [List.drop_of_length_le (by omega), List.any_nil, Bool.or_false] at h
    obtain rfl : j = l.length := by omega
    exact h
  | d + 1, j, is, hd, hj, h => by
    have hlt : j < l.length := by omega
    rw [List.drop_eq_getElem_cons hlt, List.any_cons] at h
    obtain ⟨a0, a1, b0, b1⟩ := hr _ (List.getElem_mem hlt)
    cases is with
    | true =>
      refine Ev.step (fun k => ?_) (reaches_l2 v hv r d (j + 1) true (by omega) (by omega) (by simpa using h))
      rw [modillionlaw09_SeqReaches.l2, if_pos (by omega), if_pos rfl, wrapt (by omega) (by omega)]
      rfl
    | false =>
      refine Ev.step (fun k => ?_) (reaches_l2 v hv r d (j + 1) (aheadR x v l[j]) (by omega) (by omega) (by simpa using h))
      have := hsm (v : Int)
      rw [modillionlaw09_SeqReaches.l2, if_pos (by omega), if_neg Bool.false_ne_true, if_pos (by omega), rdE7 l j hlt, wrapt (n := (j : Int) + 1) (by omega) (by omega), wrapt (n := rd x (v : Int) - 1) (by omega) (by omega)]
      unfold aheadR
      by_cases he : l[j].f1 = (v : Int)
      · rw [if_pos he, if_pos a0, if_pos a1, if_pos (by omega), if_pos (by omega), beq_iff_eq.mpr he, Bool.true_and]
        rfl
      · rw [if_neg he, beq_eq_false_iff_ne.mpr he, Bool.false_and]
        rfl
theorem reaches_l1 (hs0 : 0 ≤ s) (hs1 : s < (x.length : Int)) (hs : rd x s = 0) (hf : ∀ v : Nat, v < x.length → (decide (rd x (v : Int) ≤ 0) || l.any (aheadR x v)) = true ∧ (rd x (v : Int) = 0 → (v : Int) = s)) : ∀ (d v : Nat), x.length - v = d → v ≤ x.length → Ev (fun k => modillionlaw09_SeqReaches.l1 k s x (v : Int) n l) true
  | 0, v, hd, hv => by
    refine Ev.step (fun k => ?_) (Ev.now _)
    rw [modillionlaw09_SeqReaches.l1, if_neg (by omega), if_pos hs0, if_pos hs1, hs]
    rfl
  | d + 1, v, hd, hv => by
    have hlt : v < x.length := by omega
    obtain ⟨h1, h2⟩ := hf v hlt
    refine Ev.step (f := fun k => modillionlaw09_SeqReaches.l2 k s x (v : Int) (decide (rd x (v : Int) ≤ 0)) ((0 : Nat) : Int) n l) (fun k => by rw [modillionlaw09_SeqReaches.l1, if_pos (by omega), if_pos (by omega)]; rfl) ?_
    refine reaches_l2 s x n l hx hl hr hsm v hlt true l.length 0 _ rfl (Nat.zero_le _) ?_
    rw [List.drop_zero, h1]
    refine Ev.step (fun k => ?_) (reaches_l1 hs0 hs1 hs hf d (v + 1) (by omega) (by omega))
    rw [modillionlaw09_SeqReaches.l2, if_neg (by omega), if_pos (by rfl), if_pos (by omega), if_pos (by omega), wrapt (by omega) (by omega)]
    by_cases hz : rd x (v : Int) = 0
    · rw [if_pos hz, if_pos (h2 hz)]
      rfl
    · rw [if_neg hz]
      rfl
theorem reaches_l0 (he : ∀ e ∈ l, 0 ≤ rd x e.f0 → 0 ≤ rd x e.f1 ∧ rd x e.f1 ≤ rd x e.f0 + 1) (h1 : Ev (fun k => modillionlaw09_SeqReaches.l1 k s x 0 n l) true) : ∀ (d i : Nat), l.length - i = d → i ≤ l.length → Ev (fun k => modillionlaw09_SeqReaches.l0 k s x (i : Int) n l) true
  | 0, i, hd, hi => by
    refine Ev.step (fun k => ?_) h1
    rw [modillionlaw09_SeqReaches.l0, if_neg (by omega)]
  | d + 1, i, hd, hi => by
    have hlt : i < l.length := by omega
    obtain ⟨a0, a1, b0, b1⟩ := hr _ (List.getElem_mem hlt)
    have hq := he _ (List.getElem_mem hlt)
    have := hsm l[i].f0
    refine Ev.step (fun k => ?_) (reaches_l0 he h1 d (i + 1) (by omega) (by omega))
    rw [modillionlaw09_SeqReaches.l0, if_pos (by omega), if_pos (by omega), rdE7 l i hlt, if_pos a0, if_pos a1, if_pos b0, if_pos b1, wrapt (n := (i : Int) + 1) (by omega) (by omega), wrapt (n := rd x l[i].f0 + 1) (by omega) (by omega)]
    by_cases h0 : 0 ≤ rd x l[i].f0
    · have := hq h0
      rw [if_pos h0, if_neg (by omega), if_neg (by omega)]
      rfl
    · rw [if_neg h0]
      rfl
end
theorem SeqReaches : ∀ (a0_0 : Int) (l0_1 : List P.S45) (a1 : Int), (Lit.int .i64 a0_0).wf = true → (∀ x ∈ l0_1, Open.wfE x) → (Lit.int .i64 a1).wf = true → ∃ k, P.modillionlaw09_SeqReaches.f k a0_0 l0_1 a1 = some true := by
  intro n l src _ _ _
  refine Ev.rounds ?_
  unfold modillionlaw09_SeqReaches.f
  refine Ev.bind awake09 (Ev.congr (fun k => if_pos rfl) ?_)
  have triv : Ev (fun k => modillionlaw09_SeqReaches.j0 k src true n l) true := Ev.step (f := fun k => (modillionlaw09_awake.f k).bind fun t => some t) (fun k => by rw [modillionlaw09_SeqReaches.j0, if_pos rfl]) (Ev.bind awake09 (Ev.now _))
  by_cases hl : (l.length : Int) > 60
  · exact Ev.congr (fun k => if_pos hl) triv
  refine Ev.congr (fun k => if_neg hl) ?_
  by_cases hn : n > 12
  · rw [decide_eq_true hn]
    exact triv
  rw [decide_eq_false hn]
  have hr := run_f n l ⟨#[98, 102, 115]⟩ src 20 (by omega)
  rw [show (⟨#[98, 102, 115]⟩ : ByteArray).toList = tBfs by simp only [ByteArray.toList_eq]] at hr
  refine Ev.step (f := fun k => (seq_Run.f k n l ⟨#[98, 102, 115]⟩ src 20).bind fun bt262 => (if bt262.2.2 = 0 then (modillionlaw09_SeqReaches.l0 k src bt262.1 0 n l) else (some ((bt262.1.length : Int) == 0)))) (fun k => by rw [modillionlaw09_SeqReaches.j0, if_neg Bool.false_ne_true, own09 n l (by omega), Option.bind_some]) ?_
  refine Ev.bind hr ?_
  by_cases he : (runR n l tBfs src 20).2.2 = 0
  · refine Ev.congr (fun k => if_pos he) ?_
    have hjb := runR_job he
    obtain ⟨hb, _, _, hs0, hs1, _, _⟩ := job_of hjb
    obtain ⟨f1, f2, f3, f4, f5⟩ := path_facts (Or.inl rfl) hjb (by omega) (x := (runR n l tBfs src 20).1) (m := (runR n l tBfs src 20).2.1) (Prod.ext rfl (Prod.ext rfl he))
    generalize (runR n l tBfs src 20).1 = x at f1 f2 f3 f4 f5 ⊢
    have hrg : ∀ e ∈ l, 0 ≤ e.f0 ∧ e.f0 < (x.length : Int) ∧ 0 ≤ e.f1 ∧ e.f1 < (x.length : Int) := fun e h => by
      have := edge_in hb h
      omega
    have e1 : ∀ e : VEdge, weightV tBfs e = 1 := fun e => rfl
    refine reaches_l0 src x n l (by omega) (by omega) hrg f2 (fun e h h0 => ?_) ?_ l.length 0 rfl (Nat.zero_le _)
    · have := f3 e h h0
      rw [e1] at this
      exact this
    · refine reaches_l1 src x n l (by omega) (by omega) hrg f2 hs0 (by omega) f5 (fun v hv => ⟨?_, fun hz => ?_⟩) _ 0 rfl (Nat.zero_le _)
      · by_cases h0 : rd x (v : Int) ≤ 0
        · rw [decide_eq_true h0, Bool.true_or]
        · have hne : (v : Int) ≠ src := fun h => h0 (by rw [h, f5]; exact Int.le_refl _)
          obtain ⟨e, he, g1, g2, g3⟩ := f4 (v : Int) (by omega) (by omega) (by omega) hne
          rw [e1] at g3
          rw [Bool.or_eq_true]
          refine Or.inr (List.any_eq_true.mpr ⟨e, he, ?_⟩)
          unfold aheadR
          rw [beq_iff_eq.mpr g1, Bool.true_and, beq_iff_eq]
          omega
      · by_cases hne : (v : Int) = src
        · exact hne
        · obtain ⟨e, he, g1, g2, g3⟩ := f4 (v : Int) (by omega) (by omega) (by omega) hne
          rw [e1] at g3
          omega
  · refine Ev.congr (fun k => if_neg he) ?_
    rw [runR_err he]
    exact Ev.now _
end Go.Proofs.Ytpndhkeoljoapaa.Pure
