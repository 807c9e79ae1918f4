/- The plain law: sssp is sssp: no edge goes on to one who is further than that; who is reached has one ahead, by whom. -/
import Derived.Test.YtpndhkeoljoapaaAwakeSeq
import Derived.Test.YtpndhkeoljoapaaSeqPath
import Derived.Test.YtpndhkeoljoapaaOpEdge
namespace Go.Proofs.Ytpndhkeoljoapaa.Pure
open Go Go.RowKit Go.Proofs.Ytpndhkeoljoapaa Go.Proofs.Ytpndhkeoljoapaa.P Go.Proofs.YtpndhkeoljoapaaW.PrintWords Go.Proofs.YtpndhkeoljoapaaW.PrintLast Go.Proofs.YtpndhkeoljoapaaW.PrintMore
set_option linter.unusedVariables false
set_option linter.unusedSimpArgs false
set_option linter.unusedSectionVars false
def aheadP (x : List Int) (v : Nat) (e : VEdge) : Bool := e.f1 == (v : Int) && (decide (rd x e.f0 ≥ 0) && rd x e.f0 + e.f2 == rd x (v : Int))
section
variable (s : Int) (x : List Int) (n : Int) (l : List VEdge) (hx : x.length ≤ 1000) (hl : l.length ≤ 1000) (hr : ∀ e ∈ l, 0 ≤ e.f0 ∧ e.f0 < (x.length : Int) ∧ 0 ≤ e.f1 ∧ e.f1 < (x.length : Int)) (hw : ∀ e ∈ l, 0 ≤ e.f2 ∧ e.f2 ≤ 1048576) (hsm : ∀ v : Int, -1125899906842624 ≤ rd x v ∧ rd x v ≤ 1125899906842624)
include hx hl hr hw hsm
theorem paths_l2 (v : Nat) (hv : v < x.length) (r : Bool) : ∀ (d j : Nat) (is : Bool), l.length - j = d → j ≤ l.length → Ev (fun k => modillionlaw09_SeqPaths.l2 k s x (v : Int) (is || (l.drop j).any (aheadP x v)) (l.length : Int) n l) r → Ev (fun k => modillionlaw09_SeqPaths.l2 k s x (v : Int) is (j : Int) n l) r
  | 0, j, is, hd, hj, h => by
    rw [List.drop_of_length_le (by omega), List.any_nil, Bool.or_false] at h
    obtain rfl : j = l.length := by omega
    exact h
  | d + 1, j, is, hd, hj, h => by
    have hlt : j < l.length := by omega
    rw [List.drop_eq_getElem_cons hlt, List.any_cons] at h
    obtain ⟨a0, a1, b0, b1⟩ := hr _ (List.getElem_mem hlt)
    have := hw _ (List.getElem_mem hlt)
    have := hsm l[j].f0
    cases is with
    | true =>
      refine Ev.step (fun k => ?_) (paths_l2 v hv r d (j + 1) true (by omega) (by omega) (by simpa using h))
      rw [modillionlaw09_SeqPaths.l2, if_pos (by omega), if_pos (by omega), if_pos rfl, wrapt (by omega) (by omega)]
      rfl
    | false =>
      refine Ev.step (fun k => ?_) (paths_l2 v hv r d (j + 1) (aheadP x v l[j]) (by omega) (by omega) (by simpa using h))
      rw [modillionlaw09_SeqPaths.l2, if_pos (by omega), if_pos (by omega), if_neg Bool.false_ne_true, rdE7 l j hlt, wrapt (n := (j : Int) + 1) (by omega) (by omega), wrapt (n := rd x l[j].f0 + l[j].f2) (by omega) (by omega)]
      unfold aheadP
      by_cases he : l[j].f1 = (v : Int)
      · rw [if_pos he, if_pos a0, if_pos a1, beq_iff_eq.mpr he, Bool.true_and]
        by_cases h0 : rd x l[j].f0 ≥ 0
        · rw [if_pos h0, if_pos (by omega), if_pos (by omega), decide_eq_true h0, Bool.true_and]
          rfl
        · rw [if_neg h0, decide_eq_false h0, Bool.false_and]
          rfl
      · rw [if_neg he, beq_eq_false_iff_ne.mpr he, Bool.false_and]
        rfl
theorem paths_l1 (hs0 : 0 ≤ s) (hs1 : s < (x.length : Int)) (hs : rd x s = 0) (hf : ∀ v : Nat, v < x.length → rd x (v : Int) < 0 ∨ ((v : Int) == s || l.any (aheadP x v)) = true) : ∀ (d v : Nat), x.length - v = d → v ≤ x.length → Ev (fun k => modillionlaw09_SeqPaths.l1 k s x (v : Int) n l) true
  | 0, v, hd, hv => by
    refine Ev.step (fun k => ?_) (Ev.now _)
    rw [modillionlaw09_SeqPaths.l1, if_neg (by omega), if_pos hs0, if_pos hs1, hs]
    rfl
  | d + 1, v, hd, hv => by
    have hlt : v < x.length := by omega
    have next : Ev (fun k => modillionlaw09_SeqPaths.l2 k s x (v : Int) true (l.length : Int) n l) true := by
      refine Ev.step (fun k => ?_) (paths_l1 hs0 hs1 hs hf d (v + 1) (by omega) (by omega))
      rw [modillionlaw09_SeqPaths.l2, if_neg (by omega), if_pos (by rfl), wrapt (by omega) (by omega)]
      rfl
    have from3 : ∀ is : Bool, (is || l.any (aheadP x v)) = true → Ev (fun k => modillionlaw09_SeqPaths.j3 k s x (v : Int) is n l) true := fun is h => by
      refine Ev.step (f := fun k => modillionlaw09_SeqPaths.l2 k s x (v : Int) is ((0 : Nat) : Int) n l) (fun k => by rw [modillionlaw09_SeqPaths.j3]; rfl) ?_
      refine paths_l2 s x n l hx hl hr hw hsm v hlt true l.length 0 _ rfl (Nat.zero_le _) ?_
      rw [List.drop_zero, h]
      exact next
    by_cases hn : rd x (v : Int) < 0
    · refine Ev.step (f := fun k => modillionlaw09_SeqPaths.j3 k s x (v : Int) true n l) (fun k => by rw [modillionlaw09_SeqPaths.l1, if_pos (by omega), if_pos (by omega), if_pos hn]) ?_
      exact from3 true (Bool.true_or _)
    · refine Ev.step (f := fun k => modillionlaw09_SeqPaths.j3 k s x (v : Int) ((v : Int) == s) n l) (fun k => by rw [modillionlaw09_SeqPaths.l1, if_pos (by omega), if_pos (by omega), if_neg hn]) ?_
      rcases hf v hlt with h | h
      · exact absurd h hn
      · exact from3 _ h
theorem paths_l0 (he : ∀ e ∈ l, 0 ≤ rd x e.f0 → 0 ≤ rd x e.f1 ∧ rd x e.f1 ≤ rd x e.f0 + e.f2) (h1 : Ev (fun k => modillionlaw09_SeqPaths.l1 k s x 0 n l) true) : ∀ (d i : Nat), l.length - i = d → i ≤ l.length → Ev (fun k => modillionlaw09_SeqPaths.l0 k s x (i : Int) n l) true
  | 0, i, hd, hi => by
    refine Ev.step (fun k => ?_) h1
    rw [modillionlaw09_SeqPaths.l0, if_neg (by omega)]
  | d + 1, i, hd, hi => by
    have hlt : i < l.length := by omega
    obtain ⟨a0, a1, b0, b1⟩ := hr _ (List.getElem_mem hlt)
    have hq := he _ (List.getElem_mem hlt)
    have := hw _ (List.getElem_mem hlt)
    have := hsm l[i].f0
    refine Ev.step (fun k => ?_) (paths_l0 he h1 d (i + 1) (by omega) (by omega))
    rw [modillionlaw09_SeqPaths.l0, if_pos (by omega), if_pos (by omega), rdE7 l i hlt, if_pos a0, if_pos a1, if_pos b0, if_pos b1, wrapt (n := (i : Int) + 1) (by omega) (by omega), wrapt (n := rd x l[i].f0 + l[i].f2) (by omega) (by omega)]
    by_cases h0 : 0 ≤ rd x l[i].f0
    · have := hq h0
      rw [if_pos h0, if_neg (by omega), if_neg (by omega)]
      rfl
    · rw [if_neg h0]
      rfl
end
theorem SeqPaths : ∀ (a0_0 : Int) (l0_1 : List P.S45) (a1 : Int), (Lit.int .i64 a0_0).wf = true → (∀ x ∈ l0_1, Open.wfE x) → (Lit.int .i64 a1).wf = true → ∃ k, P.modillionlaw09_SeqPaths.f k a0_0 l0_1 a1 = some true := by
  intro n l src _ _ _
  refine Ev.rounds ?_
  unfold modillionlaw09_SeqPaths.f
  refine Ev.bind awake09 (Ev.congr (fun k => if_pos rfl) ?_)
  have triv : Ev (fun k => modillionlaw09_SeqPaths.j0 k src true n l) true := Ev.step (f := fun k => (modillionlaw09_awake.f k).bind fun t => some t) (fun k => by rw [modillionlaw09_SeqPaths.j0, if_pos rfl]) (Ev.bind awake09 (Ev.now _))
  by_cases hl : (l.length : Int) > 60
  · exact Ev.congr (fun k => if_pos hl) triv
  refine Ev.congr (fun k => if_neg hl) ?_
  by_cases hn : n > 12
  · rw [decide_eq_true hn]
    exact triv
  rw [decide_eq_false hn]
  have hr := run_f n l ⟨#[115, 115, 115, 112]⟩ src 20 (by omega)
  rw [show (⟨#[115, 115, 115, 112]⟩ : ByteArray).toList = tSssp by simp only [ByteArray.toList_eq]] at hr
  refine Ev.step (f := fun k => (seq_Run.f k n l ⟨#[115, 115, 115, 112]⟩ src 20).bind fun bt379 => (if bt379.2.2 = 0 then (modillionlaw09_SeqPaths.l0 k src bt379.1 0 n l) else (some ((bt379.1.length : Int) == 0)))) (fun k => by rw [modillionlaw09_SeqPaths.j0, if_neg Bool.false_ne_true, own09 n l (by omega), Option.bind_some]) ?_
  refine Ev.bind hr ?_
  by_cases he : (runR n l tSssp src 20).2.2 = 0
  · refine Ev.congr (fun k => if_pos he) ?_
    have hjb := runR_job he
    obtain ⟨hb, _, _, hs0, hs1, _, _⟩ := job_of hjb
    obtain ⟨f1, f2, f3, f4, f5⟩ := path_facts (Or.inr rfl) hjb (by omega) (x := (runR n l tSssp src 20).1) (m := (runR n l tSssp src 20).2.1) (Prod.ext rfl (Prod.ext rfl he))
    generalize (runR n l tSssp src 20).1 = x at f1 f2 f3 f4 f5 ⊢
    have hrg : ∀ e ∈ l, 0 ≤ e.f0 ∧ e.f0 < (x.length : Int) ∧ 0 ≤ e.f1 ∧ e.f1 < (x.length : Int) := fun e h => by
      have := edge_in hb h
      omega
    have e1 : ∀ e : VEdge, weightV tSssp e = e.f2 := fun e => rfl
    have hw : ∀ e ∈ l, 0 ≤ e.f2 ∧ e.f2 ≤ 1048576 := weight_path (t := tSssp) (Or.inr rfl) hb
    refine paths_l0 src x n l (by omega) (by omega) hrg hw f2 (fun e h h0 => ?_) ?_ l.length 0 rfl (Nat.zero_le _)
    · have := f3 e h h0
      rw [e1] at this
      exact this
    · refine paths_l1 src x n l (by omega) (by omega) hrg hw f2 hs0 (by omega) f5 (fun v hv => ?_) _ 0 rfl (Nat.zero_le _)
      by_cases h0 : rd x (v : Int) < 0
      · exact Or.inl h0
      · refine Or.inr ?_
        by_cases hne : (v : Int) = src
        · rw [beq_iff_eq.mpr hne, Bool.true_or]
        · obtain ⟨e, he, g1, g2, g3⟩ := f4 (v : Int) (by omega) (by omega) (by omega) hne
          rw [e1] at g3
          rw [Bool.or_eq_true]
          refine Or.inr (List.any_eq_true.mpr ⟨e, he, ?_⟩)
          unfold aheadP
          rw [beq_iff_eq.mpr g1, Bool.true_and, decide_eq_true g2, Bool.true_and, beq_iff_eq]
          exact g3
  · refine Ev.congr (fun k => if_neg he) ?_
    rw [runR_err he]
    exact Ev.now _
end Go.Proofs.Ytpndhkeoljoapaa.Pure
