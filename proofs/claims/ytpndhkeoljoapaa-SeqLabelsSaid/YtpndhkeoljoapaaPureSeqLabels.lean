/- The plain law: label is the least who reaches one: each edge goes to no greater one, and each label is its own vertex's. -/
import Derived.Test.YtpndhkeoljoapaaAwakeSeq
import Derived.Test.YtpndhkeoljoapaaSeqFlow
import Derived.Test.YtpndhkeoljoapaaOpEdge
namespace Go.Proofs.Ytpndhkeoljoapaa.Pure
open Go Go.RowKit Go.Proofs.Ytpndhkeoljoapaa Go.Proofs.Ytpndhkeoljoapaa.P Go.Proofs.YtpndhkeoljoapaaW.PrintWords Go.Proofs.YtpndhkeoljoapaaW.PrintLast Go.Proofs.YtpndhkeoljoapaaW.PrintMore
set_option linter.unusedVariables false
set_option linter.unusedSimpArgs false
/-- b is reached from a along edges. -/
def ReachE (l : List VEdge) (a b : Int) : Prop := ∀ p : Int → Prop, p a → (∀ e ∈ l, p e.f0 → p e.f1) → p b
theorem label_flow {n : Int} {l : List VEdge} (src : Int) (hb : badG n l = false) : Flow tLabel l src (fun x => x) (fun _ => True) (fun _ => true) (fun id x => 0 ≤ id → 0 ≤ x ∧ ReachE l x id) := by
  refine ⟨rfl, fun steps at_ id val inn m ha _ _ _ => ?_, fun steps id m => ⟨_, rfl, fun _ => rfl⟩, fun _ _ => trivial, (fun _ _ h => by cases h), fun a b _ _ => ?_, fun e he a _ => ?_, ⟨0, trivial⟩, fun id h0 => ⟨h0, fun p h1 _ => h1⟩, fun e he a h h0 => ?_⟩
  · show betterV (decide (at_ = 0)) (decide (at_ > 0) && true) (decide (inn < val)) val inn = _
    unfold betterV
    rw [decide_eq_false (show ¬ at_ = 0 by omega), if_neg Bool.false_ne_true, decide_eq_true ha, Bool.true_and, Bool.true_and]
    by_cases h : inn < val
    · rw [decide_eq_true h, if_pos rfl, if_pos h]
    · rw [decide_eq_false h, if_neg Bool.false_ne_true, if_neg h]
  · have e : foldV tLabel a b = mn a b := rfl
    rw [e]
    unfold mn
    refine ⟨trivial, ?_⟩
    split
    · exact ⟨by omega, by omega, Or.inr rfl⟩
    · exact ⟨by omega, by omega, Or.inl rfl⟩
  · have e0 : weightV tLabel e = 0 := rfl
    rw [e0]
    exact ⟨trivial, by omega, by omega⟩
  · have e0 : weightV tLabel e = 0 := rfl
    obtain ⟨a0, _, _, _⟩ := edge_in hb he
    obtain ⟨h1, h2⟩ := h a0
    rw [e0, Int.add_zero]
    exact ⟨h1, fun p p1 p2 => p2 e he (h2 p p1 p2)⟩
theorem labels_l2 (x : List Int) (n : Int) (l : List VEdge) (hl : l.length ≤ 1000) (hr : ∀ e ∈ l, 0 ≤ e.f0 ∧ e.f0 < (x.length : Int) ∧ 0 ≤ e.f1 ∧ e.f1 < (x.length : Int)) (v : Nat) (hv : v < x.length) (r : Bool) : ∀ (d j : Nat) (is : Bool), l.length - j = d → j ≤ l.length → Ev (fun k => modillionlaw09_SeqLabels.l2 k x (v : Int) (is || (l.drop j).any (fun e => e.f1 == (v : Int) && rd x e.f0 == rd x (v : Int))) (l.length : Int) n l) r → Ev (fun k => modillionlaw09_SeqLabels.l2 k x (v : Int) is (j : Int) n l) r
  | 0, j, is, hd, hj, h => by
    rw [List.drop_of_length_le (by omega), List.any_nil, Bool.or_false] at h
    obtain rfl : j = l.length := by omega
    exact h
  | d + 1, j, is, hd, hj, h => by
    have hlt : j < l.length := by omega
    rw [List.drop_eq_getElem_cons hlt, List.any_cons] at h
    obtain ⟨a0, a1, b0, b1⟩ := hr _ (List.getElem_mem hlt)
    cases is with
    | true =>
      refine Ev.step (fun k => ?_) (labels_l2 x n l hl hr v hv r d (j + 1) true (by omega) (by omega) (by simpa using h))
      rw [modillionlaw09_SeqLabels.l2, if_pos (by omega), if_pos rfl, wrapt (by omega) (by omega)]
      rfl
    | false =>
      refine Ev.step (fun k => ?_) (labels_l2 x n l hl hr v hv r d (j + 1) (l[j].f1 == (v : Int) && rd x l[j].f0 == rd x (v : Int)) (by omega) (by omega) (by simpa using h))
      rw [modillionlaw09_SeqLabels.l2, if_pos (by omega), if_neg Bool.false_ne_true, if_pos (by omega), rdE7 l j hlt, wrapt (by omega) (by omega)]
      by_cases he : l[j].f1 = (v : Int)
      · rw [if_pos he, if_pos a0, if_pos a1, if_pos (by omega), if_pos (by omega), beq_iff_eq.mpr he, Bool.true_and]
        rfl
      · rw [if_neg he, beq_eq_false_iff_ne.mpr he, Bool.false_and]
        rfl
theorem labels_l1 (x : List Int) (n : Int) (l : List VEdge) (hx : x.length ≤ 1000) (hl : l.length ≤ 1000) (hr : ∀ e ∈ l, 0 ≤ e.f0 ∧ e.f0 < (x.length : Int) ∧ 0 ≤ e.f1 ∧ e.f1 < (x.length : Int)) (hf : ∀ v : Nat, v < x.length → (rd x (v : Int) == (v : Int) || l.any (fun e => e.f1 == (v : Int) && rd x e.f0 == rd x (v : Int))) = true ∧ 0 ≤ rd x (v : Int) ∧ rd x (v : Int) ≤ (v : Int) ∧ rd x (rd x (v : Int)) = rd x (v : Int)) : ∀ (d v : Nat), x.length - v = d → v ≤ x.length → Ev (fun k => modillionlaw09_SeqLabels.l1 k x (v : Int) n l) true
  | 0, v, hd, hv => by
    refine Ev.step (fun k => ?_) (Ev.now _)
    rw [modillionlaw09_SeqLabels.l1, if_neg (by omega)]
  | d + 1, v, hd, hv => by
    have hlt : v < x.length := by omega
    obtain ⟨h1, h2, h3, h4⟩ := hf v hlt
    refine Ev.step (f := fun k => modillionlaw09_SeqLabels.l2 k x (v : Int) (rd x (v : Int) == (v : Int)) ((0 : Nat) : Int) n l) (fun k => by rw [modillionlaw09_SeqLabels.l1, if_pos (by omega), if_pos (by omega)]; rfl) ?_
    refine labels_l2 x n l hl hr v hlt true l.length 0 _ rfl (Nat.zero_le _) ?_
    rw [List.drop_zero, h1]
    refine Ev.step (fun k => ?_) (labels_l1 x n l hx hl hr hf d (v + 1) (by omega) (by omega))
    rw [modillionlaw09_SeqLabels.l2, if_neg (by omega), if_pos (by rfl), if_pos (by omega), if_pos (by omega), if_neg (by omega), if_neg (by omega), if_pos h2, if_pos (by omega), if_pos h4, wrapt (by omega) (by omega)]
    rfl
theorem labels_l0 (x : List Int) (n : Int) (l : List VEdge) (hl : l.length ≤ 1000) (hr : ∀ e ∈ l, 0 ≤ e.f0 ∧ e.f0 < (x.length : Int) ∧ 0 ≤ e.f1 ∧ e.f1 < (x.length : Int)) (he : ∀ e ∈ l, ¬ rd x e.f1 > rd x e.f0) (h1 : Ev (fun k => modillionlaw09_SeqLabels.l1 k x 0 n l) true) : ∀ (d i : Nat), l.length - i = d → i ≤ l.length → Ev (fun k => modillionlaw09_SeqLabels.l0 k x (i : Int) n l) true
  | 0, i, hd, hi => by
    refine Ev.step (fun k => ?_) h1
    rw [modillionlaw09_SeqLabels.l0, if_neg (by omega)]
  | d + 1, i, hd, hi => by
    have hlt : i < l.length := by omega
    obtain ⟨a0, a1, b0, b1⟩ := hr _ (List.getElem_mem hlt)
    refine Ev.step (fun k => ?_) (labels_l0 x n l hl hr he h1 d (i + 1) (by omega) (by omega))
    rw [modillionlaw09_SeqLabels.l0, if_pos (by omega), if_pos (by omega), rdE7 l i hlt, if_pos b0, if_pos b1, if_pos a0, if_pos a1, if_neg (he _ (List.getElem_mem hlt)), wrapt (by omega) (by omega)]
    rfl
theorem SeqLabels : ∀ (a0_0 : Int) (l0_1 : List P.S45), (Lit.int .i64 a0_0).wf = true → (∀ x ∈ l0_1, Open.wfE x) → ∃ k, P.modillionlaw09_SeqLabels.f k a0_0 l0_1 = some true := by
  intro n l _ _
  refine Ev.rounds ?_
  unfold modillionlaw09_SeqLabels.f
  refine Ev.bind awake09 (Ev.congr (fun k => if_pos rfl) ?_)
  have triv : Ev (fun k => modillionlaw09_SeqLabels.j0 k true n l) true := Ev.step (f := fun k => (modillionlaw09_awake.f k).bind fun t => some t) (fun k => by rw [modillionlaw09_SeqLabels.j0, if_pos rfl]) (Ev.bind awake09 (Ev.now _))
  by_cases hl : (l.length : Int) > 60
  · exact Ev.congr (fun k => if_pos hl) triv
  refine Ev.congr (fun k => if_neg hl) ?_
  by_cases hn : n > 12
  · rw [decide_eq_true hn]
    exact triv
  rw [decide_eq_false hn]
  have hr := run_f n l ⟨#[108, 97, 98, 101, 108]⟩ 0 20 (by omega)
  rw [show (⟨#[108, 97, 98, 101, 108]⟩ : ByteArray).toList = tLabel by simp only [ByteArray.toList_eq]] at hr
  refine Ev.step (f := fun k => (seq_Run.f k n l ⟨#[108, 97, 98, 101, 108]⟩ 0 20).bind fun bt324 => (if bt324.2.2 = 0 then (modillionlaw09_SeqLabels.l0 k bt324.1 0 n l) else (some ((bt324.1.length : Int) == 0)))) (fun k => by rw [modillionlaw09_SeqLabels.j0, if_neg Bool.false_ne_true, own09 n l (by omega), Option.bind_some]) ?_
  refine Ev.bind hr ?_
  by_cases he : (runR n l tLabel 0 20).2.2 = 0
  · refine Ev.congr (fun k => if_pos he) ?_
    have hjb := runR_job he
    have hb := (job_of hjb).1
    obtain ⟨hn1, hn2⟩ := job_n hjb
    obtain ⟨ws, k', hx, I, hq⟩ := flow_run (label_flow 0 hb) hjb (x := (runR n l tLabel 0 20).1) (m := (runR n l tLabel 0 20).2.1) (Prod.ext rfl (Prod.ext rfl he))
    have fe := flow_end I hb (by omega) hq
    have fe2 : ∀ e ∈ l, (vx ws e.f1).f1 ≤ (vx ws e.f0).f1 := fun e h => by
      have := fe e h
      have e0 : weightV tLabel e = 0 := rfl
      rw [e0, Int.add_zero] at this
      exact this
    have hln := I.len
    rw [hx]
    have hxl : (ws.map (·.f1)).length = ws.length := List.length_map ..
    have hrg : ∀ e ∈ l, 0 ≤ e.f0 ∧ e.f0 < ((ws.map (·.f1)).length : Int) ∧ 0 ≤ e.f1 ∧ e.f1 < ((ws.map (·.f1)).length : Int) := fun e h => by
      have := edge_in hb h
      omega
    have fact : ∀ i : Int, 0 ≤ i → i < n → 0 ≤ (vx ws i).f1 ∧ (vx ws i).f1 ≤ i ∧ ReachE l (vx ws i).f1 i ∧ ((vx ws i).f1 = i ∨ ∃ e ∈ l, e.f1 = i ∧ (vx ws e.f0).f1 ≤ (vx ws i).f1) := fun i h0 h1 => by
      obtain ⟨j, hj, rfl, hv⟩ := vx_of (vs := ws) h0 (by omega)
      have hm := List.getElem_mem hj
      have hid := I.ids j hj
      rw [hv]
      obtain ⟨g1, g2⟩ := (I.good _ hm).1 (by omega)
      have g3 := I.mono _ hm
      have g4 := I.sup _ hm
      rw [hid] at g2 g3 g4
      refine ⟨g1, g3, g2, ?_⟩
      rcases g4 with g4 | ⟨e, he, h5, h6⟩
      · exact Or.inl g4
      · refine Or.inr ⟨e, he, h5, ?_⟩
        have e0 : weightV tLabel e = 0 := rfl
        rw [e0, Int.add_zero] at h6
        exact h6
    refine labels_l0 _ n l (by omega) hrg (fun e h => ?_) ?_ l.length 0 rfl (Nat.zero_le _)
    · rw [rd_vx, rd_vx]
      have := fe2 e h
      omega
    · refine labels_l1 _ n l (by omega) (by omega) hrg (fun v hv => ?_) _ 0 rfl (Nat.zero_le _)
      rw [rd_vx, rd_vx]
      obtain ⟨f1, f2, f3, f4⟩ := fact (v : Int) (by omega) (by omega)
      refine ⟨?_, f1, f2, ?_⟩
      · rcases f4 with f4 | ⟨e, he, h5, h6⟩
        · rw [beq_iff_eq.mpr f4, Bool.true_or]
        · rw [Bool.or_eq_true]
          refine Or.inr (List.any_eq_true.mpr ⟨e, he, ?_⟩)
          rw [rd_vx, beq_iff_eq.mpr h5, Bool.true_and, beq_iff_eq]
          have := fe2 e he
          rw [h5] at this
          omega
      · obtain ⟨g1, g2, _, _⟩ := fact (vx ws (v : Int)).f1 f1 (by omega)
        have := f3 (fun b => (vx ws b).f1 ≤ (vx ws (vx ws (v : Int)).f1).f1) (Int.le_refl _) (fun e he h => Int.le_trans (fe2 e he) h)
        show (vx ws (vx ws (v : Int)).f1).f1 = _
        omega
  · refine Ev.congr (fun k => if_neg he) ?_
    rw [runR_err he]
    exact Ev.now _
end Go.Proofs.Ytpndhkeoljoapaa.Pure
