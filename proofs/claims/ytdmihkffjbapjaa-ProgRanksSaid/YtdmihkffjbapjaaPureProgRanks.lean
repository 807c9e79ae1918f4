/- The plain law: of rank nobody goes on behind the last step; ahead of it everybody does. -/
import Derived.Test.YtdmihkffjbapjaaStep
import Derived.Test.YtdmihkffjbapjaaOpEdge
namespace Go.Proofs.Ytdmihkffjbapjaa.Pure
open Go Go.RowKit Go.Proofs.Ytdmihkffjbapjaa Go.Proofs.Ytdmihkffjbapjaa.P Go.Proofs.YtdmihkffjbapjaaW.PrintWords Go.Proofs.YtdmihkffjbapjaaW.PrintLast Go.Proofs.YtdmihkffjbapjaaW.PrintMore
set_option linter.unusedVariables false
set_option linter.unusedSimpArgs false
theorem rank_step (src steps at_ id val inn m : Int) (has : Bool) : ∃ n q w, stepV [114, 97, 110, 107] src steps at_ id val has inn m = (n, !decide (at_ = steps - 1), q, w) ∧ (at_ = steps - 1 → q = false) ∧ (at_ = 0 → n = val) := by
  show ∃ n q w, (if at_ = steps - 1 then ((rankV at_ inn val, false, false, 0) : Int × Bool × Bool × Int) else (rankV at_ inn val, true, decide (m > 0), downV (rankV at_ inn val) (if m > 1 then m else 1))) = (n, !decide (at_ = steps - 1), q, w) ∧ (at_ = steps - 1 → q = false) ∧ (at_ = 0 → n = val)
  have hv : at_ = 0 → rankV at_ inn val = val := fun h => by
    unfold rankV
    rw [if_neg (by omega)]
  by_cases h : at_ = steps - 1
  · rw [if_pos h, decide_eq_true h]
    exact ⟨_, _, _, rfl, fun _ => rfl, hv⟩
  · rw [if_neg h, decide_eq_false h]
    exact ⟨_, _, _, rfl, fun e => absurd e h, hv⟩
theorem ProgRanks : ∀ (a0_0 : Int) (l0_1 : List P.S46) (a1_0 : ByteArray) (a1_1 a1_2 : Int) (a2 : Int) (a3_0 a3_1 : Int) (a3_2 a3_3 : Bool) (a3_4 : Int), (Lit.int .i64 a0_0).wf = true → (∀ x ∈ l0_1, Open.wfE x) → (Lit.int .i64 a1_1).wf = true → (Lit.int .i64 a1_2).wf = true → (Lit.int .i64 a2).wf = true → (Lit.int .i64 a3_0).wf = true → (Lit.int .i64 a3_1).wf = true → (Lit.int .i64 a3_4).wf = true → ∃ k, P.modillionlaw07_ProgRanks.f k a0_0 l0_1 a1_0 a1_1 a1_2 a2 a3_0 a3_1 a3_2 a3_3 a3_4 = some true := by
  intro n l tag src steps at_ id val act has inn _ _ _ _ _ _ _ _
  refine ⟨101, ?_⟩
  unfold modillionlaw07_ProgRanks.f
  rw [awake07 101 (by omega), Option.bind_some, if_pos rfl, modillionlaw07_ProgRanks.j0]
  by_cases hl : (l.length : Int) > 100
  · rw [if_pos (decide_eq_true hl), awake07 100 (by omega)]
    rfl
  · rw [if_neg (by simpa using hl), own07 n l (by omega), Option.bind_some]
    show (prog_Step.f n l ⟨#[114, 97, 110, 107]⟩ src steps at_ id val act has inn).bind _ = _
    rw [step_f n l ⟨#[114, 97, 110, 107]⟩ src steps at_ id val act has inn (by omega), Option.bind_some, show (⟨#[114, 97, 110, 107]⟩ : ByteArray).toList = [114, 97, 110, 107] by simp only [ByteArray.toList_eq]]
    obtain ⟨e, he, hr⟩ | ⟨rfl, rfl, hr⟩ | ⟨ha, hj, hb, hv, hi, s, hs, hr⟩ := step_ways n l [114, 97, 110, 107] src steps at_ id val act has inn
    · rw [hr, if_neg he]
      rfl
    · rw [hr, if_pos rfl]
      rfl
    · rw [hr, if_pos rfl]
      obtain ⟨_, _, _, _, _, hs1, hs2⟩ := job_of hj
      obtain ⟨v, q, w, e, hq, hw⟩ := rank_step src steps at_ id val (if has = true then inn else 0) ((outV l id).length : Int) has
      rw [← hs] at e
      subst e
      have fin : (if ((!decide (at_ = steps - 1)) == decide (at_ < wrap64 (steps - 1))) = true then (if (!decide (at_ = steps - 1)) = true then (if at_ > 0 then some true else some (v == val)) else if (((if q = true then (outV l id).map (sendV [114, 97, 110, 107] id w) else []).length : Nat) : Int) = 0 then (if at_ > 0 then some true else some (v == val)) else some false) else some false) = some true := by
        have e1 : wrap64 (steps - 1) = steps - 1 := by rw [wrapt (by omega) (by omega)]
        have e2 : (!decide (at_ = steps - 1)) = decide (at_ < steps - 1) := by
          by_cases h : at_ = steps - 1
          · rw [decide_eq_true h, decide_eq_false (by omega)]
            rfl
          · rw [decide_eq_false h, decide_eq_true (by omega)]
            rfl
        have e3 : (if at_ > 0 then some true else some (v == val)) = some true := by
          by_cases h : at_ > 0
          · rw [if_pos h]
          · rw [if_neg h, hw (by omega), beq_self_eq_true]
        rw [e1, e2, if_pos (beq_self_eq_true _), e3]
        by_cases h : at_ = steps - 1
        · rw [hq h]
          split <;> rfl
        · rw [if_pos (decide_eq_true (by omega))]
      cases act with
      | true => exact fin
      | false =>
        obtain rfl : has = true := by simpa using ha
        exact fin
end Go.Proofs.Ytdmihkffjbapjaa.Pure
