/- The plain law: what any vertex does in any step of any job, and what it sends, is the document's, or an error. -/
import Derived.Test.YtdmihkffjbapjaaRefStep
import Derived.Test.YtdmihkffjbapjaaOpEdge
namespace Go.Proofs.Ytdmihkffjbapjaa.Pure
open Go Go.RowKit Go.Proofs.Ytdmihkffjbapjaa Go.Proofs.Ytdmihkffjbapjaa.P Go.Proofs.YtdmihkffjbapjaaW.PrintWords Go.Proofs.YtdmihkffjbapjaaW.PrintLast Go.Proofs.YtdmihkffjbapjaaW.PrintMore
set_option linter.unusedVariables false
set_option linter.unusedSimpArgs false
theorem step_sends (n : Int) (l : List VEdge) (t : List UInt8) (src steps at_ id val : Int) (act has : Bool) (inn : Int) : (stepR n l t src steps at_ id val act has inn).2.2.2.2.2.1.length ≤ l.length := by
  have ol := out_len l id
  obtain ⟨e, he, hr⟩ | ⟨_, _, hr⟩ | ⟨_, _, _, _, _, s, hs, hr⟩ := step_ways n l t src steps at_ id val act has inn
  · rw [hr]
    exact Nat.zero_le _
  · rw [hr]
    exact Nat.zero_le _
  · rw [hr]
    show (if s.2.2.1 = true then (outV l id).map (sendV t id s.2.2.2) else []).length ≤ l.length
    split
    · rw [List.length_map]
      exact ol
    · exact Nat.zero_le _
theorem ProgSteps : ∀ (a0_0 : Int) (l0_1 : List P.S46) (a1_0 : ByteArray) (a1_1 a1_2 : Int) (a2 : Int) (a3_0 a3_1 : Int) (a3_2 a3_3 : Bool) (a3_4 : Int), (Lit.int .i64 a0_0).wf = true → (∀ x ∈ l0_1, Open.wfE x) → (Lit.int .i64 a1_1).wf = true → (Lit.int .i64 a1_2).wf = true → (Lit.int .i64 a2).wf = true → (Lit.int .i64 a3_0).wf = true → (Lit.int .i64 a3_1).wf = true → (Lit.int .i64 a3_4).wf = true → ∃ k, P.modillionlaw07_ProgSteps.f k a0_0 l0_1 a1_0 a1_1 a1_2 a2 a3_0 a3_1 a3_2 a3_3 a3_4 = some true := by
  intro n l tag src steps at_ id val act has inn _ _ _ _ _ _ _ _
  refine Ev.rounds ?_
  have aw : Ev (fun k => modillionlaw07_awake.f k) true := ⟨20, fun k hk => awake07 k hk⟩
  unfold modillionlaw07_ProgSteps.f
  refine Ev.bind aw (Ev.congr (fun k => if_pos rfl) ?_)
  by_cases hl : (l.length : Int) > 100
  · refine Ev.step (fun k => ?_) (Ev.bind aw (Ev.now _))
    rw [modillionlaw07_ProgSteps.j0, if_pos (decide_eq_true hl)]
  · have ck : Ev (fun k => prog_Check.f k n l tag src steps) (if jobB n l tag.toList src steps = true then 0 else 70) := ⟨8, fun k hk => by
      obtain ⟨m, rfl⟩ : ∃ m, k = m + 8 := ⟨k - 8, by omega⟩
      exact check_f n l tag src steps (by omega) m⟩
    refine Ev.step (f := fun k => (modillionref07_Right.f k n l tag src steps).bind fun t187 => (if t187 = true then (modillionlaw07_ProgSteps.j1 k at_ 0 n l tag src steps id val act has inn) else (modillionlaw07_ProgSteps.j1 k at_ 70 n l tag src steps id val act has inn))) (fun k => by rw [modillionlaw07_ProgSteps.j0, if_neg (by simpa using hl)]) ?_
    refine Ev.bind (refright_f n l tag src steps (by omega)) ?_
    refine Ev.congr (f := fun k => modillionlaw07_ProgSteps.j1 k at_ (if jobB n l tag.toList src steps = true then 0 else 70) n l tag src steps id val act has inn) (fun k => by cases jobB n l tag.toList src steps <;> rfl) ?_
    have rs := refstep_f n l tag src steps at_ id val act has inn (by omega)
    have hm := step_sends n l tag.toList src steps at_ id val act has inn
    have sm := same_f (stepR n l tag.toList src steps at_ id val act has inn).2.2.2.2.2.1 (by omega)
    refine Ev.step (f := fun k => (modillionref07_Step.f k n l tag src steps at_ id val act has inn).bind fun bt202 => ((prog_Check.f k n l tag src steps).bind fun t216 => (if t216 = (if jobB n l tag.toList src steps = true then 0 else 70) then (if ((stepR n l tag.toList src steps at_ id val act has inn).1 == bt202.1 && ((stepR n l tag.toList src steps at_ id val act has inn).2.1 == bt202.2.1 && ((stepR n l tag.toList src steps at_ id val act has inn).2.2.1 == bt202.2.2.1 && ((stepR n l tag.toList src steps at_ id val act has inn).2.2.2.1 == bt202.2.2.2.1 && ((stepR n l tag.toList src steps at_ id val act has inn).2.2.2.2.1 == bt202.2.2.2.2.1))))) = true then ((modillionref07_Same.f k (stepR n l tag.toList src steps at_ id val act has inn).2.2.2.2.2.1 bt202.2.2.2.2.2.1).bind fun t217 => (if t217 = true then (some ((stepR n l tag.toList src steps at_ id val act has inn).2.2.2.2.2.2 == bt202.2.2.2.2.2.2)) else (some false))) else (some false)) else (some false)))) (fun k => ?_) ?_
    · rw [modillionlaw07_ProgSteps.j1, own07 n l (by omega), Option.bind_some]
      show (prog_Step.f n l tag src steps at_ id val act has inn).bind _ = _
      rw [step_f n l tag src steps at_ id val act has inn (by omega), Option.bind_some]
      rfl
    refine Ev.bind rs (Ev.bind ck ?_)
    refine Ev.congr (fun k => if_pos rfl) ?_
    refine Ev.congr (fun k => if_pos (by simp only [beq_self_eq_true, Bool.and_self])) ?_
    refine Ev.bind sm ?_
    refine Ev.congr (fun k => ?_) (Ev.now _)
    rw [if_pos rfl, beq_self_eq_true]
end Go.Proofs.Ytdmihkffjbapjaa.Pure
