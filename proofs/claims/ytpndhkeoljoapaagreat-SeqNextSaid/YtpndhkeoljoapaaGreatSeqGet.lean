/- Plain lemmas: what Next leaves of each vertex. -/
import Derived.Test.YtpndhkeoljoapaaGreatSeqRun
namespace Go.Proofs.YtpndhkeoljoapaaGreat.Pure
open Go Go.RowKit Go.Proofs.YtpndhkeoljoapaaGreat.P Go.Proofs.YtpndhkeoljoapaaGreatW.PrintWords Go.Proofs.YtpndhkeoljoapaaGreatW.PrintLast Go.Proofs.YtpndhkeoljoapaaGreatW.PrintMore
set_option linter.unusedVariables false
set_option linter.unusedSimpArgs false
theorem stepsR_ok (F : VVert → StepR) : ∀ (vs o : List VVert) (s : List VMsg), (stepsR F vs o s).2.2 = 0 → (stepsR F vs o s).1 = o ++ vs.map (fun y => vxOf (F y)) ∧ (stepsR F vs o s).2.1 = s ++ vs.flatMap (fun y => (F y).2.2.2.2.2.1) ∧ ∀ y ∈ vs, (F y).2.2.2.2.2.2 = 0
  | [], o, s, h => by
    refine ⟨?_, ?_, fun y hy => by cases hy⟩
    · rw [List.map_nil, List.append_nil]; rfl
    · rw [List.flatMap_nil, List.append_nil]; rfl
  | y :: r, o, s, h => by
    rw [stepsR] at h ⊢
    by_cases he : (F y).2.2.2.2.2.2 = 0
    · rw [if_pos he] at h ⊢
      obtain ⟨h1, h2, h3⟩ := stepsR_ok F r _ _ h
      refine ⟨?_, ?_, fun z hz => ?_⟩
      · rw [h1, List.map_cons, List.append_assoc]; rfl
      · rw [h2, List.flatMap_cons, List.append_assoc]
      · rcases List.mem_cons.mp hz with rfl | hz
        · exact he
        · exact h3 z hz
    · rw [if_neg he] at h
      exact absurd h he
end Go.Proofs.YtpndhkeoljoapaaGreat.Pure
