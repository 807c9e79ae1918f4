/- How any vertex is at first, and whether a program is known, is as the document says. -/
import Derived.Test.YtdmihkffjbapjaaKnownProg
namespace Go.Proofs.Ytdmihkffjbapjaa.Pure
open Go Go.RowKit Go.Proofs.Ytdmihkffjbapjaa.P Go.Proofs.YtdmihkffjbapjaaW.PrintWords Go.Proofs.YtdmihkffjbapjaaW.PrintLast Go.Proofs.YtdmihkffjbapjaaW.PrintMore
set_option linter.unusedVariables false
set_option linter.unusedSimpArgs false
theorem reffirst_f (t : ByteArray) (s st v : Int) : modillionref07_First.f t s st v = prog_First.f t s st v := by
  unfold modillionref07_First.f prog_First.f
  rw [show (20 : Nat) = 12 + 8 from rfl, known_f, refknown_f]
theorem ProgFirsts : ∀ (a0_0 : ByteArray) (a0_1 a0_2 : Int) (a1 : Int) (a2 : ByteArray), (Lit.int .i64 a0_1).wf = true → (Lit.int .i64 a0_2).wf = true → (Lit.int .i64 a1).wf = true → ∃ k, P.modillionlaw07_ProgFirsts.f k a0_0 a0_1 a0_2 a1 a2 = some true := by
  intro t s st v u _ _ _
  refine ⟨101, ?_⟩
  unfold modillionlaw07_ProgFirsts.f
  have triv : modillionlaw07_ProgFirsts.j0 101 v u true t s st = some true := by
    rw [modillionlaw07_ProgFirsts.j0, if_pos rfl, awake07 100 (by omega)]
    rfl
  by_cases h0 : v < 0
  · rw [if_pos h0]; exact triv
  · rw [if_neg h0]
    by_cases h1 : v > 1048576
    · rw [decide_eq_true h1]; exact triv
    · rw [decide_eq_false h1, modillionlaw07_ProgFirsts.j0, if_neg (by decide), awake07 100 (by omega), Option.bind_some, if_pos rfl, reffirst_f]
      obtain ⟨r, hr⟩ : ∃ r, prog_First.f t s st v = some r := by
        unfold prog_First.f
        rw [if_pos (show 0 ≤ v ∧ v ≤ 1048576 from ⟨by omega, by omega⟩), show (20 : Nat) = 12 + 8 from rfl, known_f, Option.bind_some]
        cases knownB t.toList <;> exact ⟨_, rfl⟩
      rw [hr, Option.bind_some, Option.bind_some, show (100 : Nat) = 92 + 8 from rfl, known_f, refknown_f]
      simp
end Go.Proofs.Ytdmihkffjbapjaa.Pure
