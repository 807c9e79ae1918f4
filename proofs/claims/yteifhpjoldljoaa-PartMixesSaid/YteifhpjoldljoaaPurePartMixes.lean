/- How any number is mixed, and whose any vertex is, is as the document says: of every uint32 and every two ints. -/
import Derived.Test.YteifhpjoldljoaaPart
import Derived.Test.YteifhpjoldljoaaPx2
namespace Go.Proofs.Yteifhpjoldljoaa.Pure
open Go Go.RowKit Go.Proofs.Yteifhpjoldljoaa.P Go.Proofs.YteifhpjoldljoaaW.PrintWords Go.Proofs.Yteifhpjoldljoaa.PL
set_option linter.unusedVariables false
set_option linter.unusedSimpArgs false
theorem eq_end (p1 p2 p3 p4 : Option Int) (q o : Int) (e1 : p1 = some q) (e2 : p2 = some q) (e3 : p3 = some o) (e4 : p4 = some o) :
    (p1.bind fun t129 => (p2.bind fun t130 => (if t129 = t130 then (p3.bind fun t131 => (p4.bind fun t132 => (some (t131 == t132)))) else (some false)))) = some true := by
  subst e1 e2 e3 e4
  simp only [Option.bind_some, if_true, beq_self_eq_true]
theorem PartMixes : modillionlaw06_PartMixes.Pure := by
  intro a n w ha hn hw
  have ha' := u32_wf ha
  have hn' := i64_wf hn
  obtain ⟨v, rfl⟩ := nat_of ha'.1
  refine ⟨100, ?_⟩
  unfold modillionlaw06_PartMixes.f
  rw [awake06 100 (by omega), Option.bind_some, if_pos rfl]
  exact eq_end _ _ _ _ _ _ (mix_f v (by omega)) (refmix_f v (by omega)) (owner_f n w) (refowner_f n w hn'.2)
end Go.Proofs.Yteifhpjoldljoaa.Pure
