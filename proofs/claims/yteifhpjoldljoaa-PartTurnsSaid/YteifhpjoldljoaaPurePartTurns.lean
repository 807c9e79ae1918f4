/- Each mixed number comes of one number alone: of every two uint32. -/
import Derived.Test.YteifhpjoldljoaaPart
import Derived.Test.YteifhpjoldljoaaPx4
namespace Go.Proofs.Yteifhpjoldljoaa.Pure
open Go Go.RowKit Go.Proofs.Yteifhpjoldljoaa.P Go.Proofs.YteifhpjoldljoaaW.PrintWords Go.Proofs.Yteifhpjoldljoaa.PL
set_option linter.unusedVariables false
set_option linter.unusedSimpArgs false
theorem PartTurns : modillionlaw06_PartTurns.Pure := by
  intro a b ha hb
  have ha' := u32_wf ha
  have hb' := u32_wf hb
  obtain ⟨x, rfl⟩ := nat_of ha'.1
  obtain ⟨y, rfl⟩ := nat_of hb'.1
  refine ⟨100, ?_⟩
  unfold modillionlaw06_PartTurns.f
  rw [awake06 100 (by omega)]; simp only [Option.bind_some, if_true]
  rw [mix_f x (by omega), mix_f y (by omega)]; simp only [Option.bind_some]
  by_cases e : x = y
  · subst e; simp
  · have h : mixN x ≠ mixN y := fun h => e (mixN_inj x y (by omega) (by omega) h)
    have e1 : ((mixN x : Int) == (mixN y : Int)) = false := beq_eq_false_iff_ne.mpr (by omega)
    have e2 : ((x : Int) == (y : Int)) = false := beq_eq_false_iff_ne.mpr (by omega)
    rw [e1, e2]; rfl
end Go.Proofs.Yteifhpjoldljoaa.Pure
