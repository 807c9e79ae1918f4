/- Of one worker all are his; nobody is a worker's that there isn't: of every three ints. -/
import Derived.Test.YteifhpjoldljoaaPart
import Derived.Test.YteifhpjoldljoaaPx4
namespace Go.Proofs.Yteifhpjoldljoaa.Pure
open Go Go.RowKit Go.Proofs.Yteifhpjoldljoaa.P Go.Proofs.YteifhpjoldljoaaW.PrintWords Go.Proofs.Yteifhpjoldljoaa.PL
set_option linter.unusedVariables false
set_option linter.unusedSimpArgs false
theorem own_one (v : Int) (h : 0 ≤ v) : own v 1 = 0 := by
  unfold own
  rw [if_neg (by omega), if_neg (by omega), if_neg (by omega)]
  have : mixN (v.toNat % 4294967296) % (1 : Int).toNat = 0 := by
    rw [show (1 : Int).toNat = 1 from rfl]; exact Nat.mod_one _
  rw [this]; rfl
theorem vertsFrom_one : ∀ (d : Nat) (i : Int), 0 ≤ i → (vertsFrom 1 0 d i).length = d
  | 0, _, _ => rfl
  | d + 1, i, h => by
    simp only [vertsFrom]
    rw [own_one i h, if_pos rfl, List.length_cons, vertsFrom_one d (i + 1) (by omega)]
theorem PartOne : modillionlaw06_PartOne.Pure := by
  intro n v w hn hv hw
  refine ⟨101, ?_⟩
  unfold modillionlaw06_PartOne.f
  rw [awake06 101 (by omega), refright_f]; simp only [Option.bind_some, if_true, decide_eq_true_eq]
  have triv : modillionlaw06_PartOne.j0 101 n v w true = some true := by
    simp only [modillionlaw06_PartOne.j0, if_true]; rw [awake06 100 (by omega)]; rfl
  by_cases h1 : Ok n 1
  · rw [if_pos h1]
    by_cases h2 : v < 0
    · rw [decide_eq_true h2]; exact triv
    · rw [decide_eq_false h2]
      simp only [modillionlaw06_PartOne.j0, Bool.false_eq_true, if_false]
      rw [of_f, if_pos ⟨h1, by omega, by omega⟩, owner_f, owner_f, own_one v (by omega)]
      simp only [Option.bind_some, if_true]
      have hok := h1
      unfold Ok at hok
      rw [if_pos (by unfold verts; rw [vertsFrom_one _ _ (by omega)]; omega)]
      by_cases a : 1 ≤ w
      · by_cases b : w ≤ 64
        · have := own_range (v := v) (w := w) (by omega) a b
          rw [if_pos (by omega), if_pos (by omega)]
        · have e : own v w = -1 := by
            unfold own; rw [if_neg (by omega), if_neg (by omega), if_pos (by omega)]
          rw [e, if_neg (by omega), if_pos rfl, if_neg (by omega), decide_eq_true (by omega)]
      · have e : own v w = -1 := by
          unfold own; rw [if_neg (by omega), if_pos (by omega)]
        rw [e, if_neg (by omega), if_pos rfl, if_pos (by omega)]
  · rw [if_neg h1]; exact triv
end Go.Proofs.Yteifhpjoldljoaa.Pure
