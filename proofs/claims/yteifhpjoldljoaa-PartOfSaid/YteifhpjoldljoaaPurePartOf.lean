/- The vertices of any worker, and the place of any vertex, are the document's: of every four ints. -/
import Derived.Test.YteifhpjoldljoaaPart
import Derived.Test.YteifhpjoldljoaaPx2
namespace Go.Proofs.Yteifhpjoldljoaa.Pure
open Go Go.RowKit Go.Proofs.Yteifhpjoldljoaa.P Go.Proofs.YteifhpjoldljoaaW.PrintWords Go.Proofs.Yteifhpjoldljoaa.PL
set_option linter.unusedVariables false
set_option linter.unusedSimpArgs false
theorem j2_PartOf (n w v : Int) (hv : v ≤ 9223372036854775807) (h : Ok n w) (k : Nat) (hk : 70 ≤ k) (b : Bool) (hb : b = decide (v < 0 ∨ v ≥ n)) :
    modillionlaw06_PartOf.j2 k n w v (if b = true then 0 else own v w) (if b = true then 0 else idx (verts n w (own v w)) v) (if b = true then 60 else 0) b = some true := by
  obtain ⟨k, rfl⟩ : ∃ m, k = m + 1 := ⟨k - 1, by omega⟩
  subst hb
  by_cases c : v < 0 ∨ v ≥ n
  · rw [decide_eq_true c]; simp [modillionlaw06_PartOf.j2]
  · rw [decide_eq_false c]
    simp only [modillionlaw06_PartOf.j2, Bool.false_eq_true, if_false]
    rw [refowner_f v w hv]
    simp only [Option.bind_some, if_true]
    rw [refof_f n w _ h k (by omega)]
    simp only [Option.bind_some, if_true]
    have hm : v ∈ verts n w (own v w) := by
      unfold verts; rw [vertsFrom_mem]; exact ⟨by omega, by omega, rfl⟩
    obtain ⟨i, e, hi, hx⟩ := idx_mem hm
    rw [e, if_pos (by omega), if_pos (by omega), if_pos (by omega), rd_eq rfl]
    simp [List.getD_eq_getElem?_getD, List.getElem?_eq_getElem hi, hx]
theorem j2_PartOf_bad (n w v : Int) (k : Nat) (hk : 70 ≤ k) : modillionlaw06_PartOf.j2 k n w v 0 0 60 true = some true := by
  obtain ⟨k, rfl⟩ : ∃ m, k = m + 1 := ⟨k - 1, by omega⟩
  simp [modillionlaw06_PartOf.j2]
theorem PartOf : modillionlaw06_PartOf.Pure := by
  intro n w x v hn hw hx hv
  have hv' := i64_wf hv
  refine ⟨102, ?_⟩
  unfold modillionlaw06_PartOf.f
  rw [of_f, place_f _ _ _ 102 (by omega), awake06 102 (by omega), refright_f]; simp only [Option.bind_some, if_true, decide_eq_true_eq]
  by_cases h : Ok n w
  · rw [if_pos h, decide_eq_true h]
    have h1 : modillionlaw06_PartOf.j1 101 n w v (if Ok n w ∧ 0 ≤ v ∧ v < n then (own v w, idx (verts n w (own v w)) v, (0 : Int)) else (0, 0, 60)).1 (if Ok n w ∧ 0 ≤ v ∧ v < n then (own v w, idx (verts n w (own v w)) v, (0 : Int)) else (0, 0, 60)).2.1 (if Ok n w ∧ 0 ≤ v ∧ v < n then (own v w, idx (verts n w (own v w)) v, (0 : Int)) else (0, 0, 60)).2.2 true = some true := by
      simp only [modillionlaw06_PartOf.j1, if_true]
      by_cases c : v < 0
      · rw [if_pos c, if_neg (by omega)]; exact j2_PartOf_bad n w v 100 (by omega)
      · rw [if_neg c]
        have := j2_PartOf n w v hv'.2 h 100 (by omega) _ rfl
        by_cases c2 : v ≥ n
        · rw [if_neg (by omega), decide_eq_true c2]; exact j2_PartOf_bad n w v 100 (by omega)
        · rw [if_pos ⟨h, by omega, by omega⟩, decide_eq_false c2]
          rw [decide_eq_false (show ¬ (v < 0 ∨ v ≥ n) by omega)] at this
          simpa using this
    by_cases h2 : x < 0
    · rw [if_pos h2, if_neg (show ¬ (Ok n w ∧ 0 ≤ x ∧ x < w) by omega)]
      simp only [modillionlaw06_PartOf.j0, if_true]
      simpa using h1
    · rw [if_neg h2]
      by_cases h3 : x ≥ w
      · rw [decide_eq_true h3, if_neg (show ¬ (Ok n w ∧ 0 ≤ x ∧ x < w) by omega)]
        simp only [modillionlaw06_PartOf.j0, if_true]
        simpa using h1
      · rw [decide_eq_false h3, if_pos (show Ok n w ∧ 0 ≤ x ∧ x < w from ⟨h, by omega, by omega⟩)]
        simp only [modillionlaw06_PartOf.j0, Bool.false_eq_true, if_false, if_true]
        have hok := h
        unfold Ok at hok
        have hl := verts_length n w x (by omega)
        rw [refof_f n w x h 101 (by omega)]; simp only [Option.bind_some]
        rw [row_f _ _ (by omega) 101 (by omega)]; simp only [Option.bind_some, decide_true, if_true]
        exact h1
  · rw [if_neg h, decide_eq_false h, if_neg (show ¬ (Ok n w ∧ 0 ≤ x ∧ x < w) from fun z => h z.1), if_neg (show ¬ (Ok n w ∧ 0 ≤ v ∧ v < n) from fun z => h z.1)]
    simp only [modillionlaw06_PartOf.j0, if_true, modillionlaw06_PartOf.j1, Bool.false_eq_true, if_false]
    simpa using j2_PartOf_bad n w v 100 (by omega)
end Go.Proofs.Yteifhpjoldljoaa.Pure
