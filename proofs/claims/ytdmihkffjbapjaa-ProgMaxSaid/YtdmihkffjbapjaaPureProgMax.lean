/- The plain law: of max, label, sssp and bfs a value only ever rises, or falls, step by step. -/
import Derived.Test.YtdmihkffjbapjaaStep
import Derived.Test.YtdmihkffjbapjaaOpEdge
namespace Go.Proofs.Ytdmihkffjbapjaa.Pure
open Go Go.RowKit Go.Proofs.Ytdmihkffjbapjaa Go.Proofs.Ytdmihkffjbapjaa.P Go.Proofs.YtdmihkffjbapjaaW.PrintWords Go.Proofs.YtdmihkffjbapjaaW.PrintLast Go.Proofs.YtdmihkffjbapjaaW.PrintMore
set_option linter.unusedVariables false
set_option linter.unusedSimpArgs false
theorem better_val (z c is : Bool) (val inn : Int) : (betterV z c is val inn).1 = if (!z && (c && is)) = true then inn else val := by
  unfold betterV
  cases z with
  | true => rfl
  | false => cases (c && is) <;> rfl
theorem max_up (src steps at_ id val inn m : Int) (has : Bool) : val ≤ (stepV sMax src steps at_ id val has inn m).1 := by
  show val ≤ (betterV (decide (at_ = 0)) (decide (at_ > 0) && has) (decide (inn > val)) val inn).1
  rw [better_val]
  split
  · rename_i h
    simp only [Bool.and_eq_true, decide_eq_true_eq] at h
    omega
  · omega
theorem label_down (src steps at_ id val inn m : Int) (has : Bool) : (stepV sLabel src steps at_ id val has inn m).1 ≤ val := by
  show (betterV (decide (at_ = 0)) (decide (at_ > 0) && has) (decide (inn < val)) val inn).1 ≤ val
  rw [better_val]
  split
  · rename_i h
    simp only [Bool.and_eq_true, decide_eq_true_eq] at h
    omega
  · omega
theorem path_down (t : List UInt8) (ht : t = sSssp ∨ t = sBfs) (src steps at_ id val inn m : Int) (has : Bool) : (stepV t src steps at_ id val has inn m).1 ≤ val ∨ val < 0 := by
  have e : (stepV t src steps at_ id val has inn m) = (if at_ = 0 then (val, false, id == src, 0) else betterV false (decide (at_ > 0) && has) (decide (val < 0) || decide (inn < val)) val inn) := by
    rcases ht with rfl | rfl <;> rfl
  rw [e]
  split
  · exact Or.inl (Int.le_refl _)
  · rw [better_val]
    split
    · rename_i h
      simp only [Bool.and_eq_true, Bool.or_eq_true, decide_eq_true_eq] at h
      omega
    · exact Or.inl (Int.le_refl _)
theorem ProgMax : ∀ (a0_0 : Int) (l0_1 : List P.S46) (a1_0 : ByteArray) (a1_1 a1_2 : Int) (a2 : Int) (a3_0 a3_1 : Int) (a3_2 a3_3 : Bool) (a3_4 : Int), (Lit.int .i64 a0_0).wf = true → (∀ x ∈ l0_1, Open.wfE x) → (Lit.int .i64 a1_1).wf = true → (Lit.int .i64 a1_2).wf = true → (Lit.int .i64 a2).wf = true → (Lit.int .i64 a3_0).wf = true → (Lit.int .i64 a3_1).wf = true → (Lit.int .i64 a3_4).wf = true → ∃ k, P.modillionlaw07_ProgMax.f k a0_0 l0_1 a1_0 a1_1 a1_2 a2 a3_0 a3_1 a3_2 a3_3 a3_4 = some true := by
  intro n l tag src steps at_ id val act has inn _ _ _ _ _ _ _ _
  refine ⟨101, ?_⟩
  unfold modillionlaw07_ProgMax.f
  rw [awake07 101 (by omega), Option.bind_some, if_pos rfl, modillionlaw07_ProgMax.j0]
  by_cases hl : (l.length : Int) > 100
  · rw [if_pos (decide_eq_true hl), awake07 100 (by omega)]
    rfl
  · rw [if_neg (by simpa using hl), own07 n l (by omega), Option.bind_some]
    show (prog_Step.f n l tag src steps at_ id val act has inn).bind _ = _
    rw [step_f n l tag src steps at_ id val act has inn (by omega), Option.bind_some]
    generalize tag.toList = t
    obtain ⟨e, he, hr⟩ | ⟨rfl, rfl, hr⟩ | ⟨_, _, _, _, _, s, hs, hr⟩ := step_ways n l t src steps at_ id val act has inn
    · rw [hr, if_neg he]
    · rw [hr, if_pos rfl]
      show (if t = [109, 97, 120] then some (decide (val ≥ val)) else if t = [108, 97, 98, 101, 108] then some (decide (val ≤ val)) else if t = [115, 115, 115, 112] then (if val ≤ val then some true else some (decide (val < 0))) else if t = [98, 102, 115] then (if val ≤ val then some true else some (decide (val < 0))) else some true) = some true
      rw [decide_eq_true (Int.le_refl val), if_pos (Int.le_refl val)]
      split <;> (try split) <;> (try split) <;> (try split) <;> rfl
    · rw [hr, if_pos rfl]
      show (if t = [109, 97, 120] then some (decide (s.1 ≥ val)) else if t = [108, 97, 98, 101, 108] then some (decide (s.1 ≤ val)) else if t = [115, 115, 115, 112] then (if s.1 ≤ val then some true else some (decide (val < 0))) else if t = [98, 102, 115] then (if s.1 ≤ val then some true else some (decide (val < 0))) else some true) = some true
      have path : t = sSssp ∨ t = sBfs → (if s.1 ≤ val then some true else some (decide (val < 0))) = some true := fun h => by
        rcases path_down t h src steps at_ id val (if has = true then inn else 0) ((outV l id).length : Int) has with q | q
        · rw [if_pos (hs ▸ q)]
        · rw [decide_eq_true q]
          split <;> rfl
      by_cases c1 : t = sMax
      · subst c1
        rw [if_pos rfl, hs, decide_eq_true (max_up src steps at_ id val _ _ has)]
      rw [if_neg c1]
      by_cases c2 : t = sLabel
      · subst c2
        rw [if_pos rfl, hs, decide_eq_true (label_down src steps at_ id val _ _ has)]
      rw [if_neg c2]
      by_cases c3 : t = sSssp
      · rw [if_pos c3]
        exact path (Or.inl c3)
      rw [if_neg c3]
      by_cases c4 : t = sBfs
      · rw [if_pos c4]
        exact path (Or.inr c4)
      rw [if_neg c4]
end Go.Proofs.Ytdmihkffjbapjaa.Pure
