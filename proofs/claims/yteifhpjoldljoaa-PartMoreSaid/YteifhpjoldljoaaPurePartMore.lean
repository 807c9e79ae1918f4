/- With more vertices those that were there keep their owner, and their place: of every four ints. -/
import Derived.Test.YteifhpjoldljoaaPart
import Derived.Test.YteifhpjoldljoaaPx4
namespace Go.Proofs.Yteifhpjoldljoaa.Pure
open Go Go.RowKit Go.Proofs.Yteifhpjoldljoaa.P Go.Proofs.YteifhpjoldljoaaW.PrintWords Go.Proofs.Yteifhpjoldljoaa.PL
set_option linter.unusedVariables false
set_option linter.unusedSimpArgs false
theorem vertsFrom_add (w x : Int) (e : Nat) : ∀ (d : Nat) (i : Int), vertsFrom w x (d + e) i = vertsFrom w x d i ++ vertsFrom w x e (i + d)
  | 0, i => by simp [vertsFrom]
  | d + 1, i => by
    have ih := vertsFrom_add w x e d (i + 1)
    rw [show d + 1 + e = (d + e) + 1 by omega]
    simp only [vertsFrom]
    rw [ih, show i + 1 + (d : Int) = i + ((d + 1 : Nat) : Int) by omega]
    split <;> simp
theorem idx_append {l m : List Int} {v : Int} (h : v ∈ l) : idx (l ++ m) v = idx l v := by
  unfold idx
  rw [List.findIdx?_append]
  cases e : l.findIdx? (· == v) with
  | none => rw [List.findIdx?_eq_none_iff] at e; exact absurd (e v h) (by simp)
  | some i => simp
theorem PartMore : modillionlaw06_PartMore.Pure := by
  intro n m w v hn hm hw hv
  refine ⟨101, ?_⟩
  unfold modillionlaw06_PartMore.f
  rw [awake06 101 (by omega), refright_f, refright_f]; simp only [Option.bind_some, if_true, decide_eq_true_eq]
  have triv : modillionlaw06_PartMore.j0 101 n m w v true = some true := by
    simp only [modillionlaw06_PartMore.j0, if_true]; rw [awake06 100 (by omega)]; rfl
  by_cases h1 : Ok n w
  · rw [if_pos h1]
    by_cases h2 : Ok m w
    · rw [if_pos h2]
      by_cases h3 : n > m
      · rw [if_pos h3]; exact triv
      · rw [if_neg h3]
        by_cases h4 : v < 0
        · rw [if_pos h4]; exact triv
        · rw [if_neg h4]
          by_cases h5 : v ≥ n
          · rw [decide_eq_true h5]; exact triv
          · rw [decide_eq_false h5]
            simp only [modillionlaw06_PartMore.j0, Bool.false_eq_true, if_false]
            rw [place_f _ _ _ 100 (by omega), place_f _ _ _ 100 (by omega)]
            rw [if_pos ⟨h1, by omega, by omega⟩, if_pos ⟨h2, by omega, by omega⟩]
            simp only [Option.bind_some, if_true]
            have hm : v ∈ verts n w (own v w) := by
              unfold verts; rw [vertsFrom_mem]; exact ⟨by omega, by omega, rfl⟩
            have e : verts m w (own v w) = verts n w (own v w) ++ vertsFrom w (own v w) (m.toNat - n.toNat) (0 + n.toNat) := by
              unfold verts; rw [← vertsFrom_add]; congr 1; omega
            rw [e, idx_append hm, owner_f]; simp
    · rw [if_neg h2]; exact triv
  · rw [if_neg h1]; exact triv
end Go.Proofs.Yteifhpjoldljoaa.Pure
