/- The plain law: messages in order, and those to and from a vertex, are the reference's. -/
import Derived.Test.YtgdkemgilmfkfaaPx
import Derived.Test.YtgdkemgilmfkfaaFoldAwake
namespace Go.Proofs.Ytgdkemgilmfkfaa.Pure
open Go.RowKit Go.Proofs.Ytgdkemgilmfkfaa Go.Proofs.Ytgdkemgilmfkfaa.P
theorem FoldSorts : ∀ (l0 : List P.S41) (a1 : Int), (∀ x ∈ l0, Open.wfM x) → (Lit.int .i64 a1).wf = true → ∃ k, P.modillionlaw08_FoldSorts.f k l0 a1 = some true := by
  intro l0 a1 _ _
  refine ⟨100, ?_⟩
  unfold modillionlaw08_FoldSorts.f
  rw [awakes_f]
  by_cases h : (l0.length : Int) > 40
  · rw [if_pos h]; rfl
  · rw [if_neg h]
    have hl : l0.length < 5864062014805 := by omega
    have hf1 := List.length_filter_le (fun x : Msg => x.f1 == a1) l0
    have hf0 := List.length_filter_le (fun x : Msg => x.f0 == a1) l0
    rw [Option.bind_some, if_pos rfl, own_f l0 hl, Option.bind_some, sort_f l0 hl, Option.bind_some, refsort_f l0 hl, Option.bind_some, same_self _ _ (by rw [sortMsg_len]; omega) (by rw [sortMsg_len]; omega), Option.bind_some, if_pos rfl, Option.bind_some]
    unfold fold_To.f fold_From.f
    rw [if_pos hl, Option.bind_some, refto_f l0 a1 _ hl (by omega), Option.bind_some, same_self _ _ (by rw [sortMsg_len]; exact Nat.le_trans hf1 (by omega)) (by rw [sortMsg_len]; exact Nat.lt_of_le_of_lt hf1 (by omega)), Option.bind_some, if_pos rfl, Option.bind_some, if_pos hl, Option.bind_some, reffrom_f l0 a1 _ hl (by omega), Option.bind_some, same_self _ _ (by rw [sortMsg_len]; exact Nat.le_trans hf0 (by omega)) (by rw [sortMsg_len]; exact Nat.lt_of_le_of_lt hf0 (by omega))]
    rfl
end Go.Proofs.Ytgdkemgilmfkfaa.Pure
