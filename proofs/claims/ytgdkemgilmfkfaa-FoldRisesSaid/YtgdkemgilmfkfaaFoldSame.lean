/- Plain lemmas about messages: messages are the same as themselves. -/
import Derived.Test.YtgdkemgilmfkfaaPx
import Derived.Test.YtgdkemgilmfkfaaFold
namespace Go.Proofs.Ytgdkemgilmfkfaa.Pure
open Go.RowKit Go.Proofs.Ytgdkemgilmfkfaa.P Go.Proofs.YtgdkemgilmfkfaaW.PrintWords
theorem same_l0 (l : List Msg) (hl : l.length ≤ 4611686018427387904) : ∀ (d i k : Nat), l.length - i = d → d < k → i ≤ l.length → modillionref07_Same.l0 k l l (i : Int) = some true
  | 0, i, k, hd, hk, hi => by
    obtain ⟨k, rfl⟩ : ∃ m, k = m + 1 := ⟨k - 1, by omega⟩
    simp only [modillionref07_Same.l0]
    rw [if_neg (by omega)]
  | d + 1, i, k, hd, hk, hi => by
    obtain ⟨k, rfl⟩ : ∃ m, k = m + 1 := ⟨k - 1, by omega⟩
    simp only [modillionref07_Same.l0]
    rw [if_pos (by omega), if_pos (by omega), if_pos (by omega), if_neg (by simp), wrap_id (by omega) (by omega)]
    exact same_l0 l hl d (i + 1) k (by omega) (by omega) (by omega)
theorem same_self (l : List Msg) (k : Nat) (hl : l.length ≤ 4611686018427387904) (hk : l.length < k) : modillionref07_Same.f k l l = some true := by
  unfold modillionref07_Same.f
  rw [if_pos rfl]
  exact same_l0 l hl l.length 0 k (by omega) hk (by omega)
theorem same_ev (l : List Msg) (hl : l.length ≤ 4611686018427387904) : Ev (fun k => modillionref07_Same.f k l l) true := ⟨l.length + 1, fun k hk => same_self l k hl (by omega)⟩
end Go.Proofs.Ytgdkemgilmfkfaa.Pure
