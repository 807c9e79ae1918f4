/- The plain law: all messages are those to each vertex, and those from each. -/
import Derived.Test.YtgdkemgilmfkfaaPx
import Derived.Test.YtgdkemgilmfkfaaFoldAwake
import Derived.Test.YtgdkemgilmfkfaaFoldOwn
namespace Go.Proofs.Ytgdkemgilmfkfaa.Pure
open Go.RowKit Go.Proofs.Ytgdkemgilmfkfaa Go.Proofs.Ytgdkemgilmfkfaa.P
def eqm (x y : Msg) : Bool := y.f0 == x.f0 && (y.f1 == x.f1 && y.f2 == x.f2)
theorem eqm_self (x : Msg) : eqm x x = true := by simp [eqm]
theorem any_drop (p : Msg → Bool) (l : List Msg) (j : Nat) (h : j < l.length) : (l.drop j).any p = (p l[j] || (l.drop (j + 1)).any p) := by rw [List.drop_eq_getElem_cons h, List.any_cons]
theorem sides_l1 (l : List Msg) (i : Nat) (hi : i < l.length) (A B : List Msg) (hA : ∀ y ∈ A, y.f1 = l[i].f1) (ha : A.length ≤ 1000) (isB : Bool) (K : Nat) : ∀ (d j : Nat) (inA : Bool), A.length - j = d → j ≤ A.length → modillionlaw08_FoldSides.l1 (K + d + 1) l (i : Int) A B inA isB (j : Int) = modillionlaw08_FoldSides.l2 K l (i : Int) B (inA || (A.drop j).any (eqm l[i])) isB 0
  | 0, j, inA, hd, hj => by
    rw [modillionlaw08_FoldSides.l1, if_neg (by omega), List.drop_of_length_le (by omega)]
    simp
  | d + 1, j, inA, hd, hj => by
    have hlt : j < A.length := by omega
    have ih := sides_l1 l i hi A B hA ha isB K d (j + 1)
    have hm := hA A[j] (List.getElem_mem hlt)
    rw [show K + (d + 1) + 1 = (K + d + 1) + 1 by omega, modillionlaw08_FoldSides.l1, if_pos (by omega), rd_msg A j hlt, rd_msg l i hi, wrap_id (by omega) (by omega), any_drop _ A j hlt]
    cases inA with
    | true =>
      rw [if_pos rfl, if_pos (by omega), if_pos (by omega), if_pos (by omega), if_pos hm]
      have := ih true (by omega) (by omega)
      simpa using this
    | false =>
      rw [if_neg (by decide), if_pos (by omega), if_pos (by omega), if_pos (by omega), if_pos hm]
      have := ih (eqm l[i] A[j]) (by omega) (by omega)
      simpa [eqm] using this
theorem sides_l2 (l : List Msg) (i : Nat) (hi : i < l.length) (B : List Msg) (hB : ∀ y ∈ B, y.f0 = l[i].f0) (hb : B.length ≤ 1000) (hl : l.length ≤ 1000) (K : Nat) : ∀ (d j : Nat) (isB : Bool), B.length - j = d → j ≤ B.length → modillionlaw08_FoldSides.l2 (K + d + 1) l (i : Int) B true isB (j : Int) = if (isB || (B.drop j).any (eqm l[i])) = true then modillionlaw08_FoldSides.l0 K l ((i + 1 : Nat) : Int) else some false
  | 0, j, isB, hd, hj => by
    rw [modillionlaw08_FoldSides.l2, if_neg (by omega), List.drop_of_length_le (by omega), if_pos rfl, wrap_id (by omega) (by omega)]
    simp
  | d + 1, j, isB, hd, hj => by
    have hlt : j < B.length := by omega
    have ih := sides_l2 l i hi B hB hb hl K d (j + 1)
    have hm := hB B[j] (List.getElem_mem hlt)
    rw [show K + (d + 1) + 1 = (K + d + 1) + 1 by omega, modillionlaw08_FoldSides.l2, if_pos (by omega), rd_msg B j hlt, rd_msg l i hi, wrap_id (n := (j : Int) + 1) (by omega) (by omega), any_drop _ B j hlt]
    cases isB with
    | true =>
      rw [if_pos rfl, if_pos (by omega), if_pos (by omega), if_pos (by omega), if_pos hm]
      have := ih true (by omega) (by omega)
      simpa using this
    | false =>
      rw [if_neg (by decide), if_pos (by omega), if_pos (by omega), if_pos (by omega), if_pos hm]
      have := ih (eqm l[i] B[j]) (by omega) (by omega)
      simpa [eqm] using this
theorem sides_l0 (l : List Msg) (hl : l.length ≤ 40) : ∀ (d i k : Nat), l.length - i = d → i ≤ l.length → 100 * d + 1 ≤ k → modillionlaw08_FoldSides.l0 k l (i : Int) = some true
  | 0, i, k, hd, hi, hk => by
    obtain ⟨k, rfl⟩ : ∃ m, k = m + 1 := ⟨k - 1, by omega⟩
    rw [modillionlaw08_FoldSides.l0, if_neg (by omega)]
  | d + 1, i, k, hd, hi, hk => by
    obtain ⟨k, rfl⟩ : ∃ m, k = m + 1 := ⟨k - 1, by omega⟩
    have hlt : i < l.length := by omega
    have hll : l.length < 5864062014805 := by omega
    have hf1 := List.length_filter_le (fun x : Msg => x.f1 == l[i].f1) l
    have hf0 := List.length_filter_le (fun x : Msg => x.f0 == l[i].f0) l
    have hA : ∀ y ∈ sortMsg (l.filter fun x => x.f1 == l[i].f1), y.f1 = l[i].f1 := fun y hy => by
      have := (sortMsg_perm _).subset hy
      simpa using (List.mem_filter.1 this).2
    have hB : ∀ y ∈ sortMsg (l.filter fun x => x.f0 == l[i].f0), y.f0 = l[i].f0 := fun y hy => by
      have := (sortMsg_perm _).subset hy
      simpa using (List.mem_filter.1 this).2
    have hAx : (sortMsg (l.filter fun x => x.f1 == l[i].f1)).any (eqm l[i]) = true :=
      List.any_eq_true.2 ⟨l[i], (sortMsg_perm _).symm.subset (List.mem_filter.2 ⟨List.getElem_mem hlt, by simp⟩), eqm_self _⟩
    have hBx : (sortMsg (l.filter fun x => x.f0 == l[i].f0)).any (eqm l[i]) = true :=
      List.any_eq_true.2 ⟨l[i], (sortMsg_perm _).symm.subset (List.mem_filter.2 ⟨List.getElem_mem hlt, by simp⟩), eqm_self _⟩
    rw [modillionlaw08_FoldSides.l0, if_pos (by omega), own_f l hll, Option.bind_some, if_pos (by omega), rd_msg l i hlt]
    unfold fold_To.f fold_From.f
    rw [if_pos hll, Option.bind_some, Option.bind_some, if_pos hll, Option.bind_some]
    have hla := sortMsg_len (l.filter fun x => x.f1 == l[i].f1)
    have hlb := sortMsg_len (l.filter fun x => x.f0 == l[i].f0)
    generalize sortMsg (l.filter fun x => x.f1 == l[i].f1) = A at hA hAx hla ⊢
    generalize sortMsg (l.filter fun x => x.f0 == l[i].f0) = B at hB hBx hlb ⊢
    have ha : A.length ≤ 40 := by rw [hla]; exact Nat.le_trans hf1 hl
    have hb : B.length ≤ 40 := by rw [hlb]; exact Nat.le_trans hf0 hl
    obtain ⟨K, rfl⟩ : ∃ K, k = K + B.length + 1 + A.length + 1 := ⟨k - B.length - 1 - A.length - 1, by omega⟩
    have h1 := sides_l1 l i hlt A B hA (by omega) false (K + B.length + 1) A.length 0 false (by omega) (by omega)
    have h2 := sides_l2 l i hlt B hB (by omega) (by omega) K B.length 0 false (by omega) (by omega)
    rw [List.drop_zero, Bool.false_or, hAx] at h1
    rw [List.drop_zero, Bool.false_or, hBx, if_pos rfl] at h2
    refine (h1.trans h2).trans ?_
    exact sides_l0 l hl d (i + 1) K (by omega) (by omega) (by omega)
theorem FoldSides : ∀ (l0 : List P.S41), (∀ x ∈ l0, Open.wfM x) → ∃ k, P.modillionlaw08_FoldSides.f k l0 = some true := by
  intro l0 _
  refine ⟨5000, ?_⟩
  unfold modillionlaw08_FoldSides.f
  rw [awakes_f, Option.bind_some, if_pos rfl, modillionlaw08_FoldSides.j0]
  by_cases h : (l0.length : Int) > 40
  · rw [if_pos (by simpa using h), awakes_f]
    rfl
  · rw [if_neg (by simpa using h)]
    exact sides_l0 l0 (by omega) l0.length 0 4999 (by omega) (by omega) (by omega)
end Go.Proofs.Ytgdkemgilmfkfaa.Pure
