/- Plain lemmas: the document's edges out of a vertex are those of the program. -/
import Derived.Test.YtpndhkeoljoapaaGreatOutB
namespace Go.Proofs.YtpndhkeoljoapaaGreat.Pure
open Go Go.RowKit Go.Proofs.YtpndhkeoljoapaaGreat.P Go.Proofs.YtpndhkeoljoapaaGreatW.PrintWords Go.Proofs.YtpndhkeoljoapaaGreatW.PrintLast Go.Proofs.YtpndhkeoljoapaaGreatW.PrintMore
set_option linter.unusedVariables false
set_option linter.unusedSimpArgs false
theorem filter_two {α : Type} (p q : α → Bool) : ∀ (l : List α), (∀ x ∈ l, ¬ (p x = true ∧ q x = true)) → (l.filter p ++ l.filter q).Perm (l.filter fun x => p x || q x)
  | [], _ => List.Perm.refl _
  | x :: l, h => by
    have ih := filter_two p q l (fun y hy => h y (List.mem_cons_of_mem _ hy))
    have hx := h x (List.mem_cons_self ..)
    rw [List.filter_cons, List.filter_cons, List.filter_cons]
    cases hp : p x with
    | true =>
      have hq : q x = false := by
        cases hq : q x with
        | false => rfl
        | true => exact absurd ⟨hp, hq⟩ hx
      rw [if_pos rfl, hq, if_neg Bool.false_ne_true, Bool.or_false, if_pos rfl]
      exact ih.cons x
    | false =>
      rw [if_neg Bool.false_ne_true, Bool.false_or]
      cases hq : q x with
      | true =>
        rw [if_pos rfl, if_pos rfl]
        exact List.perm_middle.trans (ih.cons x)
      | false =>
        rw [if_neg Bool.false_ne_true, if_neg Bool.false_ne_true]
        exact ih
/-- The edges from a to b, to b + 1, .. -/
def rowE (l : List VEdge) (a : Int) : Int → Nat → List VEdge
  | _, 0 => []
  | b, d + 1 => (l.filter fun e => e.f0 == a && e.f1 == b) ++ rowE l a (b + 1) d
/-- The edges from a, from a + 1, .. -/
def gridE (l : List VEdge) (n : Nat) : Int → Nat → List VEdge
  | _, 0 => []
  | a, d + 1 => rowE l a 0 n ++ gridE l n (a + 1) d
theorem row_perm (l : List VEdge) (a : Int) : ∀ (d : Nat) (b : Int), (rowE l a b d).Perm (l.filter fun e => e.f0 == a && (decide (b ≤ e.f1) && decide (e.f1 < b + d)))
  | 0, b => by
    rw [rowE, List.filter_eq_nil_iff.mpr]
    intro x _ h
    simp only [Bool.and_eq_true, decide_eq_true_eq] at h
    omega
  | d + 1, b => by
    refine (List.Perm.append_left _ (row_perm l a d (b + 1))).trans ((filter_two _ _ l ?_).trans ?_)
    · rintro x _ ⟨h1, h2⟩
      simp only [Bool.and_eq_true, decide_eq_true_eq, beq_iff_eq] at h1 h2
      omega
    · refine List.Perm.of_eq (List.filter_congr fun x _ => ?_)
      rw [Bool.eq_iff_iff]
      simp only [Bool.or_eq_true, Bool.and_eq_true, decide_eq_true_eq, beq_iff_eq]
      omega
theorem grid_perm (l : List VEdge) (n : Nat) : ∀ (d : Nat) (a : Int), (gridE l n a d).Perm (l.filter fun e => (decide (a ≤ e.f0) && decide (e.f0 < a + d)) && (decide (0 ≤ e.f1) && decide (e.f1 < n)))
  | 0, a => by
    rw [gridE, List.filter_eq_nil_iff.mpr]
    intro x _ h
    simp only [Bool.and_eq_true, decide_eq_true_eq] at h
    omega
  | d + 1, a => by
    refine ((row_perm l a n 0).append (grid_perm l n d (a + 1))).trans ((filter_two _ _ l ?_).trans ?_)
    · rintro x _ ⟨h1, h2⟩
      simp only [Bool.and_eq_true, decide_eq_true_eq, beq_iff_eq] at h1 h2
      omega
    · refine List.Perm.of_eq (List.filter_congr fun x _ => ?_)
      rw [Bool.eq_iff_iff]
      simp only [Bool.or_eq_true, Bool.and_eq_true, decide_eq_true_eq, beq_iff_eq]
      omega
theorem row_mem {l : List VEdge} {a b : Int} {d : Nat} {x : VEdge} (h : x ∈ rowE l a b d) : x.f0 = a ∧ b ≤ x.f1 := by
  have := (List.mem_filter.mp ((row_perm l a d b).subset h)).2
  simp only [Bool.and_eq_true, decide_eq_true_eq, beq_iff_eq] at this
  omega
theorem grid_mem {l : List VEdge} {n : Nat} {a : Int} {d : Nat} {x : VEdge} (h : x ∈ gridE l n a d) : a ≤ x.f0 := by
  have := (List.mem_filter.mp ((grid_perm l n d a).subset h)).2
  simp only [Bool.and_eq_true, decide_eq_true_eq, beq_iff_eq] at this
  omega
theorem row_sorted (l : List VEdge) (a : Int) : ∀ (d : Nat) (b : Int), (rowE l a b d).Pairwise leE
  | 0, b => List.Pairwise.nil
  | d + 1, b => by
    rw [rowE, List.pairwise_append]
    have hk : ∀ x ∈ l.filter (fun e => e.f0 == a && e.f1 == b), x.f0 = a ∧ x.f1 = b := fun x hx => by
      have := (List.mem_filter.mp hx).2
      simpa only [Bool.and_eq_true, beq_iff_eq] using this
    refine ⟨List.Pairwise.imp_of_mem (R := fun _ _ => True) (fun {x y} hx hy _ => ?_) (List.pairwise_iff_getElem.mpr fun _ _ _ _ _ => trivial), row_sorted l a d (b + 1), fun x hx y hy => ?_⟩
    · have h1 := hk x hx
      have h2 := hk y hy
      unfold leE
      omega
    · have h1 := hk x hx
      have h2 := row_mem hy
      unfold leE
      omega
theorem grid_sorted (l : List VEdge) (n : Nat) : ∀ (d : Nat) (a : Int), (gridE l n a d).Pairwise leE
  | 0, a => List.Pairwise.nil
  | d + 1, a => by
    rw [gridE, List.pairwise_append]
    refine ⟨row_sorted l a n 0, grid_sorted l n d (a + 1), fun x hx y hy => ?_⟩
    have h1 := row_mem hx
    have h2 := grid_mem hy
    unfold leE
    omega
theorem odd_not {n : Int} {e : VEdge} (h : oddE n e = false) : 0 ≤ e.f0 ∧ e.f0 < n ∧ 0 ≤ e.f1 ∧ e.f1 < n ∧ 0 ≤ e.f2 ∧ e.f2 ≤ 1048576 := by
  unfold oddE at h
  simp only [Bool.or_eq_false_iff, decide_eq_false_iff_not] at h
  omega
theorem grid_sort {l : List VEdge} {n : Nat} (hb : badG (n : Int) l = false) (hd : dupE l = false) : gridE l n 0 n = sortE l := by
  refine sorted_unique ⟨(grid_perm l n n 0).trans (List.Perm.of_eq ?_), grid_sorted l n n 0⟩ hd
  rw [List.filter_eq_self]
  intro e he
  have := odd_not (by
    have h4 := (badG_not hb).2.2.2
    rw [List.any_eq_false] at h4
    simpa using h4 e he)
  simp only [Bool.and_eq_true, decide_eq_true_eq]
  omega
/-- The document's edges in order: a loop over all pairs. -/
theorem norm_l2 (l : List VEdge) (hl : l.length ≤ 1000) (n : Int) (a b : Int) (R : Int × List VEdge) : ∀ (d c : Nat) (acc : List VEdge), l.length - c = d → c ≤ l.length → acc.length ≤ 1000000000 + c → Ev (fun k => modillionref05_Norm.l1 k a (wrap64 (b + 1)) n l n (acc ++ (l.drop c).filter fun e => e.f0 == a && e.f1 == b)) R → Ev (fun k => modillionref05_Norm.l2 k a b (c : Int) n l n acc) R
  | 0, c, acc, hd, hc, ha, h => by
    rw [List.drop_of_length_le (by omega), List.filter_nil, List.append_nil] at h
    refine Ev.step (fun k => ?_) h
    rw [modillionref05_Norm.l2, if_neg (by omega)]
  | d + 1, c, acc, hd, hc, ha, h => by
    have hlt : c < l.length := by omega
    rw [List.drop_eq_getElem_cons hlt, List.filter_cons] at h
    by_cases h0 : l[c].f0 = a
    · by_cases h1 : l[c].f1 = b
      · rw [if_pos (by simp [h0, h1])] at h
        refine Ev.step (fun k => ?_) (norm_l2 l hl n a b R d (c + 1) (acc ++ [l[c]]) (by omega) (by omega) (by rw [List.length_append, List.length_singleton]; omega) (by rw [List.append_assoc]; exact h))
        rw [modillionref05_Norm.l2, if_pos (by omega), if_pos (by omega), rdE7 l c hlt, if_pos h0, if_pos h1, if_pos (by omega), wrapt (n := (c : Int) + 1) (by omega) (by omega)]
        rfl
      · rw [if_neg (by simp [h1])] at h
        refine Ev.step (fun k => ?_) (norm_l2 l hl n a b R d (c + 1) acc (by omega) (by omega) (by omega) h)
        rw [modillionref05_Norm.l2, if_pos (by omega), if_pos (by omega), rdE7 l c hlt, if_pos h0, if_neg h1, wrapt (n := (c : Int) + 1) (by omega) (by omega)]
        rfl
    · rw [if_neg (by simp [h0])] at h
      refine Ev.step (fun k => ?_) (norm_l2 l hl n a b R d (c + 1) acc (by omega) (by omega) (by omega) h)
      rw [modillionref05_Norm.l2, if_pos (by omega), if_pos (by omega), rdE7 l c hlt, if_neg h0, wrapt (n := (c : Int) + 1) (by omega) (by omega)]
      rfl
theorem row_len (l : List VEdge) (a : Int) (d : Nat) (b : Int) : (rowE l a b d).length ≤ l.length := by
  rw [(row_perm l a d b).length_eq]
  exact List.length_filter_le _ _
theorem norm_l1 (l : List VEdge) (hl : l.length ≤ 1000) (n : Nat) (hn : n ≤ 1000) (a : Int) (R : Int × List VEdge) : ∀ (d b : Nat) (acc : List VEdge), n - b = d → b ≤ n → acc.length ≤ 100000000 + 1000 * b → Ev (fun k => modillionref05_Norm.l0 k (wrap64 (a + 1)) (n : Int) l (n : Int) (acc ++ rowE l a (b : Int) d)) R → Ev (fun k => modillionref05_Norm.l1 k a (b : Int) (n : Int) l (n : Int) acc) R
  | 0, b, acc, hd, hb, ha, h => by
    rw [rowE, List.append_nil] at h
    refine Ev.step (fun k => ?_) h
    rw [modillionref05_Norm.l1, if_neg (by omega)]
  | d + 1, b, acc, hd, hb, ha, h => by
    refine Ev.step (f := fun k => modillionref05_Norm.l2 k a (b : Int) ((0 : Nat) : Int) (n : Int) l (n : Int) acc) (fun k => by rw [modillionref05_Norm.l1, if_pos (by omega)]; rfl) ?_
    refine norm_l2 l hl n a b R l.length 0 acc (by omega) (by omega) (by omega) ?_
    rw [List.drop_zero, wrapt (by omega) (by omega)]
    have hf := List.length_filter_le (fun e : VEdge => e.f0 == a && e.f1 == (b : Int)) l
    refine norm_l1 l hl n hn a R d (b + 1) _ (by omega) (by omega) (by rw [List.length_append]; omega) ?_
    rw [List.append_assoc]
    exact h
theorem norm_l0 (l : List VEdge) (hl : l.length ≤ 1000) (n : Nat) (hn : n ≤ 1000) : ∀ (d a : Nat) (acc : List VEdge), n - a = d → a ≤ n → acc.length ≤ 1000 * a → Ev (fun k => modillionref05_Norm.l0 k (a : Int) (n : Int) l (n : Int) acc) ((n : Int), acc ++ gridE l n (a : Int) d)
  | 0, a, acc, hd, hb, ha => by
    rw [gridE, List.append_nil]
    refine Ev.step (fun k => ?_) (Ev.now _)
    rw [modillionref05_Norm.l0, if_neg (by omega)]
  | d + 1, a, acc, hd, hb, ha => by
    refine Ev.step (f := fun k => modillionref05_Norm.l1 k (a : Int) ((0 : Nat) : Int) (n : Int) l (n : Int) acc) (fun k => by rw [modillionref05_Norm.l0, if_pos (by omega)]; rfl) ?_
    have hr := row_len l a n 0
    refine norm_l1 l hl n hn a _ n 0 acc (by omega) (by omega) (by omega) ?_
    rw [wrapt (by omega) (by omega)]
    have ih := norm_l0 l hl n hn d (a + 1) (acc ++ rowE l (a : Int) 0 n) (by omega) (by omega) (by rw [List.length_append]; omega)
    rw [List.append_assoc] at ih
    exact ih
theorem refout_l0 (l : List VEdge) (hl : l.length ≤ 1000) (n id : Int) : ∀ (d c : Nat) (acc : List VEdge), l.length - c = d → c ≤ l.length → acc.length ≤ c → Ev (fun k => modillionref05_Out.l0 k id acc (c : Int) n l) (acc ++ (l.drop c).filter fun e => e.f0 == id)
  | 0, c, acc, hd, hc, ha => by
    rw [List.drop_of_length_le (by omega), List.filter_nil, List.append_nil]
    refine Ev.step (fun k => ?_) (Ev.now _)
    rw [modillionref05_Out.l0, if_neg (by omega)]
  | d + 1, c, acc, hd, hc, ha => by
    have hlt : c < l.length := by omega
    rw [List.drop_eq_getElem_cons hlt, List.filter_cons]
    by_cases h0 : l[c].f0 = id
    · rw [if_pos (by simp [h0])]
      have ih := refout_l0 l hl n id d (c + 1) (acc ++ [l[c]]) (by omega) (by omega) (by rw [List.length_append, List.length_singleton]; omega)
      rw [List.append_assoc] at ih
      refine Ev.step (fun k => ?_) ih
      rw [modillionref05_Out.l0, if_pos (by omega), if_pos (by omega), rdE7 l c hlt, if_pos h0, if_pos (by omega), wrapt (n := (c : Int) + 1) (by omega) (by omega)]
      rfl
    · rw [if_neg (by simp [h0])]
      refine Ev.step (fun k => ?_) (refout_l0 l hl n id d (c + 1) acc (by omega) (by omega) (by omega))
      rw [modillionref05_Out.l0, if_pos (by omega), if_pos (by omega), rdE7 l c hlt, if_neg h0, wrapt (n := (c : Int) + 1) (by omega) (by omega)]
      rfl
theorem refout_f {n : Int} {l : List VEdge} (hl : l.length ≤ 1000) (hb : badG n l = false) (hd : dupE l = false) (id : Int) : Ev (fun k => modillionref05_Out.f k n l id) (outV l id) := by
  obtain ⟨h1, h2, h3, h4⟩ := badG_not hb
  obtain ⟨m, rfl⟩ : ∃ m : Nat, n = (m : Int) := ⟨n.toNat, by omega⟩
  have hn : Ev (fun k => modillionref05_Norm.f k (m : Int) l) ((m : Int), sortE l) := by
    have := norm_l0 l hl m (by omega) m 0 [] (by omega) (by omega) (by simp)
    rw [List.nil_append, show ((0 : Nat) : Int) = 0 from rfl, grid_sort hb hd] at this
    exact this
  refine Ev.bind hn ?_
  have := refout_l0 (sortE l) (by unfold sortE; rw [List.length_mergeSort]; exact hl) (m : Int) id (sortE l).length 0 [] (by omega) (by omega) (by simp)
  rw [List.drop_zero, List.nil_append] at this
  exact this
end Go.Proofs.YtpndhkeoljoapaaGreat.Pure
