/- The plain law: messages by workers are the reference's, and all of them are all. -/
import Derived.Test.YtgdkemgilmfkfaaPx
import Derived.Test.YtgdkemgilmfkfaaFoldAwake
import Derived.Test.YtgdkemgilmfkfaaFoldOwn
import Derived.Test.YtgdkemgilmfkfaaFoldSame
import Derived.Test.YtgdkemgilmfkfaaOwner
namespace Go.Proofs.Ytgdkemgilmfkfaa.Pure
open Go.RowKit Go.Proofs.Ytgdkemgilmfkfaa Go.Proofs.Ytgdkemgilmfkfaa.P Go.Proofs.YtgdkemgilmfkfaaW.PrintWords
theorem ownE_own (v k : Int) : ownE v k = PL.own v k := by unfold ownE; rw [PL.owner_f]; rfl
def lowB (k : Int) (n : Nat) (x : Msg) : Bool := decide (ownE x.f1 k < (n : Int))
theorem low_succ (k : Int) (n : Nat) (l : List Msg) : ((l.filter (lowB k n)) ++ l.filter (hisB k (n : Int))).Perm (l.filter (lowB k (n + 1))) := by
  have h := List.filter_append_perm (lowB k n) (l.filter (lowB k (n + 1)))
  rw [List.filter_filter, List.filter_filter] at h
  have e1 : (fun a => lowB k n a && lowB k (n + 1) a) = lowB k n := by
    funext x
    unfold lowB
    rw [Bool.eq_iff_iff]
    simp only [Bool.and_eq_true, decide_eq_true_eq]
    omega
  have e2 : (fun a => !lowB k n a && lowB k (n + 1) a) = hisB k (n : Int) := by
    funext x
    unfold lowB hisB
    rw [Bool.eq_iff_iff]
    simp only [Bool.and_eq_true, decide_eq_true_eq, Bool.not_eq_true', decide_eq_false_iff_not, beq_iff_eq]
    omega
  rw [e1, e2] at h
  exact h
theorem parts_perm (k : Int) (l : List Msg) (h0 : ∀ x ∈ l, 0 ≤ ownE x.f1 k) : ∀ n : Nat, (((List.range n).map (hisOf k l)).flatten).Perm (l.filter (lowB k n))
  | 0 => by
    have : l.filter (lowB k 0) = [] := by
      rw [List.filter_eq_nil_iff]
      intro x hx
      have := h0 x hx
      unfold lowB
      simp only [decide_eq_true_eq]
      omega
    rw [this]
    simp
  | n + 1 => by
    rw [List.range_succ, List.map_append, List.flatten_append]
    refine List.Perm.trans (List.Perm.append (parts_perm k l h0 n) ?_) (low_succ k n l)
    simp only [List.map_cons, List.map_nil, List.flatten_cons, List.flatten_nil, List.append_nil]
    exact sortMsg_perm _
theorem all_perm (n : Nat) (h1 : 1 ≤ n) (h2 : n ≤ 64) (l : List Msg) (hn : l.any negB = false) : (((List.range n).map (hisOf (n : Int) l)).flatten).Perm l := by
  have hr : ∀ x ∈ l, 0 ≤ ownE x.f1 (n : Int) ∧ ownE x.f1 (n : Int) < (n : Int) := fun x hx => by
    have := List.any_eq_false.1 hn x hx
    unfold negB at this
    rw [ownE_own]
    exact PL.own_range (by simpa using this) (by omega) (by omega)
  have h := parts_perm (n : Int) l (fun x hx => (hr x hx).1) n
  rwa [List.filter_eq_self.2 (fun x hx => by unfold lowB; exact decide_eq_true (hr x hx).2)] at h
/-- The reference's inner loop: one worker's. -/
theorem refsplit_l1 (a : Int) (h1 : 1 ≤ a) (h2 : a ≤ 64) (l : List Msg) (hl : l.length ≤ 1000000) (hw : ∀ x ∈ l, Open.wfM x) (out : List (List Msg)) (ho : out.length ≤ 1000) (v : Nat) (hv : v ≤ 1000) (hn : l.any negB = false) (r : List (List Msg) × Bool) : ∀ (d i : Nat) (his : List Msg), l.length - i = d → i ≤ l.length → his.length ≤ i → Ev (fun k => modillionref08_Split.l0 k a l (out ++ [sortMsg (his ++ (l.drop i).filter (hisB a (v : Int)))]) ((v + 1 : Nat) : Int)) r → Ev (fun k => modillionref08_Split.l1 k a l out (v : Int) his (i : Int)) r
  | 0, i, his, hd, hi, hh, h => by
    rw [List.drop_of_length_le (by omega), List.filter_nil, List.append_nil] at h
    refine Ev.step (fun k => ?_) h
    rw [modillionref08_Split.l1, if_neg (by omega), refsort_f _ (by omega), Option.bind_some, if_pos (by omega), wrap_id (by omega) (by omega)]
    rfl
  | d + 1, i, his, hd, hi, hh, h => by
    have hlt : i < l.length := by omega
    have hneg : ¬ (l[i].f1 < 0) := by
      have := List.any_eq_false.1 hn l[i] (List.getElem_mem hlt)
      unfold negB at this
      simpa using this
    have hmax : l[i].f1 ≤ 9223372036854775807 := (i64_of (hw l[i] (List.getElem_mem hlt)).2.1).2
    rw [filter_drop l i hlt] at h
    by_cases hq : hisB a (v : Int) l[i] = true
    · rw [if_pos hq] at h
      have ho : PL.own l[i].f1 a = (v : Int) := by unfold hisB at hq; rw [ownE_own] at hq; simpa using hq
      refine Ev.step (fun k => ?_) (refsplit_l1 a h1 h2 l hl hw out (by assumption) v hv hn r d (i + 1) (his ++ [l[i]]) (by omega) (by omega) (by simp; omega) (by simpa using h))
      rw [modillionref08_Split.l1, if_pos (by omega), if_pos (by omega), rd_msg l i hlt, if_neg hneg, PL.refowner_f _ _ hmax, Option.bind_some, if_pos ho, if_pos (by omega), wrap_id (by omega) (by omega)]
      rfl
    · rw [if_neg hq] at h
      have ho : ¬ PL.own l[i].f1 a = (v : Int) := by unfold hisB at hq; rw [ownE_own] at hq; simpa using hq
      refine Ev.step (fun k => ?_) (refsplit_l1 a h1 h2 l hl hw out (by assumption) v hv hn r d (i + 1) his (by omega) (by omega) (by omega) (by simpa using h))
      rw [modillionref08_Split.l1, if_pos (by omega), if_pos (by omega), rd_msg l i hlt, if_neg hneg, PL.refowner_f _ _ hmax, Option.bind_some, if_neg ho, wrap_id (by omega) (by omega)]
      rfl
theorem refsplit_neg (a : Int) (l : List Msg) (hl : l.length ≤ 1000000) (hw : ∀ x ∈ l, Open.wfM x) (out : List (List Msg)) (v : Nat) : ∀ (d i : Nat) (his : List Msg), l.length - i = d → i ≤ l.length → his.length ≤ i → (l.drop i).any negB = true → Ev (fun k => modillionref08_Split.l1 k a l out (v : Int) his (i : Int)) ([], false)
  | 0, i, his, hd, hi, hh, hn => by
    rw [List.drop_of_length_le (by omega)] at hn
    cases hn
  | d + 1, i, his, hd, hi, hh, hn => by
    have hlt : i < l.length := by omega
    rw [List.drop_eq_getElem_cons hlt, List.any_cons] at hn
    by_cases hneg : l[i].f1 < 0
    · refine Ev.step (f := fun _ => some ([], false)) (fun k => ?_) (Ev.now _)
      rw [modillionref08_Split.l1, if_pos (by omega), if_pos (by omega), rd_msg l i hlt, if_pos hneg]
    · have hn2 : (l.drop (i + 1)).any negB = true := by
        rw [show negB l[i] = false by unfold negB; exact decide_eq_false hneg, Bool.false_or] at hn
        exact hn
      have hmax : l[i].f1 ≤ 9223372036854775807 := (i64_of (hw l[i] (List.getElem_mem hlt)).2.1).2
      by_cases ho : PL.own l[i].f1 a = (v : Int)
      · refine Ev.step (fun k => ?_) (refsplit_neg a l hl hw out v d (i + 1) (his ++ [l[i]]) (by omega) (by omega) (by simp; omega) hn2)
        rw [modillionref08_Split.l1, if_pos (by omega), if_pos (by omega), rd_msg l i hlt, if_neg hneg, PL.refowner_f _ _ hmax, Option.bind_some, if_pos ho, if_pos (by omega), wrap_id (by omega) (by omega)]
        rfl
      · refine Ev.step (fun k => ?_) (refsplit_neg a l hl hw out v d (i + 1) his (by omega) (by omega) (by omega) hn2)
        rw [modillionref08_Split.l1, if_pos (by omega), if_pos (by omega), rd_msg l i hlt, if_neg hneg, PL.refowner_f _ _ hmax, Option.bind_some, if_neg ho, wrap_id (by omega) (by omega)]
        rfl
theorem refsplit_l0 (n : Nat) (h1 : 1 ≤ n) (h2 : n ≤ 64) (l : List Msg) (hl : l.length ≤ 1000000) (hw : ∀ x ∈ l, Open.wfM x) (hn : l.any negB = false) : ∀ (d v : Nat), n - v = d → v ≤ n → Ev (fun k => modillionref08_Split.l0 k (n : Int) l ((List.range v).map (hisOf (n : Int) l)) (v : Int)) ((List.range n).map (hisOf (n : Int) l), true)
  | 0, v, hd, hv => by
    obtain rfl : v = n := by omega
    refine Ev.step (f := fun _ => some _) (fun k => ?_) (Ev.now _)
    rw [modillionref08_Split.l0, if_neg (by omega)]
  | d + 1, v, hd, hv => by
    have ih := refsplit_l0 n h1 h2 l hl hw hn d (v + 1) (by omega) (by omega)
    rw [List.range_succ, List.map_append] at ih
    refine Ev.step (fun k => ?_) (refsplit_l1 (n : Int) (by omega) (by omega) l hl hw ((List.range v).map (hisOf (n : Int) l)) (by simp; omega) v (by omega) hn _ l.length 0 [] (by omega) (by omega) (by simp) ih)
    rw [modillionref08_Split.l0, if_pos (by omega)]
    rfl
/-- What the reference tells. -/
theorem refsplit (a : Int) (l : List Msg) (hl : l.length ≤ 1000000) (hw : ∀ x ∈ l, Open.wfM x) : Ev (fun k => modillionref08_Split.f k a l) (if (decide (a < 1) || (decide (a > 64) || l.any negB)) = true then ([], false) else ((List.range a.toNat).map (hisOf a l), true)) := by
  have hj : Ev (fun k => modillionref08_Split.j0 k a l true) ([], false) := Ev.step (f := fun _ => some _) (fun k => by rw [modillionref08_Split.j0, if_pos rfl]) (Ev.now _)
  by_cases h1 : a < 1
  · rw [decide_eq_true h1, Bool.true_or, if_pos rfl]
    exact Ev.congr (fun k => by rw [modillionref08_Split.f, if_pos h1]) hj
  · rw [decide_eq_false h1, Bool.false_or]
    by_cases h2 : a > 64
    · rw [decide_eq_true h2, Bool.true_or, if_pos rfl]
      exact Ev.congr (fun k => by rw [modillionref08_Split.f, if_neg h1, decide_eq_true h2]) hj
    · rw [decide_eq_false h2, Bool.false_or]
      obtain ⟨n, rfl⟩ : ∃ n : Nat, a = (n : Int) := ⟨a.toNat, by omega⟩
      refine Ev.congr (f := fun k => modillionref08_Split.j0 k (n : Int) l false) (fun k => by rw [modillionref08_Split.f, if_neg h1, decide_eq_false h2]) ?_
      refine Ev.step (f := fun k => modillionref08_Split.l0 k (n : Int) l [] 0) (fun k => by rw [modillionref08_Split.j0, if_neg (by decide)]) ?_
      cases hn : l.any negB with
      | false =>
        rw [if_neg (by decide), Int.toNat_natCast]
        exact refsplit_l0 n (by omega) (by omega) l hl hw hn n 0 (by omega) (by omega)
      | true =>
        rw [if_pos rfl]
        refine Ev.step (fun k => ?_) (refsplit_neg (n : Int) l hl hw [] 0 l.length 0 [] (by omega) (by omega) (by simp) hn)
        rw [modillionref08_Split.l0, if_pos (by omega)]
        rfl
theorem rd_l2 (s : List (List Msg)) (i : Nat) (h : i < s.length) : rd_L2 s (i : Int) = s[i] := by
  unfold rd_L2
  simp [List.getD_eq_getElem?_getD, List.getElem?_eq_getElem h]
theorem splits_l0 (l : List Msg) (hl : l.length ≤ 1000) (s : List (List Msg)) (hs : s.length ≤ 1000) : ∀ (d i : Nat) (all : List Msg), s.length - i = d → i ≤ s.length → (all ++ (s.drop i).flatten).Perm l → Ev (fun k => modillionlaw08_FoldSplits.l0 k l s s all (i : Int)) true
  | 0, i, all, hd, hi, hp => by
    rw [List.drop_of_length_le (by omega), List.flatten_nil, List.append_nil] at hp
    have hlen := hp.length_eq
    refine Ev.step (fun k => ?_) (same_ev (sortMsg l) (by rw [sortMsg_len]; omega))
    rw [modillionlaw08_FoldSplits.l0, if_neg (by omega), refsort_f _ (by omega), Option.bind_some, refsort_f _ (by omega), Option.bind_some, sort_of_perm hp]
    cases modillionref07_Same.f k (sortMsg l) (sortMsg l) <;> rfl
  | d + 1, i, all, hd, hi, hp => by
    have hlt : i < s.length := by omega
    rw [List.drop_eq_getElem_cons hlt, List.flatten_cons] at hp
    have hlen := hp.length_eq
    simp only [List.length_append] at hlen
    have ih := splits_l0 l hl s hs d (i + 1) (all ++ s[i]) (by omega) (by omega) (by simpa using hp)
    refine Ev.step (fun k => by rw [modillionlaw08_FoldSplits.l0, if_pos (by omega), if_pos (by omega), if_pos (by omega), rd_l2 s i hlt]) ?_
    refine Ev.bind (same_ev s[i] (by omega)) ?_
    refine Ev.congr (fun k => ?_) ih
    rw [if_pos rfl, if_pos (by omega), wrap_id (by omega) (by omega)]
    rfl
theorem splits_j0 (a : Int) (l : List Msg) (hl : l.length ≤ 40) (hw : ∀ x ∈ l, Open.wfM x) : Ev (fun k => modillionlaw08_FoldSplits.j0 k a l false) true := by
  have hf : fold_Split.f a l = some (if (decide (a < 1) || (decide (a > 64) || l.any negB)) = true then ([], 80) else ((List.range a.toNat).map (hisOf a l), 0)) := by
    unfold fold_Split.f
    rw [if_pos (by omega)]
    cases (decide (a < 1) || (decide (a > 64) || l.any negB)) <;> rfl
  refine Ev.step (fun k => by rw [modillionlaw08_FoldSplits.j0, if_neg (by decide), own_f l (by omega), Option.bind_some, hf, Option.bind_some]) ?_
  refine Ev.bind (refsplit a l (by omega) hw) ?_
  cases hb : (decide (a < 1) || (decide (a > 64) || l.any negB)) with
  | true => simpa using Ev.now true
  | false =>
    simp only [Bool.or_eq_false_iff, decide_eq_false_iff_not] at hb
    obtain ⟨n, rfl⟩ : ∃ n : Nat, a = (n : Int) := ⟨a.toNat, by omega⟩
    have hp := all_perm n (by omega) (by omega) l hb.2.2
    have hs : ((List.range (n : Int).toNat).map (hisOf (n : Int) l)).length = n := by simp
    have h0 := splits_l0 l (by omega) ((List.range (n : Int).toNat).map (hisOf (n : Int) l)) (by omega) n 0 [] (by omega) (by omega) (by simpa using hp)
    rw [if_neg (by decide), if_neg (by decide)]
    refine Ev.congr (f := fun k => modillionlaw08_FoldSplits.j1 k l ((List.range (n : Int).toNat).map (hisOf (n : Int) l)) ((List.range (n : Int).toNat).map (hisOf (n : Int) l)) false) (fun k => by simp) ?_
    exact Ev.step (fun k => by rw [modillionlaw08_FoldSplits.j1, if_neg (by decide)]; rfl) h0
theorem FoldSplits : ∀ (a0 : Int) (l1 : List P.S41), (Lit.int .i64 a0).wf = true → (∀ x ∈ l1, Open.wfM x) → ∃ k, P.modillionlaw08_FoldSplits.f k a0 l1 = some true := by
  intro a l _ hw
  apply Ev.rounds
  by_cases h : (l.length : Int) > 40
  · refine Ev.congr (fun k => by rw [modillionlaw08_FoldSplits.f, awakes_f, Option.bind_some, if_pos rfl, decide_eq_true h]) ?_
    exact Ev.step (f := fun _ => some true) (fun k => by rw [modillionlaw08_FoldSplits.j0, if_pos rfl, awakes_f]; rfl) (Ev.now _)
  · exact Ev.congr (fun k => by rw [modillionlaw08_FoldSplits.f, awakes_f, Option.bind_some, if_pos rfl, decide_eq_false h]) (splits_j0 a l (by omega) hw)
end Go.Proofs.Ytgdkemgilmfkfaa.Pure
