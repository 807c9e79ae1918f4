/- The plain law: in order is in order, by To, From and Val; all are there. -/
import Derived.Test.YtgdkemgilmfkfaaFoldAwake
import Derived.Test.YtgdkemgilmfkfaaFoldOwn
import Derived.Test.YtgdkemgilmfkfaaFoldSame
namespace Go.Proofs.Ytgdkemgilmfkfaa.Pure
open Go.RowKit Go.Proofs.Ytgdkemgilmfkfaa Go.Proofs.Ytgdkemgilmfkfaa.P Go.Proofs.YtgdkemgilmfkfaaW.PrintWords
def eqm (y x : Msg) : Bool := x.f0 == y.f0 && (x.f1 == y.f1 && x.f2 == y.f2)
theorem rises_l0 (l s : List Msg) (hs : s.length ≤ 1000) (ho : ∀ (i : Nat) (h : i + 1 < s.length), leMsg s[i] s[i + 1]) (r : Bool) (h1 : Ev (fun k => modillionlaw08_FoldRises.l1 k l s 0) r) : ∀ (d i : Nat), s.length - i = d → 1 ≤ i → Ev (fun k => modillionlaw08_FoldRises.l0 k l s (i : Int)) r
  | 0, i, hd, hi => by
    refine Ev.step (fun k => ?_) h1
    rw [modillionlaw08_FoldRises.l0, if_neg (by omega)]
  | d + 1, i, hd, hi => by
    refine Ev.step (fun k => ?_) (rises_l0 l s hs ho r h1 d (i + 1) (by omega) (by omega))
    have hlt : i < s.length := by omega
    have hle := ho (i - 1) (by omega)
    simp only [show i - 1 + 1 = i by omega] at hle
    unfold leMsg at hle
    rw [ltMsg_not] at hle
    rw [modillionlaw08_FoldRises.l0, if_pos (by omega), wrap_id (n := (i : Int) - 1) (by omega) (by omega), wrap_id (n := (i : Int) + 1) (by omega) (by omega), if_pos (by omega), if_pos (by omega), if_pos (by omega), show (i : Int) - 1 = ((i - 1 : Nat) : Int) by omega, rd_msg s (i - 1) (by omega), rd_msg s i hlt]
    generalize s[i - 1] = a at hle ⊢
    generalize s[i] = b at hle ⊢
    rw [if_neg (by omega)]
    by_cases q1 : a.f1 = b.f1
    · rw [if_pos q1, if_neg (by omega)]
      by_cases q0 : a.f0 = b.f0
      · rw [if_pos q0, if_neg (by omega)]
        rfl
      · rw [if_neg q0]
        rfl
    · rw [if_neg q1]
      rfl
theorem rises_l2 (l s : List Msg) (hl : l.length ≤ 1000) (hls : s.length = l.length) (i : Nat) (hi : i < l.length) (r : Bool) (hr : Ev (fun k => modillionlaw08_FoldRises.l1 k l s ((i + 1 : Nat) : Int)) r) : ∀ (d j a b : Nat), l.length - j = d → j ≤ l.length → a ≤ j → b ≤ j → a + (l.drop j).countP (eqm l[i]) = b + (s.drop j).countP (eqm l[i]) → Ev (fun k => modillionlaw08_FoldRises.l2 k l s (i : Int) (a : Int) (b : Int) (j : Int)) r
  | 0, j, a, b, hd, hj, ha, hb, h => by
    refine Ev.step (fun k => ?_) hr
    rw [List.drop_of_length_le (by omega), List.drop_of_length_le (by omega)] at h
    simp only [List.countP_nil, Nat.add_zero] at h
    rw [modillionlaw08_FoldRises.l2, if_neg (by omega), if_pos (by omega), wrap_id (by omega) (by omega)]
    rfl
  | d + 1, j, a, b, hd, hj, ha, hb, h => by
    have hlt : j < l.length := by omega
    have hls' : j < s.length := by omega
    rw [List.drop_eq_getElem_cons hlt, List.drop_eq_getElem_cons hls', List.countP_cons, List.countP_cons] at h
    refine Ev.step (fun k => ?_) (rises_l2 l s hl hls i hi r hr d (j + 1) (a + if eqm l[i] l[j] = true then 1 else 0) (b + if eqm l[i] s[j] = true then 1 else 0) (by omega) (by omega) (by split <;> omega) (by split <;> omega) (by omega))
    rw [modillionlaw08_FoldRises.l2, if_pos (by omega), if_pos (by omega), if_pos (by omega), if_pos (by omega), rd_msg l j hlt, rd_msg l i hi, rd_msg s j hls', wrap_id (n := (j : Int) + 1) (by omega) (by omega), wrap_id (n := (a : Int) + 1) (by omega) (by omega), wrap_id (n := (b : Int) + 1) (by omega) (by omega)]
    show (if eqm l[i] l[j] = true then (if (j : Int) < (s.length : Int) then (if eqm l[i] s[j] = true then _ else _) else _) else (if (j : Int) < (s.length : Int) then (if eqm l[i] s[j] = true then _ else _) else _)) = _
    rw [if_pos (show (j : Int) < (s.length : Int) by omega), if_pos (show (j : Int) < (s.length : Int) by omega)]
    cases eqm l[i] l[j] <;> cases eqm l[i] s[j] <;> rfl
theorem rises_l1 (l s : List Msg) (hl : l.length ≤ 1000) (hp : s.Perm l) (hs : sortMsg s = s) : ∀ (d i : Nat), l.length - i = d → i ≤ l.length → Ev (fun k => modillionlaw08_FoldRises.l1 k l s (i : Int)) true
  | 0, i, hd, hi => by
    have he := hp.length_eq
    refine Ev.step (f := fun k => (modillionref07_Same.f k s s).bind fun t => some t) (fun k => ?_) (Ev.bind (same_ev s (by omega)) (Ev.now _))
    rw [modillionlaw08_FoldRises.l1, if_neg (by omega), if_pos (by omega), sort_f s (by omega), Option.bind_some, hs]
  | d + 1, i, hd, hi => by
    have he := hp.length_eq
    refine Ev.step (f := fun k => modillionlaw08_FoldRises.l2 k l s (i : Int) ((0 : Nat) : Int) ((0 : Nat) : Int) ((0 : Nat) : Int)) (fun k => ?_) (rises_l2 l s hl he i (by omega) true (rises_l1 l s hl hp hs d (i + 1) (by omega) (by omega)) l.length 0 0 0 (by omega) (by omega) (by omega) (by omega) ?_)
    · rw [modillionlaw08_FoldRises.l1, if_pos (by omega)]
      rfl
    · rw [List.drop_zero, List.drop_zero, hp.countP_eq]
theorem FoldRises : ∀ (l0 : List P.S41), (∀ x ∈ l0, Open.wfM x) → ∃ k, P.modillionlaw08_FoldRises.f k l0 = some true := by
  intro l _
  refine Ev.rounds ?_
  unfold modillionlaw08_FoldRises.f
  refine Ev.congr (f := fun k => modillionlaw08_FoldRises.j0 k l (decide ((l.length : Int) > 40))) (fun k => ?_) ?_
  · rw [awakes_f, Option.bind_some, if_pos rfl]
  by_cases hl : (l.length : Int) > 40
  · refine Ev.step (fun k => ?_) (Ev.now _)
    rw [modillionlaw08_FoldRises.j0, decide_eq_true hl, if_pos rfl, awakes_f]
    rfl
  · have hp := sortMsg_perm l
    have he := hp.length_eq
    refine Ev.step (f := fun k => modillionlaw08_FoldRises.l0 k l (sortMsg l) ((1 : Nat) : Int)) (fun k => ?_) (rises_l0 l (sortMsg l) (by omega) (fun i h => List.pairwise_iff_getElem.mp (sortMsg_sorted l) i (i + 1) (by omega) h (by omega)) true (rises_l1 l (sortMsg l) (by omega) hp (sort_of_perm hp) l.length 0 (by omega) (by omega)) _ 1 rfl (by omega))
    rw [modillionlaw08_FoldRises.j0, decide_eq_false hl, if_neg (by decide), own_f l (by omega), Option.bind_some, sort_f l (by omega), Option.bind_some]
    rfl
end Go.Proofs.Ytgdkemgilmfkfaa.Pure
