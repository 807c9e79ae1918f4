/- Plain lemmas about graphs: what the reference's check of a graph comes to. -/
import Derived.Test.YtpndhkeoljoapaaGreatPx
import Derived.WalkKit
namespace Go.Proofs.YtpndhkeoljoapaaGreat.Pure
open Go.RowKit Go.Proofs.YtpndhkeoljoapaaGreat.P Go.Proofs.YtpndhkeoljoapaaGreatW.PrintWords
abbrev Edge := S48
theorem wrapg {n : Int} (h1 : -9223372036854775808 ≤ n) (h2 : n < 9223372036854775808) : wrap64 n = n := by unfold wrap64; omega
def sameE (e y : Edge) : Bool := y.f0 == e.f0 && y.f1 == e.f1
theorem sameE_comm (e y : Edge) : sameE e y = sameE y e := by
  unfold sameE
  rw [Bool.eq_iff_iff]
  simp only [Bool.and_eq_true, beq_iff_eq]
  omega
def dupB : List Edge → List Edge → Bool
  | _, [] => false
  | pre, m :: r => pre.any (sameE m) || dupB (pre ++ [m]) r
theorem dupB_eq : ∀ (l pre : List Edge), dupB pre l = (l.any (fun m => pre.any (sameE m)) || dupE l)
  | [], pre => rfl
  | m :: r, pre => by
    rw [dupB, dupB_eq r, dupE, List.any_cons]
    have h1 : (r.any fun m' => (pre ++ [m]).any (sameE m')) = ((r.any fun m' => pre.any (sameE m')) || r.any (fun y => y.f0 == m.f0 && y.f1 == m.f1)) := by
      have h2 : (fun m' => (pre ++ [m]).any (sameE m')) = fun m' => (pre.any (sameE m') || sameE m m') := by
        funext m'
        rw [List.any_append, sameE_comm m m']
        simp
      rw [h2]
      generalize dupE r = q
      clear h2
      induction r with
      | nil => rfl
      | cons a r ih =>
        simp only [List.any_cons, ih]
        show (pre.any (sameE a) || sameE m a || _) = (pre.any (sameE a) || _ || (sameE m a || _))
        cases pre.any (sameE a) <;> cases sameE m a <;> simp
    rw [h1]
    cases pre.any (sameE m) <;> cases (r.any fun m' => pre.any (sameE m')) <;> cases (r.any fun y => y.f0 == m.f0 && y.f1 == m.f1) <;> rfl
theorem dupB_nil (l : List Edge) : dupB [] l = dupE l := by
  rw [dupB_eq]
  have : (l.any fun m => ([] : List Edge).any (sameE m)) = false := by
    rw [List.any_eq_false]
    intro x _
    simp
  rw [this, Bool.false_or]
theorem rdE (l : List Edge) (i : Nat) (h : i < l.length) : rd_T48 l (i : Int) = l[i] := by
  unfold rd_T48
  simp [List.getD_eq_getElem?_getD, List.getElem?_eq_getElem h]
theorem any_drop_take {α : Type} (p : α → Bool) (l : List α) (i j : Nat) (hj : j < i) (hi : i ≤ l.length) : ((l.take i).drop j).any p = (p (l[j]'(by omega)) || ((l.take i).drop (j + 1)).any p) := by
  rw [List.drop_eq_getElem_cons (by rw [List.length_take]; omega), List.any_cons, List.getElem_take]
theorem any_drop_self {α : Type} (p : α → Bool) (l : List α) (i : Nat) : ((l.take i).drop i).any p = false := by
  rw [List.drop_of_length_le (by rw [List.length_take]; omega)]
  rfl
theorem ref05_l1 (n : Int) (l : List Edge) (hl : l.length ≤ 1000000) (i : Nat) (hi : i < l.length) (r : Int) : ∀ (d j : Nat) (tw : Bool), i - j = d → j ≤ i → Ev (fun k => modillionref05_Check.l0 k (tw || ((l.take i).drop j).any (sameE l[i])) ((i + 1 : Nat) : Int) n l) r → Ev (fun k => modillionref05_Check.l1 k tw (i : Int) (j : Int) n l l[i].f0 l[i].f1 l[i].f2) r
  | 0, j, tw, hd, hj, h => by
    obtain rfl : j = i := by omega
    rw [any_drop_self, Bool.or_false] at h
    refine Ev.step (fun k => ?_) h
    rw [modillionref05_Check.l1, if_neg (by omega), wrapg (by omega) (by omega)]
    rfl
  | d + 1, j, tw, hd, hj, h => by
    rw [any_drop_take _ l i j (by omega) (by omega)] at h
    cases tw with
    | true =>
      refine Ev.step (fun k => ?_) (ref05_l1 n l hl i hi r d (j + 1) true (by omega) (by omega) (by simpa using h))
      rw [modillionref05_Check.l1, if_pos (by omega), if_pos rfl, wrapg (by omega) (by omega)]
      rfl
    | false =>
      refine Ev.step (fun k => ?_) (ref05_l1 n l hl i hi r d (j + 1) (sameE l[i] l[j]) (by omega) (by omega) (by simpa using h))
      rw [modillionref05_Check.l1, if_pos (by omega), if_neg (by decide), if_pos (by omega), if_pos (by omega), wrapg (by omega) (by omega), rdE l j (by omega)]
      unfold sameE
      by_cases hx : l[j].f0 = l[i].f0
      · rw [if_pos hx, hx]
        simp
      · rw [if_neg hx, beq_eq_false_iff_ne.mpr hx]
        rfl
theorem ref05_l0 (n : Int) (l : List Edge) (hl : l.length ≤ 1000000) : ∀ (d i : Nat) (tw : Bool), l.length - i = d → i ≤ l.length → Ev (fun k => modillionref05_Check.l0 k tw (i : Int) n l) (if (l.drop i).any (oddE n) = true then 50 else if (tw || dupB (l.take i) (l.drop i)) = true then 51 else 0)
  | 0, i, tw, hd, hi => by
    rw [List.drop_of_length_le (by omega), dupB, Bool.or_false]
    refine Ev.step (f := fun _ => some (if tw = true then 51 else 0)) (fun k => ?_) (Ev.now _)
    rw [modillionref05_Check.l0, if_neg (by omega)]
    cases tw <;> rfl
  | d + 1, i, tw, hd, hi => by
    have hlt : i < l.length := by omega
    have ih := ref05_l0 n l hl d (i + 1) (tw || ((l.take i).drop 0).any (sameE l[i])) (by omega) (by omega)
    have h1 := ref05_l1 n l hl i hlt _ i 0 tw (by omega) (by omega) ih
    rw [List.drop_eq_getElem_cons hlt, List.any_cons, dupB, ← List.take_succ_eq_append_getElem hlt]
    rw [List.drop_zero, Bool.or_assoc] at h1
    cases ho : oddE n l[i] with
    | true =>
      rw [Bool.true_or, if_pos rfl]
      have h50 : Ev (fun k => modillionref05_Check.j2 k tw (i : Int) true n l l[i].f0 l[i].f1 l[i].f2) 50 := Ev.step (f := fun _ => some 50) (fun k => by rw [modillionref05_Check.j2, if_pos rfl]) (Ev.now _)
      refine Ev.step (fun k => ?_) h50
      rw [modillionref05_Check.l0, if_pos (by omega), if_pos (by omega), rdE l i hlt]
      unfold oddE at ho
      simp only [Bool.or_eq_true, decide_eq_true_eq] at ho
      by_cases c1 : l[i].f0 < 0
      · rw [if_pos c1]
      · rw [if_neg c1]
        by_cases c2 : l[i].f0 ≥ n
        · rw [if_pos c2]
        · rw [if_neg c2]
          by_cases c3 : l[i].f1 < 0
          · rw [if_pos c3]
          · rw [if_neg c3]
            by_cases c4 : l[i].f1 ≥ n
            · rw [if_pos c4]
            · rw [if_neg c4]
              by_cases c5 : l[i].f2 < 0
              · rw [if_pos c5]
              · rw [if_neg c5, decide_eq_true (by omega)]
    | false =>
      rw [Bool.false_or]
      have hj2 := Ev.step (g := fun k => modillionref05_Check.j2 k tw (i : Int) false n l l[i].f0 l[i].f1 l[i].f2) (fun k => by rw [modillionref05_Check.j2, if_neg (by decide)]; rfl) h1
      refine Ev.step (fun k => ?_) hj2
      unfold oddE at ho
      simp only [Bool.or_eq_false_iff, decide_eq_false_iff_not] at ho
      rw [modillionref05_Check.l0, if_pos (by omega), if_pos (by omega), rdE l i hlt, if_neg (by omega), if_neg (by omega), if_neg (by omega), if_neg (by omega), if_neg (by omega), decide_eq_false (by omega)]
theorem ref05_check (n : Int) (l : List Edge) (hl : l.length ≤ 1000000) : Ev (fun k => modillionref05_Check.f k n l) (if badG n l = true then 50 else if dupE l = true then 51 else 0) := by
  have hj : Ev (fun k => modillionref05_Check.j0 k true n l) 50 := Ev.step (f := fun _ => some 50) (fun k => by rw [modillionref05_Check.j0, if_pos rfl]) (Ev.now _)
  unfold badG
  by_cases c1 : n < 1
  · rw [decide_eq_true c1, Bool.true_or, if_pos rfl]
    exact Ev.congr (fun k => by rw [modillionref05_Check.f, if_pos c1]) hj
  · rw [decide_eq_false c1, Bool.false_or]
    by_cases c2 : n > 64
    · rw [decide_eq_true c2, Bool.true_or, if_pos rfl]
      exact Ev.congr (fun k => by rw [modillionref05_Check.f, if_neg c1, if_pos c2]) hj
    · rw [decide_eq_false c2, Bool.false_or]
      by_cases c3 : (l.length : Int) > 512
      · rw [decide_eq_true c3, Bool.true_or, if_pos rfl]
        exact Ev.congr (fun k => by rw [modillionref05_Check.f, if_neg c1, if_neg c2, decide_eq_true c3]) hj
      · rw [decide_eq_false c3, Bool.false_or]
        have h0 := ref05_l0 n l hl l.length 0 false (by omega) (by omega)
        rw [List.drop_zero, List.take_zero, Bool.false_or, dupB_nil] at h0
        refine Ev.congr (f := fun k => modillionref05_Check.j0 k false n l) (fun k => by rw [modillionref05_Check.f, if_neg c1, if_neg c2, decide_eq_false c3]) ?_
        exact Ev.step (fun k => by rw [modillionref05_Check.j0, if_neg (by decide)]; rfl) h0
end Go.Proofs.YtpndhkeoljoapaaGreat.Pure
