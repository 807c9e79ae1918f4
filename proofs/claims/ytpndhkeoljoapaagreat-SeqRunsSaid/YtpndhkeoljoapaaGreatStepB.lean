/- Plain lemmas about a vertex's step: what prog.Step comes to, by the few ways that there are. -/
import Derived.Test.YtpndhkeoljoapaaGreatTag
namespace Go.Proofs.YtpndhkeoljoapaaGreat.Pure
open Go Go.RowKit Go.Proofs.YtpndhkeoljoapaaGreat.P Go.Proofs.YtpndhkeoljoapaaGreatW.PrintWords Go.Proofs.YtpndhkeoljoapaaGreatW.PrintLast Go.Proofs.YtpndhkeoljoapaaGreatW.PrintMore
set_option linter.unusedVariables false
set_option linter.unusedSimpArgs false
abbrev VEdge := S48
abbrev VMsg := S61
/-- May a job be, on a graph? -/
def jobB (n : Int) (l : List VEdge) (t : List UInt8) (src steps : Int) : Bool := !badG n l && (!dupE l && (knownB t && (decide (0 ≤ src) && (decide (src < n) && (decide (1 ≤ steps) && decide (steps ≤ 64))))))
theorem job_of {n : Int} {l : List VEdge} {t : List UInt8} {src steps : Int} (h : jobB n l t src steps = true) : badG n l = false ∧ dupE l = false ∧ knownB t = true ∧ 0 ≤ src ∧ src < n ∧ 1 ≤ steps ∧ steps ≤ 64 := by
  unfold jobB at h
  simpa only [Bool.and_eq_true, Bool.not_eq_true', decide_eq_true_eq] using h
theorem check_f (n : Int) (l : List VEdge) (tag : ByteArray) (src steps : Int) (h : l.length ≤ 1000) (k : Nat) : prog_Check.f (k + 8) n l tag src steps = some (if jobB n l tag.toList src steps = true then 0 else 70) := by
  unfold prog_Check.f graph_Check.f jobB
  rw [if_pos (show l.length ≤ 9223372036854775806 by omega), known_f]
  cases badG n l with
  | true => rfl
  | false =>
    cases dupE l with
    | true => rfl
    | false =>
      cases knownB tag.toList with
      | false => rfl
      | true =>
        show (if src < 0 then (some 70 : Option Int) else if src ≥ n then some 70 else if steps < 1 then some 70 else if steps > 64 then some 70 else some 0) = some (if (decide (0 ≤ src) && (decide (src < n) && (decide (1 ≤ steps) && decide (steps ≤ 64)))) = true then 0 else 70)
        simp only [Bool.and_eq_true, decide_eq_true_eq]
        by_cases h1 : src < 0
        · rw [if_pos h1, if_neg (by omega)]
        · rw [if_neg h1]
          by_cases h2 : src ≥ n
          · rw [if_pos h2, if_neg (by omega)]
          · rw [if_neg h2]
            by_cases h3 : steps < 1
            · rw [if_pos h3, if_neg (by omega)]
            · rw [if_neg h3]
              by_cases h4 : steps > 64
              · rw [if_pos h4, if_neg (by omega)]
              · rw [if_neg h4, if_pos (by omega)]
/-- What a step comes to: a vertex, what it sends, an error. -/
abbrev StepR := Int × Int × Bool × Bool × Int × List VMsg × Int
def stepR (n : Int) (l : List VEdge) (t : List UInt8) (src steps at_ id val : Int) (act has : Bool) (inn : Int) : StepR :=
  if jobB n l t src steps = true then
    if id < 0 ∨ id ≥ n ∨ at_ < 0 ∨ at_ ≥ steps then (0, 0, false, false, 0, [], 70)
    else if (bigS val || bigS inn) = true then (0, 0, false, false, 0, [], 71)
    else if (!act && !has) = true then (id, val, act, has, inn, [], 0)
    else goesV l t src steps at_ id val has (if has = true then inn else 0)
  else (0, 0, false, false, 0, [], 70)
theorem step_f (n : Int) (l : List VEdge) (tag : ByteArray) (src steps at_ id val : Int) (act has : Bool) (inn : Int) (h : l.length ≤ 1000) : prog_Step.f n l tag src steps at_ id val act has inn = some (stepR n l tag.toList src steps at_ id val act has inn) := by
  unfold prog_Step.f stepR
  rw [show (20 : Nat) = 12 + 8 from rfl, check_f n l tag src steps h 12, Option.bind_some]
  cases jobB n l tag.toList src steps with
  | false => rfl
  | true =>
    rw [if_pos rfl, if_pos rfl, if_pos rfl]
    by_cases h1 : id < 0 ∨ id ≥ n ∨ at_ < 0 ∨ at_ ≥ steps
    · rw [if_pos h1, if_pos h1]
    · rw [if_neg h1, if_neg h1]
      cases (bigS val || bigS inn) with
      | true => rfl
      | false => cases act <;> cases has <;> rfl
/-- The edges that go out of a vertex, in order. -/
def outV (l : List VEdge) (id : Int) : List VEdge := (sortE l).filter fun e => e.f0 == id
theorem out_len (l : List VEdge) (id : Int) : (outV l id).length ≤ l.length := by
  unfold outV
  refine Nat.le_trans (List.length_filter_le _ _) ?_
  unfold sortE
  rw [List.length_mergeSort]
  exact Nat.le_refl _
theorem out_mem {l : List VEdge} {id : Int} {e : VEdge} (h : e ∈ outV l id) : e ∈ l ∧ e.f0 = id := by
  unfold outV at h
  obtain ⟨h1, h2⟩ := List.mem_filter.mp h
  unfold sortE at h1
  exact ⟨List.mem_mergeSort.mp h1, by simpa using h2⟩
/-- The three ways of a step: an error, nothing to be done, a step. -/
theorem step_ways (n : Int) (l : List VEdge) (t : List UInt8) (src steps at_ id val : Int) (act has : Bool) (inn : Int) :
    (∃ e, e ≠ 0 ∧ stepR n l t src steps at_ id val act has inn = (0, 0, false, false, 0, [], e)) ∨
    (act = false ∧ has = false ∧ stepR n l t src steps at_ id val act has inn = (id, val, act, has, inn, [], 0)) ∨
    ((act || has) = true ∧ jobB n l t src steps = true ∧ (0 ≤ id ∧ id < n ∧ 0 ≤ at_ ∧ at_ < steps) ∧ bigS val = false ∧ bigS inn = false ∧
      ∃ s, s = stepV t src steps at_ id val has (if has = true then inn else 0) ((outV l id).length : Int) ∧ stepR n l t src steps at_ id val act has inn = (id, s.1, s.2.1, false, 0, (if s.2.2.1 = true then (outV l id).map (sendV t id s.2.2.2) else []), 0)) := by
  unfold stepR
  cases hj : jobB n l t src steps with
  | false => exact Or.inl ⟨70, by decide, rfl⟩
  | true =>
    rw [if_pos rfl]
    by_cases h1 : id < 0 ∨ id ≥ n ∨ at_ < 0 ∨ at_ ≥ steps
    · rw [if_pos h1]
      exact Or.inl ⟨70, by decide, rfl⟩
    · rw [if_neg h1]
      cases hv : bigS val with
      | true => exact Or.inl ⟨71, by decide, rfl⟩
      | false =>
        cases hi : bigS inn with
        | true => exact Or.inl ⟨71, by decide, rfl⟩
        | false =>
          rw [Bool.or_false, if_neg Bool.false_ne_true]
          cases hq : (act || has) with
          | false =>
            obtain ⟨rfl, rfl⟩ := Bool.or_eq_false_iff.mp hq
            exact Or.inr (Or.inl ⟨rfl, rfl, rfl⟩)
          | true =>
            rw [← Bool.not_or, hq, Bool.not_true, if_neg Bool.false_ne_true]
            unfold goesV
            show _ ∨ _ ∨ _
            by_cases hf : (bigS (stepV t src steps at_ id val has (if has = true then inn else 0) ((outV l id).length : Int)).1 || (if (stepV t src steps at_ id val has (if has = true then inn else 0) ((outV l id).length : Int)).2.2.1 = true then (outV l id).map (sendV t id (stepV t src steps at_ id val has (if has = true then inn else 0) ((outV l id).length : Int)).2.2.2) else []).any fun m => bigS m.f2) = true
            · exact Or.inl ⟨71, by decide, if_pos hf⟩
            · exact Or.inr (Or.inr ⟨rfl, rfl, ⟨by omega, by omega, by omega, by omega⟩, rfl, rfl, _, rfl, if_neg hf⟩)
end Go.Proofs.YtpndhkeoljoapaaGreat.Pure
