/- Several texts of this claim, joined. No condition. -/
import Derived.Test.YtpndhkeoljoapaaGreatSeqRun
import Derived.Test.YtpndhkeoljoapaaGreatKnown9All
import Derived.Test.YtpndhkeoljoapaaGreatOutB
section
/- Plain lemmas: what Next leaves of each vertex. -/
namespace Go.Proofs.YtpndhkeoljoapaaGreat.Pure
open Go Go.RowKit Go.Proofs.YtpndhkeoljoapaaGreat.P Go.Proofs.YtpndhkeoljoapaaGreatW.PrintWords Go.Proofs.YtpndhkeoljoapaaGreatW.PrintLast Go.Proofs.YtpndhkeoljoapaaGreatW.PrintMore
set_option linter.unusedVariables false
set_option linter.unusedSimpArgs false
theorem stepsR_ok (F : VVert → StepR) : ∀ (vs o : List VVert) (s : List VMsg), (stepsR F vs o s).2.2 = 0 → (stepsR F vs o s).1 = o ++ vs.map (fun y => vxOf (F y)) ∧ (stepsR F vs o s).2.1 = s ++ vs.flatMap (fun y => (F y).2.2.2.2.2.1) ∧ ∀ y ∈ vs, (F y).2.2.2.2.2.2 = 0
  | [], o, s, h => by
    refine ⟨?_, ?_, fun y hy => by cases hy⟩
    · rw [List.map_nil, List.append_nil]; rfl
    · rw [List.flatMap_nil, List.append_nil]; rfl
  | y :: r, o, s, h => by
    rw [stepsR] at h ⊢
    by_cases he : (F y).2.2.2.2.2.2 = 0
    · rw [if_pos he] at h ⊢
      obtain ⟨h1, h2, h3⟩ := stepsR_ok F r _ _ h
      refine ⟨?_, ?_, fun z hz => ?_⟩
      · rw [h1, List.map_cons, List.append_assoc]; rfl
      · rw [h2, List.flatMap_cons, List.append_assoc]
      · rcases List.mem_cons.mp hz with rfl | hz
        · exact he
        · exact h3 z hz
    · rw [if_neg he] at h
      exact absurd h he
end Go.Proofs.YtpndhkeoljoapaaGreat.Pure
end
section
/- Plain lemmas: two values as one are the document's. -/
namespace Go.Proofs.YtpndhkeoljoapaaGreat.Pure
open Go Go.RowKit Go.Proofs.YtpndhkeoljoapaaGreat.P Go.Proofs.YtpndhkeoljoapaaGreatW.PrintWords Go.Proofs.YtpndhkeoljoapaaGreatW.PrintLast Go.Proofs.YtpndhkeoljoapaaGreatW.PrintMore
set_option linter.unusedVariables false
set_option linter.unusedSimpArgs false
theorem refgreat_f (v : Int) : modillionref07_Great.f v = some (bigB v) := by
  unfold modillionref07_Great.f bigB
  by_cases h : v > 1125899906842624
  · rw [if_pos h, decide_eq_true h]; rfl
  · rw [if_neg h, decide_eq_false h]; rfl
def outP (v : Int) : Int × Int := if bigB v = true then (0, 71) else (v, 0)
theorem reffold_j2 (k : Nat) (b n : Int) (q : Bool) : modillionref07_Fold.j2 (k + 1) b n q = some (outP (if q = true then b else n)) := by
  rw [modillionref07_Fold.j2, refgreat_f, refgreat_f]
  unfold outP
  cases q with
  | true => rw [if_pos rfl, if_pos rfl, Option.bind_some]; cases bigB b <;> rfl
  | false => rw [if_neg Bool.false_ne_true, if_neg Bool.false_ne_true, Option.bind_some]; cases bigB n <;> rfl
theorem reffold_j1 (k : Nat) (s : ByteArray) (a b n : Int) (q : Bool) : modillionref07_Fold.j1 (k + 2) s a b n q = some (outP (if q = true then a else if (s.toList == tMax || (s.toList == tLabel || (s.toList == tSssp || s.toList == tBfs))) = true then b else n)) := by
  rw [modillionref07_Fold.j1, refgreat_f]
  cases q with
  | true => rw [if_pos rfl, if_pos rfl, Option.bind_some]; unfold outP; cases bigB a <;> rfl
  | false =>
    rw [if_neg Bool.false_ne_true, if_neg Bool.false_ne_true]
    generalize s.toList = t
    rw [reffold_j2, reffold_j2]
    by_cases c1 : t = tMax
    · rw [c1]; rfl
    rw [if_neg c1, beq_eq_false_iff_ne.mpr c1]
    by_cases c2 : t = tLabel
    · rw [c2]; rfl
    rw [if_neg c2, beq_eq_false_iff_ne.mpr c2]
    by_cases c3 : t = tSssp
    · rw [c3]; rfl
    rw [if_neg c3, beq_eq_false_iff_ne.mpr c3]
    rfl
theorem reffold (s : ByteArray) (a b : Int) (k : Nat) : modillionref07_Fold.f (k + 3) s a b = some (foldA s.toList a b) := by
  unfold modillionref07_Fold.f foldA
  rw [refknown_f, Option.bind_some]
  cases hk : knownB s.toList with
  | false => rfl
  | true =>
    rw [if_pos rfl, if_pos rfl, refgreat_f, refgreat_f, Option.bind_some]
    unfold foldP
    cases ha : bigB a with
    | true => rw [if_pos rfl, modillionref07_Fold.j0]; rfl
    | false =>
      rw [if_neg Bool.false_ne_true, Option.bind_some, Bool.false_or, modillionref07_Fold.j0]
      cases hb : bigB b with
      | true => rfl
      | false =>
        rw [if_neg Bool.false_ne_true, if_neg Bool.false_ne_true]
        have h1 := big_not ha
        have h2 := big_not hb
        rw [wrapt (by omega) (by omega)]
        simp only [reffold_j1]
        unfold foldV mx mn
        have e : ∀ v, (if bigB v = true then ((0 : Int), (71 : Int)) else (v, 0)) = outP v := fun _ => rfl
        rw [e]
        generalize s.toList = t at hk ⊢
        by_cases c1 : t = tMax
        · subst c1
          rw [if_pos rfl, if_pos rfl]
          by_cases g : a ≥ b
          · rw [if_pos g, show (if a < b then b else a) = a from if_neg (by omega)]; rfl
          · rw [if_neg g, show (if a < b then b else a) = b from if_pos (by omega)]; rfl
        by_cases c2 : t = tLabel
        · subst c2
          have f1 : (if tLabel = tMax then (if a < b then b else a) else if (tLabel == tLabel || (tLabel == tSssp || tLabel == tBfs)) = true then (if b < a then b else a) else a + b) = if b < a then b else a := rfl
          rw [f1, if_neg (by decide), if_pos rfl]
          by_cases g : a ≤ b
          · rw [decide_eq_true g, show (if b < a then b else a) = a from if_neg (by omega)]; rfl
          · rw [decide_eq_false g, show (if b < a then b else a) = b from if_pos (by omega)]; rfl
        by_cases c3 : t = tSssp
        · subst c3
          have f1 : (if tSssp = tMax then (if a < b then b else a) else if (tSssp == tLabel || (tSssp == tSssp || tSssp == tBfs)) = true then (if b < a then b else a) else a + b) = if b < a then b else a := rfl
          rw [f1, if_neg (by decide), if_neg (by decide), if_pos rfl]
          by_cases g : a ≤ b
          · rw [decide_eq_true g, show (if b < a then b else a) = a from if_neg (by omega)]; rfl
          · rw [decide_eq_false g, show (if b < a then b else a) = b from if_pos (by omega)]; rfl
        by_cases c4 : t = tBfs
        · subst c4
          have f1 : (if tBfs = tMax then (if a < b then b else a) else if (tBfs == tLabel || (tBfs == tSssp || tBfs == tBfs)) = true then (if b < a then b else a) else a + b) = if b < a then b else a := rfl
          rw [f1, if_neg (by decide), if_neg (by decide), if_neg (by decide), if_pos rfl]
          by_cases g : a ≤ b
          · rw [decide_eq_true g, show (if b < a then b else a) = a from if_neg (by omega)]; rfl
          · rw [decide_eq_false g, show (if b < a then b else a) = b from if_pos (by omega)]; rfl
        rw [if_neg c1, if_neg c1, if_neg c2, if_neg c3, if_neg c4, beq_eq_false_iff_ne.mpr c1, beq_eq_false_iff_ne.mpr c2, beq_eq_false_iff_ne.mpr c3, beq_eq_false_iff_ne.mpr c4]
        rfl
end Go.Proofs.YtpndhkeoljoapaaGreat.Pure
end
