/- Plain lemmas: the document's step is the program's. -/
import Derived.Test.YtdmihkffjbapjaaRefOut
import Derived.Test.YtdmihkffjbapjaaGraphRef
import Derived.Test.YtdmihkffjbapjaaKnownProg
namespace Go.Proofs.Ytdmihkffjbapjaa.Pure
open Go Go.RowKit Go.Proofs.Ytdmihkffjbapjaa.P Go.Proofs.YtdmihkffjbapjaaW.PrintWords Go.Proofs.YtdmihkffjbapjaaW.PrintLast Go.Proofs.YtdmihkffjbapjaaW.PrintMore
set_option linter.unusedVariables false
set_option linter.unusedSimpArgs false
theorem refright_f (n : Int) (l : List VEdge) (tag : ByteArray) (src steps : Int) (hl : l.length ≤ 1000) : Ev (fun k => modillionref07_Right.f k n l tag src steps) (jobB n l tag.toList src steps) := by
  refine Ev.bind (ref05_check n l (by omega)) ?_
  unfold jobB
  cases badG n l with
  | true => exact Ev.congr (fun k => if_neg (by rw [if_pos rfl]; decide)) (Ev.now _)
  | false =>
    cases dupE l with
    | true => exact Ev.congr (fun k => if_neg (by decide)) (Ev.now _)
    | false =>
      refine Ev.congr (f := fun _ => some (knownB tag.toList && (decide (0 ≤ src) && (decide (src < n) && (decide (1 ≤ steps) && decide (steps ≤ 64)))))) (fun k => ?_) (Ev.now _)
      rw [if_pos (by decide), refknown_f, Option.bind_some]
      cases knownB tag.toList with
      | false => rfl
      | true =>
        rw [if_pos rfl, Bool.true_and]
        by_cases h1 : src ≥ 0
        · rw [if_pos h1, decide_eq_true (show 0 ≤ src from h1), Bool.true_and]
          by_cases h2 : src < n
          · rw [if_pos h2, decide_eq_true h2, Bool.true_and]
            by_cases h3 : steps ≥ 1
            · rw [if_pos h3, decide_eq_true (show 1 ≤ steps from h3), Bool.true_and]
            · rw [if_neg h3, decide_eq_false (show ¬ 1 ≤ steps from h3), Bool.false_and]
          · rw [if_neg h2, decide_eq_false h2, Bool.false_and]
        · rw [if_neg h1, decide_eq_false (show ¬ 0 ≤ src from h1), Bool.false_and]
theorem refbig_f (v : Int) : modillionref07_Great.f v = some (bigS v) := by
  unfold modillionref07_Great.f bigS
  by_cases h : v > 1125899906842624
  · rw [if_pos h, decide_eq_true h]; rfl
  · rw [if_neg h, decide_eq_false h]; rfl
theorem refstep_l0 (ms : List VMsg) (hm : ms.length ≤ 1000) (y0 y1 : Int) (y2 y3 : Bool) (y4 : Int) : ∀ (d i : Nat) (fl : Bool), ms.length - i = d → i ≤ ms.length → Ev (fun k => modillionref07_Step.l0 k ms fl (i : Int) y0 y1 y2 y3 y4) (if (fl || (ms.drop i).any fun m => bigS m.f2) = true then (0, 0, false, false, 0, [], 71) else (y0, y1, y2, y3, y4, ms, 0))
  | 0, i, fl, hd, hi => by
    rw [List.drop_of_length_le (by omega), List.any_nil, Bool.or_false]
    refine Ev.step (fun k => ?_) (Ev.now _)
    rw [modillionref07_Step.l0, if_neg (by omega)]
    cases fl <;> rfl
  | d + 1, i, fl, hd, hi => by
    have hlt : i < ms.length := by omega
    rw [List.drop_eq_getElem_cons hlt, List.any_cons]
    cases fl with
    | true =>
      have ih := refstep_l0 ms hm y0 y1 y2 y3 y4 d (i + 1) true (by omega) (by omega)
      rw [Bool.true_or] at ih ⊢
      refine Ev.step (fun k => ?_) ih
      rw [modillionref07_Step.l0, if_pos (by omega), if_pos rfl, wrapt (by omega) (by omega)]
      rfl
    | false =>
      have ih := refstep_l0 ms hm y0 y1 y2 y3 y4 d (i + 1) (bigS ms[i].f2) (by omega) (by omega)
      rw [Bool.false_or]
      refine Ev.step (fun k => ?_) ih
      rw [modillionref07_Step.l0, if_pos (by omega), if_neg Bool.false_ne_true, if_pos (by omega), rdM7 ms i hlt, refbig_f, Option.bind_some, wrapt (by omega) (by omega)]
      rfl
theorem refplain_f {n : Int} {l : List VEdge} (tag : ByteArray) (src steps at_ id val inn : Int) (act has : Bool) (hl : l.length ≤ 1000) (hb : badG n l = false) (hs : 1 ≤ steps ∧ steps ≤ 64) (ha : 0 ≤ at_) (hv : bigS val = false) (hi : bigS inn = false) : modillionref07_plain.f tag src steps at_ id val act has inn (outV l id) = some (plainV tag.toList src steps at_ id val has (if has = true then inn else 0) (outV l id)) := by
  unfold modillionref07_plain.f
  have v1 := small_of hv
  have i1 := small_of hi
  unfold smallV at v1 i1
  have ol := out_len l id
  rw [if_pos (by unfold fairJ; simp only [Bool.and_eq_true, decide_eq_true_eq]; omega), if_pos (by omega), if_pos]
  rw [List.all_eq_true]
  intro e he
  obtain ⟨h1, h2⟩ := out_mem he
  have := odd_not (n := n) (e := e) (by
    have h4 := (badG_not hb).2.2.2
    rw [List.any_eq_false] at h4
    simpa using h4 e h1)
  unfold fairB fairW
  simp only [Bool.and_eq_true, decide_eq_true_eq, beq_iff_eq]
  omega
theorem sent_le (b : Bool) (f : VEdge → VMsg) (l : List VEdge) : (if b = true then l.map f else []).length ≤ l.length := by
  cases b with
  | true => rw [if_pos rfl, List.length_map]; exact Nat.le_refl _
  | false => exact Nat.zero_le _
theorem refstep_f (n : Int) (l : List VEdge) (tag : ByteArray) (src steps at_ id val : Int) (act has : Bool) (inn : Int) (hl : l.length ≤ 1000) : Ev (fun k => modillionref07_Step.f k n l tag src steps at_ id val act has inn) (stepR n l tag.toList src steps at_ id val act has inn) := by
  have odd : Ev (fun k => modillionref07_Step.j0 k at_ true n l tag src steps id val act has inn) (0, 0, false, false, 0, [], 70) := Ev.step (fun k => by rw [modillionref07_Step.j0, if_pos rfl]) (Ev.now _)
  refine Ev.bind (refright_f n l tag src steps hl) ?_
  unfold stepR
  cases hj : jobB n l tag.toList src steps with
  | false => exact Ev.congr (fun k => if_neg Bool.false_ne_true) odd
  | true =>
    obtain ⟨hb, hd, _, _, _, hs1, hs2⟩ := job_of hj
    rw [if_pos rfl]
    refine Ev.congr (fun k => if_pos rfl) ?_
    by_cases h1 : id < 0
    · rw [if_pos (Or.inl h1)]
      exact Ev.congr (fun k => if_pos h1) odd
    refine Ev.congr (fun k => if_neg h1) ?_
    by_cases h2 : id ≥ n
    · rw [if_pos (Or.inr (Or.inl h2))]
      exact Ev.congr (fun k => if_pos h2) odd
    refine Ev.congr (fun k => if_neg h2) ?_
    by_cases h3 : at_ < 0
    · rw [if_pos (Or.inr (Or.inr (Or.inl h3)))]
      exact Ev.congr (fun k => if_pos h3) odd
    refine Ev.congr (fun k => if_neg h3) ?_
    by_cases h4 : at_ ≥ steps
    · rw [if_pos (Or.inr (Or.inr (Or.inr h4))), decide_eq_true h4]
      exact odd
    rw [decide_eq_false h4, if_neg (by omega)]
    refine Ev.step (f := fun k => modillionref07_Step.j1 k at_ (bigS val || bigS inn) n l tag src steps id val act has inn) (fun k => ?_) ?_
    · rw [modillionref07_Step.j0, if_neg Bool.false_ne_true, refbig_f, Option.bind_some, refbig_f, Option.bind_some]
      cases bigS val <;> rfl
    cases hv : bigS val with
    | true => exact Ev.step (fun k => by rw [modillionref07_Step.j1, Bool.true_or, if_pos rfl]; rfl) (Ev.now _)
    | false =>
      cases hi : bigS inn with
      | true => exact Ev.step (fun k => by rw [modillionref07_Step.j1, Bool.or_true, if_pos rfl]; rfl) (Ev.now _)
      | false =>
        rw [Bool.or_false, if_neg Bool.false_ne_true]
        refine Ev.step (f := fun k => modillionref07_Step.j2 k at_ (!act && !has) n l tag src steps id val act has inn) (fun k => ?_) ?_
        · rw [modillionref07_Step.j1, if_neg Bool.false_ne_true]
          cases act <;> rfl
        cases hq : (!act && !has) with
        | true => exact Ev.step (fun k => by rw [modillionref07_Step.j2, if_pos rfl]; rfl) (Ev.now _)
        | false =>
          rw [if_neg Bool.false_ne_true]
          refine Ev.step (f := fun k => (modillionref05_Out.f k n l id).bind fun t167 => ((modillionref07_plain.f tag src steps at_ id val act has inn t167).bind fun bt170 => ((modillionref07_Great.f bt170.2.1).bind fun t179 => (modillionref07_Step.l0 k bt170.2.2.2.2.2 t179 0 bt170.1 bt170.2.1 bt170.2.2.1 bt170.2.2.2.1 bt170.2.2.2.2.1)))) (fun k => by rw [modillionref07_Step.j2, if_neg Bool.false_ne_true]) ?_
          refine Ev.bind (refout_f hl hb hd id) ?_
          have ol := out_len l id
          refine Ev.congr (f := fun k => modillionref07_Step.l0 k (if (stepV tag.toList src steps at_ id val has (if has = true then inn else 0) ((outV l id).length : Int)).2.2.1 = true then (outV l id).map (sendV tag.toList id (stepV tag.toList src steps at_ id val has (if has = true then inn else 0) ((outV l id).length : Int)).2.2.2) else []) (bigS (stepV tag.toList src steps at_ id val has (if has = true then inn else 0) ((outV l id).length : Int)).1) ((0 : Nat) : Int) id (stepV tag.toList src steps at_ id val has (if has = true then inn else 0) ((outV l id).length : Int)).1 (stepV tag.toList src steps at_ id val has (if has = true then inn else 0) ((outV l id).length : Int)).2.1 false 0) (fun k => ?_) ?_
          · rw [refplain_f tag src steps at_ id val inn act has hl hb ⟨hs1, hs2⟩ (by omega) hv hi, Option.bind_some, refbig_f, Option.bind_some]
            rfl
          · have h := refstep_l0 (if (stepV tag.toList src steps at_ id val has (if has = true then inn else 0) ((outV l id).length : Int)).2.2.1 = true then (outV l id).map (sendV tag.toList id (stepV tag.toList src steps at_ id val has (if has = true then inn else 0) ((outV l id).length : Int)).2.2.2) else []) (Nat.le_trans (sent_le _ _ _) (by omega)) id (stepV tag.toList src steps at_ id val has (if has = true then inn else 0) ((outV l id).length : Int)).1 (stepV tag.toList src steps at_ id val has (if has = true then inn else 0) ((outV l id).length : Int)).2.1 false 0 _ 0 (bigS (stepV tag.toList src steps at_ id val has (if has = true then inn else 0) ((outV l id).length : Int)).1) rfl (by omega)
            exact h
theorem same_l0 (ms : List VMsg) (hm : ms.length ≤ 1000) : ∀ (d i : Nat), ms.length - i = d → i ≤ ms.length → Ev (fun k => modillionref07_Same.l0 k ms ms (i : Int)) true
  | 0, i, hd, hi => by
    refine Ev.step (fun k => ?_) (Ev.now _)
    rw [modillionref07_Same.l0, if_neg (by omega)]
  | d + 1, i, hd, hi => by
    refine Ev.step (fun k => ?_) (same_l0 ms hm d (i + 1) (by omega) (by omega))
    rw [modillionref07_Same.l0, if_pos (by omega), if_pos (by omega), if_pos (by omega), beq_self_eq_true, beq_self_eq_true, beq_self_eq_true, if_neg (by decide), wrapt (by omega) (by omega)]
    rfl
theorem same_f (ms : List VMsg) (hm : ms.length ≤ 1000) : Ev (fun k => modillionref07_Same.f k ms ms) true := by
  refine Ev.congr (fun k => ?_) (same_l0 ms hm ms.length 0 (by omega) (by omega))
  unfold modillionref07_Same.f
  rw [if_pos rfl]
  rfl
end Go.Proofs.Ytdmihkffjbapjaa.Pure
