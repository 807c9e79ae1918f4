/- Several texts of this claim, joined. No condition. -/
import Derived.Test.YtpndhkeoljoapaaGreatTag
import Derived.Test.YtpndhkeoljoapaaGreatRefOut9
import Derived.Test.YtpndhkeoljoapaaGreatGraphRef
section
/- Which programs are known, by the document. -/
namespace Go.Proofs.YtpndhkeoljoapaaGreat.Pure
open Go Go.RowKit Go.Proofs.YtpndhkeoljoapaaGreat.P Go.Proofs.YtpndhkeoljoapaaGreatW.PrintWords Go.Proofs.YtpndhkeoljoapaaGreatW.PrintLast Go.Proofs.YtpndhkeoljoapaaGreatW.PrintMore
theorem refknown_f (s : ByteArray) : modillionref07_Known.f s = some (knownB s.toList) := by
  unfold modillionref07_Known.f knownB
  generalize s.toList = t
  by_cases c1 : t = tMax
  · rw [c1]; rfl
  by_cases c2 : t = tLabel
  · rw [c2]; rfl
  by_cases c3 : t = tSssp
  · rw [c3]; rfl
  by_cases c4 : t = tBfs
  · rw [c4]; rfl
  by_cases c5 : t = tDegree
  · rw [c5]; rfl
  by_cases c6 : t = tRank
  · rw [c6]; rfl
  rw [if_neg c1, if_neg c2, if_neg c3, if_neg c4, if_neg c5, if_neg c6, beq_eq_false_iff_ne.mpr c1, beq_eq_false_iff_ne.mpr c2, beq_eq_false_iff_ne.mpr c3, beq_eq_false_iff_ne.mpr c4, beq_eq_false_iff_ne.mpr c5, beq_eq_false_iff_ne.mpr c6]
  rfl
end Go.Proofs.YtpndhkeoljoapaaGreat.Pure
end
section
/- Plain lemmas: the document's step is the program's. -/
namespace Go.Proofs.YtpndhkeoljoapaaGreat.Pure
open Go Go.RowKit Go.Proofs.YtpndhkeoljoapaaGreat.P Go.Proofs.YtpndhkeoljoapaaGreatW.PrintWords Go.Proofs.YtpndhkeoljoapaaGreatW.PrintLast Go.Proofs.YtpndhkeoljoapaaGreatW.PrintMore
set_option linter.unusedVariables false
set_option linter.unusedSimpArgs false
theorem refright_f (n : Int) (l : List VEdge) (tag : ByteArray) (src steps : Int) (hl : l.length ≤ 1000) : Ev (fun k => modillionref07_Right.f k n l tag src steps) (jobB n l tag.toList src steps) := by
  refine Ev.bind (ref05_check n l (by omega)) ?_
  unfold jobB
  cases badG n l with
  | true => exact Ev.congr (fun k => if_neg (by rw [if_pos rfl]; decide)) (Ev.now _)
  | false =>
    cases dupE l with
    | true => exact Ev.congr (fun k => if_neg (by decide)) (Ev.now _)
    | false =>
      refine Ev.congr (f := fun _ => some (knownB tag.toList && (decide (0 ≤ src) && (decide (src < n) && (decide (1 ≤ steps) && decide (steps ≤ 64)))))) (fun k => ?_) (Ev.now _)
      rw [if_pos (by decide), refknown_f, Option.bind_some]
      cases knownB tag.toList with
      | false => rfl
      | true =>
        rw [if_pos rfl, Bool.true_and]
        by_cases h1 : src ≥ 0
        · rw [if_pos h1, decide_eq_true (show 0 ≤ src from h1), Bool.true_and]
          by_cases h2 : src < n
          · rw [if_pos h2, decide_eq_true h2, Bool.true_and]
            by_cases h3 : steps ≥ 1
            · rw [if_pos h3, decide_eq_true (show 1 ≤ steps from h3), Bool.true_and]
            · rw [if_neg h3, decide_eq_false (show ¬ 1 ≤ steps from h3), Bool.false_and]
          · rw [if_neg h2, decide_eq_false h2, Bool.false_and]
        · rw [if_neg h1, decide_eq_false (show ¬ 0 ≤ src from h1), Bool.false_and]
theorem refbig_f (v : Int) : modillionref07_Great.f v = some (bigS v) := by
  unfold modillionref07_Great.f bigS
  by_cases h : v > 1125899906842624
  · rw [if_pos h, decide_eq_true h]; rfl
  · rw [if_neg h, decide_eq_false h]; rfl
theorem refplain_f {n : Int} {l : List VEdge} (tag : ByteArray) (src steps at_ id val inn : Int) (act has : Bool) (hl : l.length ≤ 1000) (hb : badG n l = false) (hs : 1 ≤ steps ∧ steps ≤ 64) (ha : 0 ≤ at_) (hv : bigS val = false) (hi : bigS inn = false) : modillionref07_plain.f tag src steps at_ id val act has inn (outV l id) = some (plainV tag.toList src steps at_ id val has (if has = true then inn else 0) (outV l id)) := by
  unfold modillionref07_plain.f
  have v1 := small_of hv
  have i1 := small_of hi
  unfold smallV at v1 i1
  have ol := out_len l id
  rw [if_pos (by unfold fairJ; simp only [Bool.and_eq_true, decide_eq_true_eq]; omega), if_pos (by omega), if_pos]
  rw [List.all_eq_true]
  intro e he
  obtain ⟨h1, h2⟩ := out_mem he
  have := odd_not (n := n) (e := e) (by
    have h4 := (badG_not hb).2.2.2
    rw [List.any_eq_false] at h4
    simpa using h4 e h1)
  unfold fairB fairW
  simp only [Bool.and_eq_true, decide_eq_true_eq, beq_iff_eq]
  omega
theorem sent_le (b : Bool) (f : VEdge → VMsg) (l : List VEdge) : (if b = true then l.map f else []).length ≤ l.length := by
  cases b with
  | true => rw [if_pos rfl, List.length_map]; exact Nat.le_refl _
  | false => exact Nat.zero_le _
theorem refstep_f (n : Int) (l : List VEdge) (tag : ByteArray) (src steps at_ id val : Int) (act has : Bool) (inn : Int) (hl : l.length ≤ 1000) (hj : jobB n l tag.toList src steps = true) (hi : 0 ≤ id ∧ id < n) (ha : 0 ≤ at_ ∧ at_ < steps) : Ev (fun k => modillionref07_Step.f k n l tag src steps at_ id val act has inn) (stepR n l tag.toList src steps at_ id val act has inn) := by
  refine Ev.bind (refright_f n l tag src steps hl) ?_
  rw [hj]
  unfold stepR
  rw [hj, if_pos rfl, if_neg (by omega)]
  obtain ⟨hb, hd, _, _, _, hs1, hs2⟩ := job_of hj
  refine Ev.congr (fun k => if_pos rfl) (Ev.congr (fun k => if_pos ⟨hi.1, hi.2, ha.1, ha.2⟩) ?_)
  by_cases hg : (bigS val || bigS inn) = true
  · rw [if_pos hg]
    exact Ev.congr (fun k => if_pos hg) (Ev.now _)
  rw [if_neg hg]
  refine Ev.congr (fun k => if_neg hg) ?_
  by_cases hq : (!act && !has) = true
  · rw [if_pos hq]
    obtain ⟨h1, h2⟩ : act = false ∧ has = false := by simpa using hq
    exact Ev.congr (fun k => if_pos hq) (Ev.now _)
  rw [if_neg hq]
  refine Ev.congr (fun k => if_neg hq) ?_
  refine Ev.bind (refout_f hl hb hd id) ?_
  have ol := out_len l id
  have hg2 : (bigS val || bigS inn) = false := by simpa using hg
  obtain ⟨hv, hin⟩ := Bool.or_eq_false_iff.mp hg2
  refine Ev.congr (fun k => ?_) (Ev.now _)
  rw [refplain_f tag src steps at_ id val inn act has hl hb ⟨hs1, hs2⟩ ha.1 hv hin, Option.bind_some, if_pos (by
    have := sent_le (stepV tag.toList src steps at_ id val has (if has = true then inn else 0) ((outV l id).length : Int)).2.2.1 (sendV tag.toList id (stepV tag.toList src steps at_ id val has (if has = true then inn else 0) ((outV l id).length : Int)).2.2.2) (outV l id)
    show (if (stepV tag.toList src steps at_ id val has (if has = true then inn else 0) ((outV l id).length : Int)).2.2.1 = true then (outV l id).map (sendV tag.toList id (stepV tag.toList src steps at_ id val has (if has = true then inn else 0) ((outV l id).length : Int)).2.2.2) else []).length ≤ 1000000
    omega)]
  rfl
end Go.Proofs.YtpndhkeoljoapaaGreat.Pure
end
