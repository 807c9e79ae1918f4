/- The plain law: what a job comes to is what its steps come to, one behind the other. -/
import Derived.Test.YtpndhkeoljoapaaAwakeSeq
import Derived.Test.YtpndhkeoljoapaaOpEdge
namespace Go.Proofs.Ytpndhkeoljoapaa.Pure
open Go Go.RowKit Go.Proofs.Ytpndhkeoljoapaa Go.Proofs.Ytpndhkeoljoapaa.P Go.Proofs.YtpndhkeoljoapaaW.PrintWords Go.Proofs.YtpndhkeoljoapaaW.PrintLast Go.Proofs.YtpndhkeoljoapaaW.PrintMore
set_option linter.unusedVariables false
set_option linter.unusedSimpArgs false
theorem steps_l0 (n : Int) (l : List VEdge) (tag : ByteArray) (src steps : Int) (hl : l.length ≤ 1000) (hs : steps ≤ 1000) (x : List Int) (m e : Int) : ∀ (d : Nat) (vs : List VVert) (at_ : Int), steps - at_ = d → 0 ≤ at_ → vs.length ≤ 1000 → runL n l tag.toList src steps d vs at_ = (x, m, e) → Ev (fun k => modillionlaw09_SeqSteps.l0 k vs x m e at_ n l tag src steps) true
  | 0, vs, at_, hd, ha, hv, hr => by
    rw [runL] at hr
    obtain ⟨rfl, rfl, rfl⟩ : vs.map (·.f1) = x ∧ at_ = m ∧ 0 = e := by simpa only [Prod.mk.injEq] using hr
    refine Ev.step (f := fun k => (seq_Values.f k vs).bind fun t201 => ((modillionref09_Row.f k (vs.map (·.f1)) t201).bind fun t204 => (if t204 = true then (if at_ = steps then (some true) else ((seq_Quiet.f vs).bind fun t205 => (some t205))) else (some false)))) (fun k => by rw [modillionlaw09_SeqSteps.l0, if_neg (by omega), if_pos rfl]) ?_
    refine Ev.bind (values_f vs hv) (Ev.bind (row_self _ (by rw [List.length_map]; exact hv)) ?_)
    exact Ev.congr (fun k => by rw [if_pos rfl, if_pos (by omega)]) (Ev.now _)
  | d + 1, vs, at_, hd, ha, hv, hr => by
    rw [runL] at hr
    cases hq : vs.any loudV with
    | false =>
      rw [hq, if_neg Bool.false_ne_true] at hr
      obtain ⟨rfl, rfl, rfl⟩ : vs.map (·.f1) = x ∧ at_ = m ∧ 0 = e := by simpa only [Prod.mk.injEq] using hr
      refine Ev.step (f := fun k => (seq_Values.f k vs).bind fun t201 => ((modillionref09_Row.f k (vs.map (·.f1)) t201).bind fun t204 => (if t204 = true then (if at_ = steps then (some true) else ((seq_Quiet.f vs).bind fun t205 => (some t205))) else (some false)))) (fun k => by rw [modillionlaw09_SeqSteps.l0, if_neg (by omega), if_pos rfl]) ?_
      refine Ev.bind (values_f vs hv) (Ev.bind (row_self _ (by rw [List.length_map]; exact hv)) ?_)
      exact Ev.congr (fun k => by rw [if_pos rfl, if_neg (by omega), quiet_f vs hv, hq]; rfl) (Ev.now _)
    | true =>
      rw [hq, if_pos rfl] at hr
      by_cases he : (nextR n l tag.toList src steps at_ vs).2.2 = 0
      · rw [if_pos he] at hr
        have hge := runL_ge n l tag.toList src steps d (nextR n l tag.toList src steps at_ vs).1 (at_ + 1)
        rw [hr] at hge
        have hge2 : at_ + 1 ≤ m := hge
        have hc := nextR_count n l tag.toList src steps at_ vs
        refine Ev.step (fun k => ?_) (steps_l0 n l tag src steps hl hs x m e d (nextR n l tag.toList src steps at_ vs).1 (at_ + 1) (by omega) (by omega) (by omega) hr)
        rw [modillionlaw09_SeqSteps.l0, if_pos (by omega), quiet_f vs hv, hq, Option.bind_some, Bool.not_true, if_neg Bool.false_ne_true, own09 n l hl, Option.bind_some]
        show (seq_Next.f n l tag src steps at_ vs).bind _ = _
        rw [next_f n l tag src steps at_ vs hl hv, Option.bind_some, if_pos he, wrapt (by omega) (by omega)]
      · rw [if_neg he] at hr
        obtain ⟨rfl, rfl, rfl⟩ : [] = x ∧ at_ = m ∧ (nextR n l tag.toList src steps at_ vs).2.2 = e := by simpa only [Prod.mk.injEq] using hr
        refine Ev.step (fun k => ?_) (Ev.now _)
        rw [modillionlaw09_SeqSteps.l0, if_neg (by omega), if_neg he, own09 n l hl, Option.bind_some]
        show (seq_Next.f n l tag src steps at_ vs).bind _ = _
        rw [next_f n l tag src steps at_ vs hl hv, Option.bind_some, if_pos (show ((([] : List Int).length : Nat) : Int) = 0 from rfl), beq_self_eq_true]
theorem SeqSteps : ∀ (a0_0 : Int) (l0_1 : List P.S45) (a1_0 : ByteArray) (a1_1 a1_2 : Int), (Lit.int .i64 a0_0).wf = true → (∀ x ∈ l0_1, Open.wfE x) → (Lit.int .i64 a1_1).wf = true → (Lit.int .i64 a1_2).wf = true → ∃ k, P.modillionlaw09_SeqSteps.f k a0_0 l0_1 a1_0 a1_1 a1_2 = some true := by
  intro n l tag src steps _ _ _ _
  refine Ev.rounds ?_
  unfold modillionlaw09_SeqSteps.f
  refine Ev.bind awake09 (Ev.congr (fun k => if_pos rfl) ?_)
  have triv : Ev (fun k => modillionlaw09_SeqSteps.j0 k true n l tag src steps) true := Ev.step (f := fun k => (modillionlaw09_awake.f k).bind fun t => some t) (fun k => by rw [modillionlaw09_SeqSteps.j0, if_pos rfl]) (Ev.bind awake09 (Ev.now _))
  by_cases hl : (l.length : Int) > 60
  · exact Ev.congr (fun k => if_pos hl) triv
  refine Ev.congr (fun k => if_neg hl) ?_
  by_cases hs : steps > 20
  · rw [decide_eq_true hs]
    exact triv
  rw [decide_eq_false hs]
  refine Ev.step (f := fun k => (seq_Start.f k n l tag src steps).bind fun bt176 => ((seq_Run.f k n l tag src steps).bind fun bt184 => (if bt176.2 = 0 then (modillionlaw09_SeqSteps.l0 k bt176.1 bt184.1 bt184.2.1 bt184.2.2 0 n l tag src steps) else (if bt184.2.2 = bt176.2 then (some (bt184.2.1 == 0)) else (some false))))) (fun k => by rw [modillionlaw09_SeqSteps.j0, if_neg Bool.false_ne_true, own09 n l (by omega), Option.bind_some]; rfl) ?_
  refine Ev.bind (start_f n l tag src steps (by omega)) (Ev.bind (run_f n l tag src steps (by omega)) ?_)
  unfold startR runR
  cases hj : jobB n l tag.toList src steps with
  | false => exact Ev.congr (fun k => rfl) (Ev.now _)
  | true =>
    obtain ⟨_, _, _, _, _, hs1, hs2⟩ := job_of hj
    have hn := job_n hj
    have hc := startV_count n tag.toList src
    rw [if_pos rfl, if_pos rfl]
    exact steps_l0 n l tag src steps (by omega) (by omega) _ _ _ steps.toNat (startV n tag.toList src) 0 (by omega) (by omega) (by omega) rfl
end Go.Proofs.Ytpndhkeoljoapaa.Pure
