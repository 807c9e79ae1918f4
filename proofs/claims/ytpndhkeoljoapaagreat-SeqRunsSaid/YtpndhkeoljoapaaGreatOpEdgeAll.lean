/- Several texts of this claim, joined. No condition. -/
import Derived.Test.YtpndhkeoljoapaaGreatOpen
import Derived.Test.YtpndhkeoljoapaaGreatPx0
import Derived.Test.YtpndhkeoljoapaaGreatAwakeSeq
import Derived.Test.YtpndhkeoljoapaaGreatRefRun
section
/- What came in, opened: edges and graphs. -/
namespace Go.Proofs.YtpndhkeoljoapaaGreat.Open
open Go.RowKit Go.Proofs.YtpndhkeoljoapaaGreatW.PrintWords Go.Proofs.YtpndhkeoljoapaaGreatW.PrintLast Go.Proofs.YtpndhkeoljoapaaGreat.P
/-- An edge of whole numbers of 64 bits. -/
def wfE (x : S48) : Prop := (Lit.int .i64 x.f0).wf = true ∧ (Lit.int .i64 x.f1).wf = true ∧ (Lit.int .i64 x.f2).wf = true
theorem opensEdge : Opens Tryz.prog 48 k48 wfE := opens_iso (opens_three (P := Tryz.prog) (t := 48) Tryz.underlying48 (opens_int (P := Tryz.prog) (t := 3) Tryz.underlying3) (opens_int (P := Tryz.prog) (t := 3) Tryz.underlying3) (opens_int (P := Tryz.prog) (t := 2) Tryz.underlying2) rfl rfl rfl (by kernel_rfl) (by kernel_rfl) (by kernel_rfl) (by kernel_rfl)) (fun x : S48 => (x.f0, x.f1, x.f2)) (fun y => ⟨y.1, y.2.1, y.2.2⟩) (fun _ => rfl)
theorem opensEdges : Opens Tryz.prog 22 (Kd.slice 48 k48) (fun l => ∀ x ∈ l, wfE x) := opens_slice Tryz.underlying22 opensEdge (by kernel_rfl)
theorem opensGraph : Opens Tryz.prog 24 (Kd.pair (Kd.int .i64) (Kd.slice 48 k48)) (fun x => (Lit.int .i64 x.1).wf = true ∧ ∀ y ∈ x.2, wfE y) := opens_two Tryz.underlying24 (opens_int (P := Tryz.prog) (t := 3) Tryz.underlying3) opensEdges rfl rfl (by kernel_rfl) (by kernel_rfl) (by kernel_rfl)
end Go.Proofs.YtpndhkeoljoapaaGreat.Open
end
section
/- The plain law: what any job comes to, and behind how many steps, is the document's. -/
namespace Go.Proofs.YtpndhkeoljoapaaGreat.Pure
open Go Go.RowKit Go.Proofs.YtpndhkeoljoapaaGreat Go.Proofs.YtpndhkeoljoapaaGreat.P Go.Proofs.YtpndhkeoljoapaaGreatW.PrintWords Go.Proofs.YtpndhkeoljoapaaGreatW.PrintLast Go.Proofs.YtpndhkeoljoapaaGreatW.PrintMore
set_option linter.unusedVariables false
set_option linter.unusedSimpArgs false
theorem SeqRuns : ∀ (a0_0 : Int) (l0_1 : List P.S48) (a1_0 : ByteArray) (a1_1 a1_2 : Int), (Lit.int .i64 a0_0).wf = true → (∀ x ∈ l0_1, Open.wfE x) → (Lit.int .i64 a1_1).wf = true → (Lit.int .i64 a1_2).wf = true → ∃ k, P.modillionlaw09_SeqRuns.f k a0_0 l0_1 a1_0 a1_1 a1_2 = some true := by
  intro n l tag src steps _ _ _ _
  refine Ev.rounds ?_
  unfold modillionlaw09_SeqRuns.f
  refine Ev.bind awake09 (Ev.congr (fun k => if_pos rfl) ?_)
  have triv : Ev (fun k => modillionlaw09_SeqRuns.j0 k true n l tag src steps) true := Ev.step (f := fun k => (modillionlaw09_awake.f k).bind fun t => some t) (fun k => by rw [modillionlaw09_SeqRuns.j0, if_pos rfl]) (Ev.bind awake09 (Ev.now _))
  by_cases hl : (l.length : Int) > 60
  · exact Ev.congr (fun k => if_pos hl) triv
  refine Ev.congr (fun k => if_neg hl) ?_
  by_cases hs : steps > 20
  · rw [decide_eq_true hs]
    exact triv
  rw [decide_eq_false hs]
  have h1 := start_f n l tag src steps (by omega)
  have h2 := run_f n l tag src steps (by omega)
  have h3 := refrun_f n l tag src steps (by omega)
  have h4 := refright_f n l tag src steps (by omega)
  have hc := runR_count n l tag.toList src steps
  refine Ev.step (f := fun k => (seq_Start.f k n l tag src steps).bind fun bt333 => ((seq_Run.f k n l tag src steps).bind fun bt341 => ((modillionref09_Run.f k n l tag src steps).bind fun bt346 => ((modillionref07_Right.f k n l tag src steps).bind fun t351 => (if t351 = true then (if bt333.2 = 0 then ((modillionref09_Start.f k n l tag src steps).bind fun t352 => ((modillionref09_Same.f k bt333.1 t352).bind fun t355 => (if t355 = true then ((modillionref09_Row.f k bt341.1 bt346.1).bind fun t356 => (if t356 = true then (if bt341.2.1 = bt346.2.1 then (some (bt341.2.2 == bt346.2.2)) else (none)) else (none))) else (none)))) else (none)) else (if (bt333.1.length : Int) = 0 then (if bt333.2 = 70 then (if (bt341.1.length : Int) = 0 then (if bt341.2.1 = 0 then (some (bt341.2.2 == 70)) else (none)) else (none)) else (none)) else (none))))))) (fun k => by rw [modillionlaw09_SeqRuns.j0, if_neg Bool.false_ne_true, own09 n l (by omega), Option.bind_some]; rfl) ?_
  refine Ev.bind h1 (Ev.bind h2 (Ev.bind h3 (Ev.bind h4 ?_)))
  cases hj : jobB n l tag.toList src steps with
  | false =>
    refine Ev.congr (fun k => if_neg Bool.false_ne_true) ?_
    unfold startR runR
    rw [hj]
    exact Ev.congr (fun k => rfl) (Ev.now _)
  | true =>
    have hn := job_n hj
    have hcs := startV_count n tag.toList src
    have e : startR n l tag.toList src steps = (startV n tag.toList src, 0) := by unfold startR; rw [hj, if_pos rfl]
    rw [e]
    refine Ev.congr (fun k => if_pos rfl) (Ev.congr (fun k => if_pos rfl) (Ev.bind (refstart_f n l tag src steps hj) (Ev.bind (same9_f (startV n tag.toList src) (by omega)) (Ev.congr (fun k => if_pos rfl) (Ev.bind (row_self _ (by omega)) (Ev.congr (fun k => if_pos rfl) (Ev.congr (fun k => if_pos rfl) ?_)))))))
    exact Ev.congr (fun k => by rw [beq_self_eq_true]) (Ev.now _)
end Go.Proofs.YtpndhkeoljoapaaGreat.Pure
end
section
/- What came in, opened: jobs. -/
namespace Go.Proofs.YtpndhkeoljoapaaGreat.Open
open Go.RowKit Go.Proofs.YtpndhkeoljoapaaGreatW.PrintWords Go.Proofs.YtpndhkeoljoapaaGreatW.PrintLast Go.Proofs.YtpndhkeoljoapaaGreat.P
theorem opensJob : Opens Tryz.prog 26 (Kd.pair Kd.string (Kd.pair (Kd.int .i64) (Kd.int .i64))) (fun x => x.1.size ≤ maxLen ∧ (Lit.int .i64 x.2.1).wf = true ∧ (Lit.int .i64 x.2.2).wf = true) := opens_three (P := Tryz.prog) (t := 26) Tryz.underlying26 (opens_string (P := Tryz.prog) (t := 9) Tryz.underlying9) (opens_int (P := Tryz.prog) (t := 3) Tryz.underlying3) (opens_int (P := Tryz.prog) (t := 3) Tryz.underlying3) rfl rfl rfl (by kernel_rfl) (by kernel_rfl) (by kernel_rfl) (by kernel_rfl)
end Go.Proofs.YtpndhkeoljoapaaGreat.Open
end
