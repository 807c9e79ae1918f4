/- Several texts of this claim, joined. No condition. -/
import Derived.Test.YtpndhkeoljoapaaGreatAwakeSeq
import Derived.Test.YtpndhkeoljoapaaGreatRefSeq
import Derived.Test.YtpndhkeoljoapaaGreatOpEdgeAll
import Derived.Test.YtpndhkeoljoapaaGreatOpen
import Derived.Test.YtpndhkeoljoapaaGreatPx0
section
/- The plain law: any vertices behind any step, and what was sent, are the document's, or an error. -/
namespace Go.Proofs.YtpndhkeoljoapaaGreat.Pure
open Go Go.RowKit Go.Proofs.YtpndhkeoljoapaaGreat Go.Proofs.YtpndhkeoljoapaaGreat.P Go.Proofs.YtpndhkeoljoapaaGreatW.PrintWords Go.Proofs.YtpndhkeoljoapaaGreatW.PrintLast Go.Proofs.YtpndhkeoljoapaaGreatW.PrintMore
set_option linter.unusedVariables false
set_option linter.unusedSimpArgs false
theorem nextR_sent (n : Int) (l : List VEdge) (t : List UInt8) (src steps at_ : Int) (vs : List VVert) (hl : l.length ≤ 1000) (hv : vs.length ≤ 1000) : (nextR n l t src steps at_ vs).2.1.length ≤ 1000000 := by
  have h := stepsR_len (F := stepF n l t src steps at_) (m := 1000) (fun y => Nat.le_trans (step_sends n l t src steps at_ y.f0 y.f1 y.f2 y.f3 y.f4) hl) vs [] []
  rw [List.length_nil, Nat.zero_add] at h
  have h2 : vs.length * 1000 ≤ 1000000 := by omega
  unfold nextR
  split
  · split
    · exact Nat.zero_le _
    · split
      · exact Nat.zero_le _
      · split
        · exact Nat.zero_le _
        · split
          · exact Nat.zero_le _
          · split
            · split
              · show (sortMsg _).length ≤ _
                rw [sortMsg_len]
                omega
              · exact Nat.zero_le _
            · exact Nat.zero_le _
  · exact Nat.zero_le _
theorem SeqNext : ∀ (a0_0 : Int) (l0_1 : List P.S48) (a1_0 : ByteArray) (a1_1 a1_2 : Int) (a2 : Int) (l3 : List P.S50), (Lit.int .i64 a0_0).wf = true → (∀ x ∈ l0_1, Open.wfE x) → (Lit.int .i64 a1_1).wf = true → (Lit.int .i64 a1_2).wf = true → (Lit.int .i64 a2).wf = true → (∀ x ∈ l3, Open.wfV x) → ∃ k, P.modillionlaw09_SeqNext.f k a0_0 l0_1 a1_0 a1_1 a1_2 a2 l3 = some true := by
  intro n l tag src steps at_ vs _ _ _ _ _ _
  refine Ev.rounds ?_
  unfold modillionlaw09_SeqNext.f
  refine Ev.bind awake09 (Ev.congr (fun k => if_pos rfl) ?_)
  have triv : Ev (fun k => modillionlaw09_SeqNext.j0 k at_ vs true n l tag src steps) true := Ev.step (f := fun k => (modillionlaw09_awake.f k).bind fun t => some t) (fun k => by rw [modillionlaw09_SeqNext.j0, if_pos rfl]) (Ev.bind awake09 (Ev.now _))
  by_cases hl : (l.length : Int) > 60
  · exact Ev.congr (fun k => if_pos hl) triv
  refine Ev.congr (fun k => if_neg hl) ?_
  by_cases hv : (vs.length : Int) > 70
  · rw [decide_eq_true hv]
    exact triv
  rw [decide_eq_false hv]
  obtain ⟨R, hR⟩ : ∃ R, R = nextR n l tag.toList src steps at_ vs := ⟨_, rfl⟩
  have hr := refnext_f n l tag src steps at_ vs (by omega) (by omega)
  have h1 := nextR_count n l tag.toList src steps at_ vs
  have h2 := nextR_sent n l tag.toList src steps at_ vs (by omega) (by omega)
  rw [← hR] at hr h1 h2
  refine Ev.step (f := fun k => (modillionref09_Next.f k n l tag src steps at_ vs).bind fun bt262 => ((modillionref09_Same.f k R.1 bt262.1).bind fun t269 => (if t269 = true then ((modillionref07_Same.f k R.2.1 bt262.2.1).bind fun t270 => (if t270 = true then (if R.2.2 = bt262.2.2 then ((modillionref09_Quiet.f k vs).bind fun t278 => (if ((!(vs.any loudV)) == t278) = true then ((seq_Values.f k vs).bind fun t285 => ((modillionref09_Values.f k vs).bind fun t288 => ((modillionref09_Row.f k t285 t288).bind fun t291 => (some t291)))) else (none))) else (none)) else (none))) else (none)))) (fun k => ?_) ?_
  · rw [modillionlaw09_SeqNext.j0, if_neg Bool.false_ne_true, own09 n l (by omega), Option.bind_some, Option.bind_some, if_pos (by simp; omega), List.nil_append]
    show (seq_Next.f n l tag src steps at_ vs).bind _ = _
    rw [next_f n l tag src steps at_ vs (by omega) (by omega), Option.bind_some, ← hR]
    have hc : (0 + vs.length < 4398046511104) = True := eq_true (by omega)
    simp only [Option.bind_some, List.length_nil, List.nil_append, hc, if_true, quiet_f vs (show vs.length ≤ 1000 by omega)]
  · refine Ev.bind hr (Ev.bind (same9_f _ (by omega)) (Ev.congr (fun k => if_pos rfl) (Ev.bind (same_f _ h2) (Ev.congr (fun k => if_pos rfl) (Ev.congr (fun k => if_pos rfl) ?_)))))
    refine Ev.bind (refquiet_f vs (by omega)) (Ev.congr (fun k => if_pos (beq_self_eq_true _)) ?_)
    refine Ev.bind (values_f vs (by omega)) (Ev.bind (refvalues_f vs (by omega)) (Ev.bind (row_self _ (by rw [List.length_map]; omega)) (Ev.now _)))
end Go.Proofs.YtpndhkeoljoapaaGreat.Pure
end
section
/- What came in, opened: jobs. -/
namespace Go.Proofs.YtpndhkeoljoapaaGreat.Open
open Go.RowKit Go.Proofs.YtpndhkeoljoapaaGreatW.PrintWords Go.Proofs.YtpndhkeoljoapaaGreatW.PrintLast Go.Proofs.YtpndhkeoljoapaaGreat.P
theorem opensJob : Opens Tryz.prog 26 (Kd.pair Kd.string (Kd.pair (Kd.int .i64) (Kd.int .i64))) (fun x => x.1.size ≤ maxLen ∧ (Lit.int .i64 x.2.1).wf = true ∧ (Lit.int .i64 x.2.2).wf = true) := opens_three (P := Tryz.prog) (t := 26) Tryz.underlying26 (opens_string (P := Tryz.prog) (t := 9) Tryz.underlying9) (opens_int (P := Tryz.prog) (t := 3) Tryz.underlying3) (opens_int (P := Tryz.prog) (t := 3) Tryz.underlying3) rfl rfl rfl (by kernel_rfl) (by kernel_rfl) (by kernel_rfl) (by kernel_rfl)
end Go.Proofs.YtpndhkeoljoapaaGreat.Open
end
