/- The plain law: the order of edges doesn't matter. -/
import Derived.Test.YtpndhkeoljoapaaAwakeSeq
import Derived.Test.YtpndhkeoljoapaaOpEdge
namespace Go.Proofs.Ytpndhkeoljoapaa.Pure
open Go Go.RowKit Go.Proofs.Ytpndhkeoljoapaa Go.Proofs.Ytpndhkeoljoapaa.P Go.Proofs.YtpndhkeoljoapaaW.PrintWords Go.Proofs.YtpndhkeoljoapaaW.PrintLast Go.Proofs.YtpndhkeoljoapaaW.PrintMore
set_option linter.unusedVariables false
set_option linter.unusedSimpArgs false
theorem any_perm {α : Type} (p : α → Bool) {l l' : List α} (h : l.Perm l') : l.any p = l'.any p := by
  rw [Bool.eq_iff_iff, List.any_eq_true, List.any_eq_true]
  exact ⟨fun ⟨x, hx, hp⟩ => ⟨x, h.subset hx, hp⟩, fun ⟨x, hx, hp⟩ => ⟨x, h.symm.subset hx, hp⟩⟩
theorem dup_perm {l l' : List VEdge} (h : l.Perm l') : dupE l = dupE l' := by
  cases h1 : dupE l with
  | false => exact ((dupE_iff l').mpr ((simple_perm h.symm).mpr ((dupE_iff l).mp h1))).symm
  | true =>
    cases h2 : dupE l' with
    | true => rfl
    | false =>
      have := (dupE_iff l).mpr ((simple_perm h).mpr ((dupE_iff l').mp h2))
      rw [h1] at this
      cases this
theorem bad_perm {n : Int} {l l' : List VEdge} (h : l.Perm l') : badG n l = badG n l' := by
  unfold badG
  rw [h.length_eq, any_perm _ h]
theorem job_perm {n : Int} {l l' : List VEdge} {t : List UInt8} {src steps : Int} (h : l.Perm l') : jobB n l t src steps = jobB n l' t src steps := by
  unfold jobB
  rw [dup_perm h, bad_perm h]
theorem sort_perm {l l' : List VEdge} (h : l.Perm l') (hd : dupE l = false) : sortE l = sortE l' := by
  have h1 := sortE_sorted l
  exact sorted_unique ⟨h1.1.trans h, h1.2⟩ ((dup_perm h).symm.trans hd)
theorem step_perm {n : Int} {l l' : List VEdge} {t : List UInt8} {src steps at_ id val : Int} {act has : Bool} {inn : Int} (h : l.Perm l') : stepR n l t src steps at_ id val act has inn = stepR n l' t src steps at_ id val act has inn := by
  unfold stepR
  rw [job_perm h]
  cases hj : jobB n l' t src steps with
  | false => rfl
  | true =>
    have hd := (job_of ((job_perm h).trans hj)).2.1
    unfold goesV
    rw [sort_perm h hd]
theorem next_perm {n : Int} {l l' : List VEdge} {t : List UInt8} {src steps at_ : Int} {vs : List VVert} (h : l.Perm l') : nextR n l t src steps at_ vs = nextR n l' t src steps at_ vs := by
  have e : stepF n l t src steps at_ = stepF n l' t src steps at_ := by
    funext y
    exact step_perm h
  unfold nextR
  rw [job_perm h, e]
theorem runL_perm {n : Int} {l l' : List VEdge} {t : List UInt8} {src steps : Int} (h : l.Perm l') : ∀ (d : Nat) (vs : List VVert) (at_ : Int), runL n l t src steps d vs at_ = runL n l' t src steps d vs at_
  | 0, vs, at_ => rfl
  | d + 1, vs, at_ => by rw [runL, runL, next_perm h, runL_perm h d]
theorem runR_perm {n : Int} {l l' : List VEdge} {t : List UInt8} {src steps : Int} (h : l.Perm l') : runR n l t src steps = runR n l' t src steps := by
  unfold runR
  rw [job_perm h, runL_perm h]
theorem SeqTurned : ∀ (a0_0 : Int) (l0_1 : List P.S45) (a1_0 : ByteArray) (a1_1 a1_2 : Int) (a2 : Int), (Lit.int .i64 a0_0).wf = true → (∀ x ∈ l0_1, Open.wfE x) → (Lit.int .i64 a1_1).wf = true → (Lit.int .i64 a1_2).wf = true → (Lit.int .u8 a2).wf = true → ∃ k, P.modillionlaw09_SeqTurned.f k a0_0 l0_1 a1_0 a1_1 a1_2 a2 = some true := by
  intro n l tag src steps a _ _ _ _ hw
  have ha : 0 ≤ a ∧ a ≤ 255 := by
    simp only [Lit.wf, IntKind.min, IntKind.max, IntKind.bits, IntKind.signed] at hw
    simp at hw
    omega
  refine Ev.rounds ?_
  unfold modillionlaw09_SeqTurned.f
  refine Ev.bind awake09 (Ev.congr (fun k => if_pos rfl) ?_)
  have triv : Ev (fun k => modillionlaw09_SeqTurned.j0 k a true n l tag src steps) true := Ev.step (f := fun k => (modillionlaw09_awake.f k).bind fun t => some t) (fun k => by rw [modillionlaw09_SeqTurned.j0, if_pos rfl]) (Ev.bind awake09 (Ev.now _))
  by_cases hl : (l.length : Int) > 60
  · exact Ev.congr (fun k => if_pos hl) triv
  refine Ev.congr (fun k => if_neg hl) ?_
  by_cases hz : (l.length : Int) = 0
  · exact Ev.congr (fun k => if_pos hz) triv
  refine Ev.congr (fun k => if_neg hz) ?_
  by_cases hs : steps > 20
  · rw [decide_eq_true hs]
    exact triv
  rw [decide_eq_false hs]
  have hm : Int.tmod a (l.length : Int) = a % (l.length : Int) := Int.tmod_eq_emod_of_nonneg ha.1
  have h1 := Int.emod_nonneg a hz
  have h2 := Int.emod_lt_of_pos a (show (0 : Int) < (l.length : Int) by omega)
  obtain ⟨m, hmm⟩ : ∃ m : Nat, a % (l.length : Int) = (m : Int) := ⟨(a % (l.length : Int)).toNat, by omega⟩
  have hp : (l.drop m ++ l.take m).Perm l := by
    have := List.perm_append_comm (l₁ := l.drop m) (l₂ := l.take m)
    rw [List.take_append_drop] at this
    exact this
  have hlen := hp.length_eq
  refine Ev.step (f := fun k => (seq_Run.f k n l tag src steps).bind fun bt243 => ((seq_Run.f k n (l.drop m ++ l.take m) tag src steps).bind fun bt248 => ((modillionref09_Row.f k bt243.1 bt248.1).bind fun t253 => (if t253 = true then (if bt243.2.1 = bt248.2.1 then (some (bt243.2.2 == bt248.2.2)) else (some false)) else (some false))))) (fun k => ?_) ?_
  · rw [modillionlaw09_SeqTurned.j0, if_neg Bool.false_ne_true, if_neg hz, Option.bind_some, wrapt (n := a) (by omega) (by omega), hm, hmm, if_pos (by omega), if_pos (by omega), Option.bind_some, Int.toNat_natCast, if_pos (by simp; omega), Option.bind_some, Option.bind_some, if_pos (by simp; omega), own09 n l (by omega), Option.bind_some, List.nil_append]
  refine Ev.bind (run_f n l tag src steps (by omega)) (Ev.bind (run_f n (l.drop m ++ l.take m) tag src steps (by omega)) ?_)
  rw [runR_perm hp]
  have hc := runR_count n l tag.toList src steps
  refine Ev.bind (row_self _ (by omega)) ?_
  exact Ev.congr (fun k => by rw [if_pos rfl, if_pos rfl, beq_self_eq_true]) (Ev.now _)
end Go.Proofs.Ytpndhkeoljoapaa.Pure
