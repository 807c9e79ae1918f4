/- Plain lemmas: how all are at first, and what a job comes to, by the document. -/
import Derived.Test.YtpndhkeoljoapaaGreatRefSeq
namespace Go.Proofs.YtpndhkeoljoapaaGreat.Pure
open Go Go.RowKit Go.Proofs.YtpndhkeoljoapaaGreat.P Go.Proofs.YtpndhkeoljoapaaGreatW.PrintWords Go.Proofs.YtpndhkeoljoapaaGreatW.PrintLast Go.Proofs.YtpndhkeoljoapaaGreatW.PrintMore
set_option linter.unusedVariables false
set_option linter.unusedSimpArgs false
theorem reffirst_f (tag : ByteArray) (src steps v : Int) (hk : knownB tag.toList = true) (hv : 0 ≤ v ∧ v ≤ 1000) : modillionref07_First.f tag src steps v = some (v, firstV tag.toList src v, true, false, 0) := by
  unfold modillionref07_First.f
  rw [if_pos (by omega), refknown_f, Option.bind_some, if_pos hk]
theorem refstart_l0 (n : Int) (l : List VEdge) (tag : ByteArray) (src steps : Int) (hk : knownB tag.toList = true) (N : Nat) (hN : N ≤ 1000) : ∀ (d i : Nat), N - i = d → i ≤ N → Ev (fun k => modillionref09_Start.l0 k ((List.range i).map (fun v : Nat => (⟨(v : Int), firstV tag.toList src (v : Int), true, false, 0⟩ : VVert))) (i : Int) (N : Int) l tag src steps) ((List.range N).map fun v : Nat => ⟨(v : Int), firstV tag.toList src (v : Int), true, false, 0⟩)
  | 0, i, hd, hi => by
    obtain rfl : i = N := by omega
    refine Ev.step (fun k => ?_) (Ev.now _)
    rw [modillionref09_Start.l0, if_neg (by omega)]
  | d + 1, i, hd, hi => by
    refine Ev.step (fun k => ?_) (refstart_l0 n l tag src steps hk N hN d (i + 1) (by omega) (by omega))
    rw [modillionref09_Start.l0, if_pos (by omega), reffirst_f tag src steps (i : Int) hk (by omega), Option.bind_some, if_pos (by rw [List.length_map, List.length_range]; omega), wrapt (by omega) (by omega), List.range_succ, List.map_append]
    rfl
theorem refstart_f (n : Int) (l : List VEdge) (tag : ByteArray) (src steps : Int) (hj : jobB n l tag.toList src steps = true) : Ev (fun k => modillionref09_Start.f k n l tag src steps) (startV n tag.toList src) := by
  obtain ⟨h1, h2⟩ := job_n hj
  obtain ⟨N, rfl⟩ : ∃ N : Nat, n = (N : Int) := ⟨n.toNat, by omega⟩
  exact refstart_l0 N l tag src steps (job_of hj).2.2.1 N (by omega) N 0 rfl (Nat.zero_le _)
theorem refrun_l0 (n : Int) (l : List VEdge) (tag : ByteArray) (src steps : Int) (hl : l.length ≤ 1000) (hs : steps ≤ 1000) : ∀ (d : Nat) (vs : List VVert) (at_ : Int), steps - at_ = d → 0 ≤ at_ → vs.length ≤ 1000 → Ev (fun k => modillionref09_Run.l0 k vs at_ n l tag src steps) (runL n l tag.toList src steps d vs at_)
  | 0, vs, at_, hd, ha, hv => by
    obtain rfl : at_ = steps := by omega
    refine Ev.step (f := fun k => (modillionref09_Values.f k vs).bind fun t => some (t, at_, 0)) (fun k => by rw [modillionref09_Run.l0, if_neg (by omega)]) ?_
    exact Ev.bind (refvalues_f vs hv) (Ev.now _)
  | d + 1, vs, at_, hd, ha, hv => by
    have hc := nextR_count n l tag.toList src steps at_ vs
    refine Ev.step (f := fun k => (modillionref09_Quiet.f k vs).bind fun t314 => (if t314 = true then ((modillionref09_Values.f k vs).bind fun t315 => (some (t315, at_, 0))) else ((modillionref09_Next.f k n l tag src steps at_ vs).bind fun bt318 => (if bt318.2.2 = 0 then (modillionref09_Run.l0 k bt318.1 (at_ + 1) n l tag src steps) else (some (([] : List Int), at_, bt318.2.2)))))) (fun k => by rw [modillionref09_Run.l0, if_pos (by omega), wrapt (by omega) (by omega)]) ?_
    refine Ev.bind (refquiet_f vs hv) ?_
    rw [runL]
    cases hq : vs.any loudV with
    | false =>
      rw [if_neg Bool.false_ne_true]
      exact Ev.congr (fun k => if_pos rfl) (Ev.bind (refvalues_f vs hv) (Ev.now _))
    | true =>
      rw [if_pos rfl]
      refine Ev.congr (fun k => if_neg (by decide)) (Ev.bind (refnext_f n l tag src steps at_ vs hl hv) ?_)
      by_cases he : (nextR n l tag.toList src steps at_ vs).2.2 = 0
      · rw [if_pos he]
        exact Ev.congr (fun k => if_pos he) (refrun_l0 n l tag src steps hl hs d _ (at_ + 1) (by omega) (by omega) (by omega))
      · rw [if_neg he]
        exact Ev.congr (fun k => if_neg he) (Ev.now _)
theorem refrun_f (n : Int) (l : List VEdge) (tag : ByteArray) (src steps : Int) (hl : l.length ≤ 1000) : Ev (fun k => modillionref09_Run.f k n l tag src steps) (runR n l tag.toList src steps) := by
  refine Ev.bind (refright_f n l tag src steps hl) ?_
  unfold runR
  cases hj : jobB n l tag.toList src steps with
  | false => exact Ev.congr (fun k => if_neg Bool.false_ne_true) (Ev.now _)
  | true =>
    obtain ⟨_, _, _, _, _, hs1, hs2⟩ := job_of hj
    have hn := job_n hj
    have hc := startV_count n tag.toList src
    rw [if_pos rfl]
    refine Ev.congr (fun k => if_pos rfl) (Ev.bind (refstart_f n l tag src steps hj) ?_)
    exact refrun_l0 n l tag src steps hl (by omega) steps.toNat _ 0 (by omega) (by omega) (by omega)
end Go.Proofs.YtpndhkeoljoapaaGreat.Pure
