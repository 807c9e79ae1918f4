/- Plain lemmas: what seq.Run comes to. -/
import Derived.Test.YtpndhkeoljoapaaGreatSeq
namespace Go.Proofs.YtpndhkeoljoapaaGreat.Pure
open Go Go.RowKit Go.Proofs.YtpndhkeoljoapaaGreat.P Go.Proofs.YtpndhkeoljoapaaGreatW.PrintWords Go.Proofs.YtpndhkeoljoapaaGreatW.PrintLast Go.Proofs.YtpndhkeoljoapaaGreatW.PrintMore
set_option linter.unusedVariables false
set_option linter.unusedSimpArgs false
theorem stepsR_count (F : VVert → StepR) : ∀ (vs o : List VVert) (s : List VMsg), (stepsR F vs o s).1.length ≤ o.length + vs.length
  | [], o, s => Nat.le_refl _
  | y :: r, o, s => by
    rw [stepsR]
    split
    · have ih := stepsR_count F r (o ++ [vxOf (F y)]) (s ++ (F y).2.2.2.2.2.1)
      rw [List.length_append, List.length_singleton] at ih
      rw [List.length_cons]
      omega
    · rw [List.length_cons]
      show (o ++ [vxOf (F y)]).length ≤ _
      rw [List.length_append, List.length_singleton]
      omega
theorem comesR_count (C : Int → Int × Bool × Int) : ∀ (vs o : List VVert), (comesR C vs o).1.length ≤ o.length + vs.length
  | [], o => Nat.le_refl _
  | y :: r, o => by
    rw [comesR]
    split
    · have ih := comesR_count C r (o ++ [comeV y (C (o.length : Int)).2.1 (C (o.length : Int)).1])
      rw [List.length_append, List.length_singleton] at ih
      rw [List.length_cons]
      omega
    · rw [List.length_cons]
      show (o ++ [comeV y (C (o.length : Int)).2.1 (C (o.length : Int)).1]).length ≤ _
      rw [List.length_append, List.length_singleton]
      omega
theorem nextR_count (n : Int) (l : List VEdge) (t : List UInt8) (src steps at_ : Int) (vs : List VVert) : (nextR n l t src steps at_ vs).1.length ≤ vs.length := by
  unfold nextR
  split
  · split
    · exact Nat.zero_le _
    · split
      · exact Nat.zero_le _
      · split
        · exact Nat.zero_le _
        · split
          · exact Nat.zero_le _
          · split
            · split
              · have h1 := comesR_count (cameR t (stepsR (stepF n l t src steps at_) vs [] []).2.1) (stepsR (stepF n l t src steps at_) vs [] []).1 []
                have h2 := stepsR_count (stepF n l t src steps at_) vs [] []
                rw [List.length_nil, Nat.zero_add] at h1 h2
                exact Nat.le_trans h1 h2
              · exact Nat.zero_le _
            · exact Nat.zero_le _
  · exact Nat.zero_le _
/-- What so many further steps come to. -/
def runL (n : Int) (l : List VEdge) (t : List UInt8) (src steps : Int) : Nat → List VVert → Int → List Int × Int × Int
  | 0, vs, at_ => (vs.map (·.f1), at_, 0)
  | d + 1, vs, at_ => if vs.any loudV = true then (if (nextR n l t src steps at_ vs).2.2 = 0 then runL n l t src steps d (nextR n l t src steps at_ vs).1 (at_ + 1) else ([], at_, (nextR n l t src steps at_ vs).2.2)) else (vs.map (·.f1), at_, 0)
def runR (n : Int) (l : List VEdge) (t : List UInt8) (src steps : Int) : List Int × Int × Int := if jobB n l t src steps = true then runL n l t src steps steps.toNat (startV n t src) 0 else ([], 0, 70)
theorem run_l0 (n : Int) (l : List VEdge) (tag : ByteArray) (src steps : Int) (hl : l.length ≤ 1000) (hs : steps ≤ 1000) : ∀ (d : Nat) (vs : List VVert) (at_ : Int), steps - at_ = d → 0 ≤ at_ → vs.length ≤ 1000 → Ev (fun k => seq_Run.l0 k vs at_ n l tag src steps) (runL n l tag.toList src steps d vs at_)
  | 0, vs, at_, hd, ha, hv => by
    refine Ev.step (f := fun k => seq_Run.j1 k vs at_ false n l tag src steps) (fun k => by rw [seq_Run.l0, if_neg (by omega)]) ?_
    refine Ev.step (f := fun k => (seq_Values.f k vs).bind fun t => some (t, at_, 0)) (fun k => by rw [seq_Run.j1, if_neg Bool.false_ne_true]) ?_
    exact Ev.bind (values_f vs hv) (Ev.now _)
  | d + 1, vs, at_, hd, ha, hv => by
    refine Ev.step (f := fun k => seq_Run.j1 k vs at_ (!(!(vs.any loudV))) n l tag src steps) (fun k => by rw [seq_Run.l0, if_pos (by omega), quiet_f vs hv, Option.bind_some]) ?_
    rw [Bool.not_not, runL]
    cases hq : vs.any loudV with
    | false =>
      rw [if_neg Bool.false_ne_true]
      refine Ev.step (f := fun k => (seq_Values.f k vs).bind fun t => some (t, at_, 0)) (fun k => by rw [seq_Run.j1, if_neg Bool.false_ne_true]) ?_
      exact Ev.bind (values_f vs hv) (Ev.now _)
    | true =>
      rw [if_pos rfl]
      refine Ev.step (f := fun k => if (nextR n l tag.toList src steps at_ vs).2.2 = 0 then seq_Run.l0 k (nextR n l tag.toList src steps at_ vs).1 (at_ + 1) n l tag src steps else some ([], at_, (nextR n l tag.toList src steps at_ vs).2.2)) (fun k => by rw [seq_Run.j1, if_pos rfl, next_f n l tag src steps at_ vs hl hv, Option.bind_some, wrapt (by omega) (by omega)]) ?_
      have hc := nextR_count n l tag.toList src steps at_ vs
      by_cases he : (nextR n l tag.toList src steps at_ vs).2.2 = 0
      · rw [if_pos he]
        exact Ev.congr (fun k => if_pos he) (run_l0 n l tag src steps hl hs d _ (at_ + 1) (by omega) (by omega) (by omega))
      · rw [if_neg he]
        exact Ev.congr (fun k => if_neg he) (Ev.now _)
theorem startV_count (n : Int) (t : List UInt8) (src : Int) : (startV n t src).length = n.toNat := by
  unfold startV
  rw [List.length_map, List.length_range]
theorem run_f (n : Int) (l : List VEdge) (tag : ByteArray) (src steps : Int) (hl : l.length ≤ 1000) : Ev (fun k => seq_Run.f k n l tag src steps) (runR n l tag.toList src steps) := by
  refine Ev.bind (start_f n l tag src steps hl) ?_
  unfold startR runR
  cases hj : jobB n l tag.toList src steps with
  | false => exact Ev.congr (fun k => if_neg (by rw [if_neg Bool.false_ne_true]; decide)) (Ev.now _)
  | true =>
    obtain ⟨_, _, _, _, _, hs1, hs2⟩ := job_of hj
    have hn := job_n hj
    have hc := startV_count n tag.toList src
    refine Ev.congr (f := fun k => seq_Run.l0 k (startV n tag.toList src) 0 n l tag src steps) (fun k => rfl) ?_
    exact run_l0 n l tag src steps hl (by omega) steps.toNat _ 0 (by omega) (by omega) (by omega)
theorem own09 (n : Int) (l : List VEdge) (h : l.length ≤ 1000) : modillionlaw09_Own.f n l = some (n, l) := by
  unfold modillionlaw09_Own.f
  rw [Option.bind_some, if_pos (by rw [List.length_nil]; omega), List.nil_append]
theorem row_l0 (x : List Int) (hx : x.length ≤ 1000) : ∀ (d i : Nat), x.length - i = d → i ≤ x.length → Ev (fun k => modillionref09_Row.l0 k x x (i : Int)) true
  | 0, i, hd, hi => by
    refine Ev.step (fun k => ?_) (Ev.now _)
    rw [modillionref09_Row.l0, if_neg (by omega)]
  | d + 1, i, hd, hi => by
    refine Ev.step (fun k => ?_) (row_l0 x hx d (i + 1) (by omega) (by omega))
    rw [modillionref09_Row.l0, if_pos (by omega), if_pos (by omega), if_pos (by omega), if_pos rfl, wrapt (by omega) (by omega)]
    rfl
theorem row_self (x : List Int) (hx : x.length ≤ 1000) : Ev (fun k => modillionref09_Row.f k x x) true := by
  refine Ev.congr (fun k => ?_) (row_l0 x hx x.length 0 rfl (Nat.zero_le _))
  unfold modillionref09_Row.f
  rw [if_pos rfl]
  rfl
theorem runL_count (n : Int) (l : List VEdge) (t : List UInt8) (src steps : Int) : ∀ (d : Nat) (vs : List VVert) (at_ : Int), (runL n l t src steps d vs at_).1.length ≤ vs.length
  | 0, vs, at_ => by
    rw [runL, List.length_map]
    exact Nat.le_refl _
  | d + 1, vs, at_ => by
    rw [runL]
    split
    · split
      · exact Nat.le_trans (runL_count n l t src steps d _ _) (nextR_count n l t src steps at_ vs)
      · exact Nat.zero_le _
    · show (vs.map (·.f1)).length ≤ _
      rw [List.length_map]
      exact Nat.le_refl _
theorem runR_count (n : Int) (l : List VEdge) (t : List UInt8) (src steps : Int) : (runR n l t src steps).1.length ≤ 64 := by
  unfold runR
  cases hj : jobB n l t src steps with
  | false => exact Nat.zero_le _
  | true =>
    rw [if_pos rfl]
    have hn := job_n hj
    have hc := startV_count n t src
    exact Nat.le_trans (runL_count n l t src steps _ _ _) (by omega)
end Go.Proofs.YtpndhkeoljoapaaGreat.Pure
