/- The plain law: what is sent in a step is what comes; none comes that wasn't sent. -/
import Derived.Test.YtpndhkeoljoapaaAwakeSeq
import Derived.Test.YtpndhkeoljoapaaSeqGet
import Derived.Test.YtpndhkeoljoapaaOpEdge
import Derived.Test.YtpndhkeoljoapaaOpVertices
namespace Go.Proofs.Ytpndhkeoljoapaa.Pure
open Go Go.RowKit Go.Proofs.Ytpndhkeoljoapaa Go.Proofs.Ytpndhkeoljoapaa.P Go.Proofs.YtpndhkeoljoapaaW.PrintWords Go.Proofs.YtpndhkeoljoapaaW.PrintLast Go.Proofs.YtpndhkeoljoapaaW.PrintMore
set_option linter.unusedVariables false
set_option linter.unusedSimpArgs false
theorem sends9_l1 (vs a : List VVert) (m : List VMsg) (hm : m.length ≤ 100000) (v : Nat) (r : Bool) : ∀ (d j : Nat) (tw : Bool), m.length - j = d → j ≤ m.length → Ev (fun k => modillionlaw09_SeqSends.l1 k vs a m (v : Int) (tw || (m.drop j).any (fun x => x.f1 == (v : Int))) (m.length : Int)) r → Ev (fun k => modillionlaw09_SeqSends.l1 k vs a m (v : Int) tw (j : Int)) r
  | 0, j, tw, hd, hj, h => by
    rw [List.drop_of_length_le (by omega), List.any_nil, Bool.or_false] at h
    obtain rfl : j = m.length := by omega
    exact h
  | d + 1, j, tw, hd, hj, h => by
    have hlt : j < m.length := by omega
    rw [List.drop_eq_getElem_cons hlt, List.any_cons] at h
    cases tw with
    | true =>
      refine Ev.step (fun k => ?_) (sends9_l1 vs a m hm v r d (j + 1) true (by omega) (by omega) (by simpa using h))
      rw [modillionlaw09_SeqSends.l1, if_pos (by omega), if_pos rfl, wrapt (by omega) (by omega)]
      rfl
    | false =>
      refine Ev.step (fun k => ?_) (sends9_l1 vs a m hm v r d (j + 1) (m[j].f1 == (v : Int)) (by omega) (by omega) (by simpa using h))
      rw [modillionlaw09_SeqSends.l1, if_pos (by omega), if_neg Bool.false_ne_true, if_pos (by omega), rdM9 m j hlt, wrapt (by omega) (by omega)]
      rfl
theorem sends9_l0 (vs a : List VVert) (m : List VMsg) (hm : m.length ≤ 100000) (ha : a.length ≤ 1000) (hl : a.length = vs.length) (hf : ∀ (v : Nat) (h : v < a.length), a[v].f0 = (v : Int) ∧ a[v].f3 = m.any (fun x => x.f1 == (v : Int)) ∧ (a[v].f3 = false → a[v].f4 = 0)) : ∀ (d v : Nat), a.length - v = d → v ≤ a.length → Ev (fun k => modillionlaw09_SeqSends.l0 k vs a m (v : Int)) true
  | 0, v, hd, hv => by
    refine Ev.step (fun k => ?_) (Ev.now _)
    rw [modillionlaw09_SeqSends.l0, if_neg (by omega), hl, beq_self_eq_true]
  | d + 1, v, hd, hv => by
    have hlt : v < a.length := by omega
    obtain ⟨h1, h2, h3⟩ := hf v hlt
    refine Ev.step (f := fun k => modillionlaw09_SeqSends.l1 k vs a m (v : Int) false ((0 : Nat) : Int)) (fun k => by rw [modillionlaw09_SeqSends.l0, if_pos (by omega)]; rfl) ?_
    refine sends9_l1 vs a m hm v true m.length 0 false rfl (Nat.zero_le _) ?_
    rw [List.drop_zero, Bool.false_or, ← h2]
    refine Ev.step (fun k => ?_) (sends9_l0 vs a m hm ha hl hf d (v + 1) (by omega) (by omega))
    rw [modillionlaw09_SeqSends.l1, if_neg (by omega), if_pos (by omega), if_pos (by omega), rdV9 a v hlt, if_pos h1, wrapt (by omega) (by omega), bne_self_eq_false, if_neg Bool.false_ne_true]
    cases hq : a[v].f3 with
    | true => rw [if_pos rfl]; rfl
    | false => rw [if_neg Bool.false_ne_true, if_pos (h3 hq)]; rfl
theorem SeqSends : ∀ (a0_0 : Int) (l0_1 : List P.S45) (a1_0 : ByteArray) (a1_1 a1_2 : Int) (a2 : Int) (l3 : List P.S50), (Lit.int .i64 a0_0).wf = true → (∀ x ∈ l0_1, Open.wfE x) → (Lit.int .i64 a1_1).wf = true → (Lit.int .i64 a1_2).wf = true → (Lit.int .i64 a2).wf = true → (∀ x ∈ l3, Open.wfV x) → ∃ k, P.modillionlaw09_SeqSends.f k a0_0 l0_1 a1_0 a1_1 a1_2 a2 l3 = some true := by
  intro n l tag src steps at_ vs _ _ _ _ _ _
  refine Ev.rounds ?_
  unfold modillionlaw09_SeqSends.f
  refine Ev.bind awake09 (Ev.congr (fun k => if_pos rfl) ?_)
  have triv : Ev (fun k => modillionlaw09_SeqSends.j0 k at_ vs true n l tag src steps) true := Ev.step (f := fun k => (modillionlaw09_awake.f k).bind fun t => some t) (fun k => by rw [modillionlaw09_SeqSends.j0, if_pos rfl]) (Ev.bind awake09 (Ev.now _))
  by_cases hl : (l.length : Int) > 60
  · exact Ev.congr (fun k => if_pos hl) triv
  refine Ev.congr (fun k => if_neg hl) ?_
  by_cases hv : (vs.length : Int) > 70
  · rw [decide_eq_true hv]
    exact triv
  rw [decide_eq_false hv]
  refine Ev.step (f := fun k => if (nextR n l tag.toList src steps at_ vs).2.2 = 0 then modillionlaw09_SeqSends.l0 k vs (nextR n l tag.toList src steps at_ vs).1 (nextR n l tag.toList src steps at_ vs).2.1 0 else if ((nextR n l tag.toList src steps at_ vs).1.length : Int) = 0 then some (((nextR n l tag.toList src steps at_ vs).2.1.length : Int) == 0) else some false) (fun k => ?_) ?_
  · rw [modillionlaw09_SeqSends.j0, if_neg Bool.false_ne_true, own09 n l (by omega), Option.bind_some, Option.bind_some, if_pos (by simp; omega), List.nil_append]
    show (seq_Next.f n l tag src steps at_ vs).bind _ = _
    rw [next_f n l tag src steps at_ vs (by omega) (by omega), Option.bind_some]
  by_cases he : (nextR n l tag.toList src steps at_ vs).2.2 = 0
  · refine Ev.congr (fun k => if_pos he) ?_
    obtain ⟨hj, h1, h2, h3, h4, h5, s, hs, e1, e2, e3⟩ := nextR_ok he
    have hk := (job_of hj).2.2.1
    have hp : (sortMsg s).Perm s := by
      unfold sortMsg
      exact List.mergeSort_perm _ _
    have hsl : s.length ≤ 70 * 60 := by
      have hq := stepsR_len (F := stepF n l tag.toList src steps at_) (m := 60) (fun y => Nat.le_trans (step_sends n l tag.toList src steps at_ y.f0 y.f1 y.f2 y.f3 y.f4) (by omega)) vs [] []
      have hz : (stepsR (stepF n l tag.toList src steps at_) vs [] []).2.2 = 0 := by
        clear he e1 e2 e3 hs h3 h4 hv triv
        have : ∀ (ws o : List VVert) (s : List VMsg), (∀ y ∈ ws, (stepF n l tag.toList src steps at_ y).2.2.2.2.2.2 = 0) → (stepsR (stepF n l tag.toList src steps at_) ws o s).2.2 = 0 := fun ws => by
          induction ws with
          | nil => intro o s _; rfl
          | cons y r ih =>
            intro o s hy
            rw [stepsR, if_pos (hy y (List.mem_cons_self ..))]
            exact ih _ _ (fun z hz => hy z (List.mem_cons_of_mem _ hz))
        exact this vs [] [] h5
      rw [(stepsR_ok _ _ _ _ hz).2.1, List.nil_append, ← hs, List.length_nil, Nat.zero_add] at hq
      have : vs.length * 60 ≤ 70 * 60 := Nat.mul_le_mul_right _ (by omega)
      omega
    rw [e1, e2]
    have hlen : (comeAll (cameR tag.toList s) 0 (vs.map fun y => vxOf (stepF n l tag.toList src steps at_ y))).length = vs.length := by rw [comeAll_len, List.length_map]
    refine sends9_l0 vs _ (sortMsg s) (by rw [hp.length_eq]; omega) (by omega) hlen (fun v h => ?_) _ 0 rfl (Nat.zero_le _)
    have hvl : v < vs.length := by omega
    rw [comeAll_get _ _ 0 v (by rw [List.length_map]; exact hvl) h, Nat.zero_add, List.getElem_map]
    have ci := came_is hk s (v : Int) (e3 v hvl)
    refine ⟨?_, ?_, ci.2⟩
    · show (stepF n l tag.toList src steps at_ vs[v]).1 = _
      rw [step_id (h5 _ (List.getElem_mem hvl)), idsOk_get vs 0 h4 v hvl, Nat.zero_add]
    · show (cameR tag.toList s (v : Int)).2.1 = _
      rw [ci.1, any_perm9 _ hp]
  · obtain ⟨e1, e2⟩ := nextR_err he
    refine Ev.congr (fun k => if_neg he) ?_
    rw [e1, e2]
    exact Ev.congr (fun k => if_pos rfl) (Ev.now _)
end Go.Proofs.Ytpndhkeoljoapaa.Pure
