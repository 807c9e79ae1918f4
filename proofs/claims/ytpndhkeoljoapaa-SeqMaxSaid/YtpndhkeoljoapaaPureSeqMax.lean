/- The plain law: max is the greatest who reaches one: each edge goes to no less. -/
import Derived.Test.YtpndhkeoljoapaaAwakeSeq
import Derived.Test.YtpndhkeoljoapaaSeqFlow
import Derived.Test.YtpndhkeoljoapaaOpEdge
namespace Go.Proofs.Ytpndhkeoljoapaa.Pure
open Go Go.RowKit Go.Proofs.Ytpndhkeoljoapaa Go.Proofs.Ytpndhkeoljoapaa.P Go.Proofs.YtpndhkeoljoapaaW.PrintWords Go.Proofs.YtpndhkeoljoapaaW.PrintLast Go.Proofs.YtpndhkeoljoapaaW.PrintMore
set_option linter.unusedVariables false
set_option linter.unusedSimpArgs false
theorem max_flow {n : Int} {l : List VEdge} (src : Int) (hb : badG n l = false) : Flow tMax l src (fun x => -x) (fun _ => True) (fun _ => true) (fun id x => 0 ≤ id → id < n → ∃ v : Int, 0 ≤ v ∧ v < n ∧ x = firstV tMax src v) := by
  refine ⟨rfl, fun steps at_ id val inn m ha _ _ _ => ?_, fun steps id m => ⟨_, rfl, fun _ => rfl⟩, fun _ _ => trivial, (fun _ _ h => by cases h), fun a b _ _ => ?_, fun e he a _ => ?_, ⟨0, trivial⟩, fun id h0 h1 => ⟨id, h0, h1, rfl⟩, fun e he a h h0 h1 => ?_⟩
  · show betterV (decide (at_ = 0)) (decide (at_ > 0) && true) (decide (inn > val)) val inn = _
    unfold betterV
    rw [decide_eq_false (show ¬ at_ = 0 by omega), if_neg Bool.false_ne_true, decide_eq_true ha, Bool.true_and, Bool.true_and]
    by_cases h : inn > val
    · rw [decide_eq_true h, if_pos rfl, if_pos (by omega)]
    · rw [decide_eq_false h, if_neg Bool.false_ne_true, if_neg (by omega)]
  · have e : foldV tMax a b = mx a b := rfl
    rw [e]
    unfold mx
    refine ⟨trivial, ?_⟩
    split
    · refine ⟨by omega, by omega, Or.inr rfl⟩
    · refine ⟨by omega, by omega, Or.inl rfl⟩
  · have e0 : weightV tMax e = 0 := rfl
    rw [e0]
    exact ⟨trivial, by omega, by omega⟩
  · have e0 : weightV tMax e = 0 := rfl
    obtain ⟨a0, a1, _, _⟩ := edge_in hb he
    rw [e0, Int.add_zero]
    exact h a0 a1
theorem maxi_l2 (s : List VVert) (x : List Int) (hs : s.length ≤ 1000) (v : Nat) (hv : v < x.length) (r : Bool) : ∀ (d j : Nat) (is : Bool), s.length - j = d → j ≤ s.length → Ev (fun k => modillionlaw09_SeqMax.l2 k s x (v : Int) (is || (s.drop j).any (fun y => y.f1 == rd x (v : Int))) (s.length : Int)) r → Ev (fun k => modillionlaw09_SeqMax.l2 k s x (v : Int) is (j : Int)) r
  | 0, j, is, hd, hj, h => by
    rw [List.drop_of_length_le (by omega), List.any_nil, Bool.or_false] at h
    obtain rfl : j = s.length := by omega
    exact h
  | d + 1, j, is, hd, hj, h => by
    have hlt : j < s.length := by omega
    rw [List.drop_eq_getElem_cons hlt, List.any_cons] at h
    cases is with
    | true =>
      refine Ev.step (fun k => ?_) (maxi_l2 s x hs v hv r d (j + 1) true (by omega) (by omega) (by simpa using h))
      rw [modillionlaw09_SeqMax.l2, if_pos (by omega), if_pos rfl, wrapt (by omega) (by omega)]
      rfl
    | false =>
      refine Ev.step (fun k => ?_) (maxi_l2 s x hs v hv r d (j + 1) (s[j].f1 == rd x (v : Int)) (by omega) (by omega) (by simpa using h))
      rw [modillionlaw09_SeqMax.l2, if_pos (by omega), if_neg Bool.false_ne_true, if_pos (by omega), if_pos (by omega), if_pos (by omega), rdV9 s j hlt, wrapt (by omega) (by omega)]
      rfl
theorem maxi_l1 (s : List VVert) (x : List Int) (hs : s.length ≤ 1000) (hx : x.length = s.length) (hf : ∀ v (h : v < s.length), s.any (fun y => y.f1 == rd x (v : Int)) = true ∧ ¬ rd x (v : Int) < s[v].f1) : ∀ (d v : Nat), x.length - v = d → v ≤ x.length → Ev (fun k => modillionlaw09_SeqMax.l1 k s x (v : Int)) true
  | 0, v, hd, hv => by
    refine Ev.step (fun k => ?_) (Ev.now _)
    rw [modillionlaw09_SeqMax.l1, if_neg (by omega)]
  | d + 1, v, hd, hv => by
    have hlt : v < s.length := by omega
    obtain ⟨h1, h2⟩ := hf v hlt
    refine Ev.step (f := fun k => modillionlaw09_SeqMax.l2 k s x (v : Int) false ((0 : Nat) : Int)) (fun k => by rw [modillionlaw09_SeqMax.l1, if_pos (by omega)]; rfl) ?_
    refine maxi_l2 s x hs v (by omega) true s.length 0 false rfl (Nat.zero_le _) ?_
    rw [List.drop_zero, h1]
    refine Ev.step (fun k => ?_) (maxi_l1 s x hs hx hf d (v + 1) (by omega) (by omega))
    rw [modillionlaw09_SeqMax.l2, if_neg (by omega), if_pos (by rfl), if_pos (by omega), if_pos (by omega), if_pos (by omega), rdV9 s v hlt, if_neg h2, wrapt (by omega) (by omega)]
    rfl
theorem maxi_l0 (s : List VVert) (x : List Int) (n : Int) (l : List VEdge) (hl : l.length ≤ 1000) (hr : ∀ e ∈ l, 0 ≤ e.f0 ∧ e.f0 < (x.length : Int) ∧ 0 ≤ e.f1 ∧ e.f1 < (x.length : Int)) (he : ∀ e ∈ l, ¬ rd x e.f1 < rd x e.f0) (h1 : Ev (fun k => modillionlaw09_SeqMax.l1 k s x 0) true) : ∀ (d i : Nat), l.length - i = d → i ≤ l.length → Ev (fun k => modillionlaw09_SeqMax.l0 k s x (i : Int) n l) true
  | 0, i, hd, hi => by
    refine Ev.step (fun k => ?_) h1
    rw [modillionlaw09_SeqMax.l0, if_neg (by omega)]
  | d + 1, i, hd, hi => by
    have hlt : i < l.length := by omega
    obtain ⟨a0, a1, b0, b1⟩ := hr _ (List.getElem_mem hlt)
    refine Ev.step (fun k => ?_) (maxi_l0 s x n l hl hr he h1 d (i + 1) (by omega) (by omega))
    rw [modillionlaw09_SeqMax.l0, if_pos (by omega), if_pos (by omega), rdE7 l i hlt, if_pos b0, if_pos b1, if_pos a0, if_pos a1, if_neg (he _ (List.getElem_mem hlt)), wrapt (by omega) (by omega)]
    rfl
theorem SeqMax : ∀ (a0_0 : Int) (l0_1 : List P.S45), (Lit.int .i64 a0_0).wf = true → (∀ x ∈ l0_1, Open.wfE x) → ∃ k, P.modillionlaw09_SeqMax.f k a0_0 l0_1 = some true := by
  intro n l _ _
  refine Ev.rounds ?_
  unfold modillionlaw09_SeqMax.f
  refine Ev.bind awake09 (Ev.congr (fun k => if_pos rfl) ?_)
  have triv : Ev (fun k => modillionlaw09_SeqMax.j0 k true n l) true := Ev.step (f := fun k => (modillionlaw09_awake.f k).bind fun t => some t) (fun k => by rw [modillionlaw09_SeqMax.j0, if_pos rfl]) (Ev.bind awake09 (Ev.now _))
  by_cases hl : (l.length : Int) > 60
  · exact Ev.congr (fun k => if_pos hl) triv
  refine Ev.congr (fun k => if_neg hl) ?_
  by_cases hn : n > 12
  · rw [decide_eq_true hn]
    exact triv
  rw [decide_eq_false hn]
  have hs := start_f n l ⟨#[109, 97, 120]⟩ 0 20 (by omega)
  have hr := run_f n l ⟨#[109, 97, 120]⟩ 0 20 (by omega)
  rw [show (⟨#[109, 97, 120]⟩ : ByteArray).toList = tMax by simp only [ByteArray.toList_eq]] at hs hr
  refine Ev.step (f := fun k => (seq_Start.f k n l ⟨#[109, 97, 120]⟩ 0 20).bind fun bt351 => ((seq_Run.f k n l ⟨#[109, 97, 120]⟩ 0 20).bind fun bt359 => (if bt351.2 = 0 then (modillionlaw09_SeqMax.j1 k bt351.1 bt359.1 (bt359.2.2 != 0) n l) else (modillionlaw09_SeqMax.j1 k bt351.1 bt359.1 true n l)))) (fun k => by rw [modillionlaw09_SeqMax.j0, if_neg Bool.false_ne_true, own09 n l (by omega), Option.bind_some]; rfl) ?_
  refine Ev.bind hs (Ev.bind hr ?_)
  have odd : ∀ s, (runR n l tMax 0 20).1 = [] → Ev (fun k => modillionlaw09_SeqMax.j1 k s (runR n l tMax 0 20).1 true n l) true := fun s e => by
    rw [e]
    exact Ev.step (fun k => by rw [modillionlaw09_SeqMax.j1, if_pos rfl]; rfl) (Ev.now _)
  by_cases he : (runR n l tMax 0 20).2.2 = 0
  · have hjb := runR_job he
    have hb := (job_of hjb).1
    obtain ⟨hn1, hn2⟩ := job_n hjb
    unfold startR
    rw [hjb, if_pos rfl]
    refine Ev.congr (fun k => if_pos rfl) ?_
    rw [show ((runR n l tMax 0 20).2.2 != 0) = false by rw [he]; rfl]
    obtain ⟨ws, k', hx, I, hq⟩ := flow_run (max_flow 0 hb) hjb (x := (runR n l tMax 0 20).1) (m := (runR n l tMax 0 20).2.1) (Prod.ext rfl (Prod.ext rfl he))
    have fe := flow_end I hb (by omega) hq
    have hln := I.len
    have hsc := startV_count n tMax 0
    rw [hx]
    have hxl : (ws.map (·.f1)).length = ws.length := List.length_map ..
    refine Ev.step (f := fun k => modillionlaw09_SeqMax.l0 k (startV n tMax 0) (ws.map (·.f1)) ((0 : Nat) : Int) n l) (fun k => by rw [modillionlaw09_SeqMax.j1, if_neg Bool.false_ne_true]; rfl) ?_
    refine maxi_l0 _ _ n l (by omega) (fun e h => by have := edge_in hb h; omega) (fun e h => ?_) ?_ l.length 0 rfl (Nat.zero_le _)
    · rw [rd_vx, rd_vx]
      have := fe e h
      have e0 : weightV tMax e = 0 := rfl
      rw [e0] at this
      omega
    · refine maxi_l1 (startV n tMax 0) (ws.map (·.f1)) (by omega) (by omega) (fun v hv => ?_) _ 0 rfl (Nat.zero_le _)
      have hvw : v < ws.length := by omega
      have ev : rd (ws.map (·.f1)) (v : Int) = ws[v].f1 := by
        rw [rd_vx]
        show (rd_T50 ws (v : Int)).f1 = _
        rw [rdV9 ws v hvw]
      have es : (startV n tMax 0)[v] = ⟨(v : Int), firstV tMax 0 (v : Int), true, false, 0⟩ := by simp only [startV, List.getElem_map, List.getElem_range]
      have hm := List.getElem_mem hvw
      have hid := I.ids v hvw
      rw [ev, es]
      refine ⟨?_, ?_⟩
      · obtain ⟨u, u0, u1, hu⟩ := (I.good _ hm).1 (by omega) (by omega)
        refine List.any_eq_true.mpr ⟨⟨u, firstV tMax 0 u, true, false, 0⟩, ?_, by rw [hu]; exact beq_self_eq_true _⟩
        unfold startV
        exact List.mem_map.mpr ⟨u.toNat, List.mem_range.mpr (by omega), by rw [show ((u.toNat : Nat) : Int) = u by omega]⟩
      · have := I.mono _ hm
        rw [hid] at this
        show ¬ ws[v].f1 < firstV tMax 0 (v : Int)
        omega
  · have hrn := runR_err he
    unfold startR
    cases hjb : jobB n l tMax 0 20 with
    | true =>
      rw [if_pos rfl]
      refine Ev.congr (fun k => if_pos rfl) ?_
      rw [show ((runR n l tMax 0 20).2.2 != 0) = true from bne_iff_ne.mpr he]
      exact odd _ hrn
    | false => exact Ev.congr (fun k => if_neg (by rw [if_neg Bool.false_ne_true]; decide)) (odd _ hrn)
end Go.Proofs.Ytpndhkeoljoapaa.Pure
