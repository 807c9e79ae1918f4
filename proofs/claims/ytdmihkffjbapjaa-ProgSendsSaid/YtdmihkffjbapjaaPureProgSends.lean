/- The plain law: each neighbour is sent to, or none is; of all programs but sssp by the same value. -/
import Derived.Test.YtdmihkffjbapjaaOut
import Derived.Test.YtdmihkffjbapjaaOpEdge
namespace Go.Proofs.Ytdmihkffjbapjaa.Pure
open Go Go.RowKit Go.Proofs.Ytdmihkffjbapjaa Go.Proofs.Ytdmihkffjbapjaa.P Go.Proofs.YtdmihkffjbapjaaW.PrintWords Go.Proofs.YtdmihkffjbapjaaW.PrintLast Go.Proofs.YtdmihkffjbapjaaW.PrintMore
set_option linter.unusedVariables false
set_option linter.unusedSimpArgs false
theorem sends_l1 (ms : List VMsg) (hm : ms.length ≤ 1000) (c : Int) (tag : ByteArray) (src steps : Int) (v : Int) (hv : tag.toList = sSssp ∨ ∀ x ∈ ms, x.f2 = v) : ∀ (d i : Nat), ms.length - i = d → i ≤ ms.length → Ev (fun k => modillionlaw07_ProgSends.l1 k ms c (i : Int) tag src steps) ((ms.length : Int) == c)
  | 0, i, hd, hi => by
    refine Ev.step (fun k => ?_) (Ev.now _)
    rw [modillionlaw07_ProgSends.l1, if_neg (by omega)]
  | d + 1, i, hd, hi => by
    refine Ev.step (fun k => ?_) (sends_l1 ms hm c tag src steps v hv d (i + 1) (by omega) (by omega))
    have hlt : i < ms.length := by omega
    rw [modillionlaw07_ProgSends.l1, if_pos (by omega), wrapt (by omega) (by omega)]
    by_cases ht : tag.toList = sSssp
    · rw [if_pos ht]
      rfl
    · rw [if_neg ht]
      have hv := hv.resolve_left ht
      rw [if_pos (by omega), if_pos (by omega), rdM7 ms i hlt, show (0 : Int) = ((0 : Nat) : Int) from rfl, rdM7 ms 0 (by omega), hv _ (List.getElem_mem hlt), hv _ (List.getElem_mem (show 0 < ms.length by omega)), if_pos rfl]
      rfl
theorem sends_l0 (ms : List VMsg) (l : List VEdge) (hl : l.length ≤ 1000) (n : Int) (tag : ByteArray) (src steps id val : Int) (act has : Bool) (inn : Int) (r : Bool) : ∀ (d i c : Nat), l.length - i = d → i ≤ l.length → c ≤ i → Ev (fun k => modillionlaw07_ProgSends.l1 k ms ((c + ((l.drop i).filter fun e => e.f0 == id).length : Nat) : Int) 0 tag src steps) r → Ev (fun k => modillionlaw07_ProgSends.l0 k ms (c : Int) (i : Int) n l tag src steps id val act has inn) r
  | 0, i, c, hd, hi, hc, h => by
    refine Ev.step (fun k => ?_) h
    rw [modillionlaw07_ProgSends.l0, if_neg (by omega), List.drop_of_length_le (by omega)]
    rfl
  | d + 1, i, c, hd, hi, hc, h => by
    have hlt : i < l.length := by omega
    rw [List.drop_eq_getElem_cons hlt, List.filter_cons] at h
    by_cases he : l[i].f0 = id
    · rw [if_pos (by simpa using he)] at h
      refine Ev.step (fun k => ?_) (sends_l0 ms l hl n tag src steps id val act has inn r d (i + 1) (c + 1) (by omega) (by omega) (by omega) (by
        rw [List.length_cons] at h
        rw [show c + 1 + ((l.drop (i + 1)).filter fun e => e.f0 == id).length = c + (((l.drop (i + 1)).filter fun e => e.f0 == id).length + 1) by omega]
        exact h))
      rw [modillionlaw07_ProgSends.l0, if_pos (by omega), if_pos (by omega), rdE7 l i hlt, if_pos he, wrapt (by omega) (by omega), wrapt (by omega) (by omega)]
      rfl
    · rw [if_neg (by simpa using he)] at h
      refine Ev.step (fun k => ?_) (sends_l0 ms l hl n tag src steps id val act has inn r d (i + 1) c (by omega) (by omega) (by omega) h)
      rw [modillionlaw07_ProgSends.l0, if_pos (by omega), if_pos (by omega), rdE7 l i hlt, if_neg he, wrapt (by omega) (by omega)]
      rfl
theorem sent_same (l : List VEdge) (t : List UInt8) (ht : t ≠ sSssp) (id w : Int) : ∀ x ∈ l.map (sendV t id w), x.f2 = w + (if t = sBfs then 1 else 0) := fun x hx => by
  obtain ⟨e, _, rfl⟩ := List.mem_map.mp hx
  show w + weightV t e = _
  unfold weightV
  rw [if_neg ht]
theorem ProgSends : ∀ (a0_0 : Int) (l0_1 : List P.S46) (a1_0 : ByteArray) (a1_1 a1_2 : Int) (a2 : Int) (a3_0 a3_1 : Int) (a3_2 a3_3 : Bool) (a3_4 : Int), (Lit.int .i64 a0_0).wf = true → (∀ x ∈ l0_1, Open.wfE x) → (Lit.int .i64 a1_1).wf = true → (Lit.int .i64 a1_2).wf = true → (Lit.int .i64 a2).wf = true → (Lit.int .i64 a3_0).wf = true → (Lit.int .i64 a3_1).wf = true → (Lit.int .i64 a3_4).wf = true → ∃ k, P.modillionlaw07_ProgSends.f k a0_0 l0_1 a1_0 a1_1 a1_2 a2 a3_0 a3_1 a3_2 a3_3 a3_4 = some true := by
  intro n l tag src steps at_ id val act has inn _ _ _ _ _ _ _ _
  refine Ev.rounds ?_
  have aw : Ev (fun k => modillionlaw07_awake.f k) true := ⟨20, fun k hk => awake07 k hk⟩
  unfold modillionlaw07_ProgSends.f
  refine Ev.bind aw (Ev.congr (fun k => if_pos rfl) ?_)
  by_cases hl : (l.length : Int) > 100
  · refine Ev.step (fun k => ?_) (Ev.bind aw (Ev.now _))
    rw [modillionlaw07_ProgSends.j0, if_pos (decide_eq_true hl)]
  · refine Ev.step (f := fun k => if (stepR n l tag.toList src steps at_ id val act has inn).2.2.2.2.2.2 = 0 then modillionlaw07_ProgSends.j1 k (stepR n l tag.toList src steps at_ id val act has inn).2.2.2.2.2.1 (((stepR n l tag.toList src steps at_ id val act has inn).2.2.2.2.2.1.length : Int) == 0) n l tag src steps id val act has inn else modillionlaw07_ProgSends.j1 k (stepR n l tag.toList src steps at_ id val act has inn).2.2.2.2.2.1 true n l tag src steps id val act has inn) (fun k => ?_) ?_
    · rw [modillionlaw07_ProgSends.j0, if_neg (by simpa using hl), own07 n l (by omega), Option.bind_some]
      show (prog_Step.f n l tag src steps at_ id val act has inn).bind _ = _
      rw [step_f n l tag src steps at_ id val act has inn (by omega), Option.bind_some]
    have none_sent : Ev (fun k => modillionlaw07_ProgSends.j1 k [] true n l tag src steps id val act has inn) true := Ev.step (fun k => by rw [modillionlaw07_ProgSends.j1, if_pos rfl]; rfl) (Ev.now _)
    obtain ⟨e, he, hr⟩ | ⟨_, _, hr⟩ | ⟨_, _, _, _, _, s, hs, hr⟩ := step_ways n l tag.toList src steps at_ id val act has inn
    · rw [hr]
      exact Ev.congr (fun k => if_neg he) none_sent
    · rw [hr]
      exact Ev.congr (fun k => if_pos rfl) none_sent
    · rw [hr]
      refine Ev.congr (fun k => if_pos rfl) ?_
      show Ev (fun k => modillionlaw07_ProgSends.j1 k (if s.2.2.1 = true then (outV l id).map (sendV tag.toList id s.2.2.2) else []) (((if s.2.2.1 = true then (outV l id).map (sendV tag.toList id s.2.2.2) else []).length : Int) == 0) n l tag src steps id val act has inn) true
      cases hq : s.2.2.1 with
      | false => exact none_sent
      | true =>
        rw [if_pos rfl, List.length_map]
        by_cases hz : (outV l id).length = 0
        · rw [List.length_eq_zero_iff.mp hz]
          exact none_sent
        · rw [beq_eq_false_iff_ne.mpr (show ((outV l id).length : Int) ≠ 0 by omega)]
          have ol := out_len l id
          refine Ev.step (f := fun k => modillionlaw07_ProgSends.l0 k ((outV l id).map (sendV tag.toList id s.2.2.2)) ((0 : Nat) : Int) ((0 : Nat) : Int) n l tag src steps id val act has inn) (fun k => ?_) (sends_l0 _ l (by omega) n tag src steps id val act has inn true l.length 0 0 (by omega) (by omega) (by omega) ?_)
          · rw [modillionlaw07_ProgSends.j1, if_neg Bool.false_ne_true]
            rfl
          · have h1 := sends_l1 ((outV l id).map (sendV tag.toList id s.2.2.2)) (by rw [List.length_map]; omega) ((0 + ((l.drop 0).filter fun e => e.f0 == id).length : Nat) : Int) tag src steps (s.2.2.2 + (if tag.toList = sBfs then 1 else 0)) (by
              by_cases ht : tag.toList = sSssp
              · exact Or.inl ht
              · exact Or.inr (sent_same _ _ ht _ _)) ((outV l id).map (sendV tag.toList id s.2.2.2)).length 0 (by omega) (by omega)
            rw [List.drop_zero, Nat.zero_add, List.length_map, out_count, beq_self_eq_true] at h1
            rw [List.drop_zero, Nat.zero_add]
            exact h1
end Go.Proofs.Ytdmihkffjbapjaa.Pure
