/- The plain law: who doesn't go on, and to whom nothing came, stays as he is; what is sent goes along edges. -/
import Derived.Test.YtdmihkffjbapjaaOut
import Derived.Test.YtdmihkffjbapjaaOpEdge
namespace Go.Proofs.Ytdmihkffjbapjaa.Pure
open Go Go.RowKit Go.Proofs.Ytdmihkffjbapjaa Go.Proofs.Ytdmihkffjbapjaa.P Go.Proofs.YtdmihkffjbapjaaW.PrintWords Go.Proofs.YtdmihkffjbapjaaW.PrintLast Go.Proofs.YtdmihkffjbapjaaW.PrintMore
set_option linter.unusedVariables false
set_option linter.unusedSimpArgs false
def alongB (id tw : Int) (e : VEdge) : Bool := e.f0 == id && e.f1 == tw
theorem quiet_l1 (ms : List VMsg) (i : Nat) (hi : i < ms.length) (n : Int) (l : List VEdge) (hl : l.length ≤ 1000) (tag : ByteArray) (src steps id val : Int) (act has : Bool) (inn y0 y1 : Int) (y2 y3 : Bool) (y4 : Int) (r : Bool) : ∀ (d j : Nat) (is : Bool), l.length - j = d → j ≤ l.length → Ev (fun k => modillionlaw07_ProgQuiet.l1 k ms (i : Int) (is || (l.drop j).any (alongB id ms[i].f1)) (l.length : Int) n l tag src steps id val act has inn y0 y1 y2 y3 y4) r → Ev (fun k => modillionlaw07_ProgQuiet.l1 k ms (i : Int) is (j : Int) n l tag src steps id val act has inn y0 y1 y2 y3 y4) r
  | 0, j, is, hd, hj, h => by
    rw [List.drop_of_length_le (by omega), List.any_nil, Bool.or_false] at h
    obtain rfl : j = l.length := by omega
    exact h
  | d + 1, j, is, hd, hj, h => by
    have hlt : j < l.length := by omega
    rw [List.drop_eq_getElem_cons hlt, List.any_cons] at h
    cases is with
    | true =>
      refine Ev.step (fun k => ?_) (quiet_l1 ms i hi n l hl tag src steps id val act has inn y0 y1 y2 y3 y4 r d (j + 1) true (by omega) (by omega) (by simpa using h))
      rw [modillionlaw07_ProgQuiet.l1, if_pos (by omega), if_pos rfl, wrapt (by omega) (by omega)]
      rfl
    | false =>
      refine Ev.step (fun k => ?_) (quiet_l1 ms i hi n l hl tag src steps id val act has inn y0 y1 y2 y3 y4 r d (j + 1) (alongB id ms[i].f1 l[j]) (by omega) (by omega) (by simpa using h))
      rw [modillionlaw07_ProgQuiet.l1, if_pos (by omega), if_neg Bool.false_ne_true, if_pos (by omega), rdE7 l j hlt, wrapt (by omega) (by omega)]
      unfold alongB
      by_cases he : l[j].f0 = id
      · rw [if_pos he, if_pos (by omega), if_pos (by omega), rdM7 ms i hi, he, beq_self_eq_true, Bool.true_and]
        rfl
      · rw [if_neg he, beq_eq_false_iff_ne.mpr he, Bool.false_and]
        rfl
theorem quiet_l0 (ms : List VMsg) (hm : ms.length ≤ 1000) (n : Int) (l : List VEdge) (hl : l.length ≤ 1000) (tag : ByteArray) (src steps id val : Int) (act has : Bool) (inn y1 : Int) (y2 : Bool) (hf : ∀ (i : Nat) (h : i < ms.length), ms[i].f0 = id ∧ l.any (alongB id ms[i].f1) = true) (ha : ∀ (i : Nat) (h : i + 1 < ms.length), ms[i].f1 < ms[i + 1].f1) (hy : y2 = true → tag.toList = tRank) : ∀ (d i : Nat), ms.length - i = d → i ≤ ms.length → Ev (fun k => modillionlaw07_ProgQuiet.l0 k ms (i : Int) n l tag src steps id val act has inn id y1 y2 false 0) true
  | 0, i, hd, hi => by
    refine Ev.step (fun k => ?_) (Ev.now _)
    rw [modillionlaw07_ProgQuiet.l0, if_neg (by omega), if_pos rfl, if_neg Bool.false_ne_true, if_pos rfl]
    cases y2 with
    | false => rfl
    | true =>
      rw [if_pos rfl, hy rfl]
      rfl
  | d + 1, i, hd, hi => by
    have hlt : i < ms.length := by omega
    obtain ⟨h1, h2⟩ := hf i hlt
    refine Ev.step (f := fun k => modillionlaw07_ProgQuiet.l1 k ms (i : Int) false ((0 : Nat) : Int) n l tag src steps id val act has inn id y1 y2 false 0) (fun k => by rw [modillionlaw07_ProgQuiet.l0, if_pos (by omega)]; rfl) ?_
    refine quiet_l1 ms i hlt n l hl tag src steps id val act has inn id y1 y2 false 0 true l.length 0 false (by omega) (by omega) ?_
    rw [List.drop_zero, h2]
    refine Ev.step (fun k => ?_) (quiet_l0 ms hm n l hl tag src steps id val act has inn y1 y2 hf ha hy d (i + 1) (by omega) (by omega))
    rw [modillionlaw07_ProgQuiet.l1, if_neg (by omega), if_pos (by omega), if_pos (by omega), rdM7 ms i hlt, if_pos h1, if_pos (by rfl), wrapt (n := (i : Int) + 1) (by omega) (by omega)]
    by_cases hz : (i : Int) > 0
    · rw [if_pos hz, wrapt (by omega) (by omega), if_pos (by omega), if_pos (by omega), show (i : Int) - 1 = ((i - 1 : Nat) : Int) by omega, rdM7 ms (i - 1) (by omega), if_neg (by
        have := ha (i - 1) (by omega)
        simp only [show i - 1 + 1 = i by omega] at this
        omega)]
      rfl
    · rw [if_neg hz]
      rfl
theorem ProgQuiet : ∀ (a0_0 : Int) (l0_1 : List P.S46) (a1_0 : ByteArray) (a1_1 a1_2 : Int) (a2 : Int) (a3_0 a3_1 : Int) (a3_2 a3_3 : Bool) (a3_4 : Int), (Lit.int .i64 a0_0).wf = true → (∀ x ∈ l0_1, Open.wfE x) → (Lit.int .i64 a1_1).wf = true → (Lit.int .i64 a1_2).wf = true → (Lit.int .i64 a2).wf = true → (Lit.int .i64 a3_0).wf = true → (Lit.int .i64 a3_1).wf = true → (Lit.int .i64 a3_4).wf = true → ∃ k, P.modillionlaw07_ProgQuiet.f k a0_0 l0_1 a1_0 a1_1 a1_2 a2 a3_0 a3_1 a3_2 a3_3 a3_4 = some true := by
  intro n l tag src steps at_ id val act has inn _ _ _ _ _ _ _ _
  refine Ev.rounds ?_
  have aw : Ev (fun k => modillionlaw07_awake.f k) true := ⟨20, fun k hk => awake07 k hk⟩
  unfold modillionlaw07_ProgQuiet.f
  refine Ev.bind aw (Ev.congr (fun k => if_pos rfl) ?_)
  by_cases hl : (l.length : Int) > 100
  · refine Ev.step (fun k => ?_) (Ev.bind aw (Ev.now _))
    rw [modillionlaw07_ProgQuiet.j0, if_pos (decide_eq_true hl)]
  · refine Ev.step (f := fun k => (some (stepR n l tag.toList src steps at_ id val act has inn)).bind fun bt137 => (if bt137.2.2.2.2.2.2 = 0 then (if act = true then (modillionlaw07_ProgQuiet.j1 k bt137.2.2.2.2.2.1 false n l tag src steps id val act has inn bt137.1 bt137.2.1 bt137.2.2.1 bt137.2.2.2.1 bt137.2.2.2.2.1) else (modillionlaw07_ProgQuiet.j1 k bt137.2.2.2.2.2.1 (!has) n l tag src steps id val act has inn bt137.1 bt137.2.1 bt137.2.2.1 bt137.2.2.2.1 bt137.2.2.2.2.1)) else (if (bt137.2.2.2.2.2.1.length : Int) = 0 then (some (bt137.1 == 0 && (bt137.2.1 == 0 && (!bt137.2.2.1 && (!bt137.2.2.2.1 && (bt137.2.2.2.2.1 == 0)))))) else (some false)))) (fun k => ?_) ?_
    · rw [modillionlaw07_ProgQuiet.j0, if_neg (by simpa using hl), own07 n l (by omega), Option.bind_some]
      show (prog_Step.f n l tag src steps at_ id val act has inn).bind _ = _
      rw [step_f n l tag src steps at_ id val act has inn (by omega)]
    obtain ⟨e, he, hr⟩ | ⟨rfl, rfl, hr⟩ | ⟨hah, hj, _, _, _, s, hs, hr⟩ := step_ways n l tag.toList src steps at_ id val act has inn
    · rw [hr]
      refine Ev.congr (f := fun _ => some true) (fun k => ?_) (Ev.now _)
      rw [Option.bind_some, if_neg he]
      rfl
    · rw [hr]
      refine Ev.congr (f := fun k => modillionlaw07_ProgQuiet.j1 k [] true n l tag src steps id val false false inn id val false false inn) (fun k => rfl) ?_
      refine Ev.step (fun k => ?_) (Ev.now _)
      rw [modillionlaw07_ProgQuiet.j1, if_pos rfl]
      simp
    · rw [hr]
      obtain ⟨_, hd, hk, _⟩ := job_of hj
      refine Ev.congr (f := fun k => modillionlaw07_ProgQuiet.j1 k (if s.2.2.1 = true then (outV l id).map (sendV tag.toList id s.2.2.2) else []) false n l tag src steps id val act has inn id s.1 s.2.1 false 0) (fun k => ?_) ?_
      · rw [Option.bind_some, if_pos rfl]
        cases act with
        | true => rfl
        | false =>
          obtain rfl : has = true := by simpa using hah
          rfl
      generalize hM : (if s.2.2.1 = true then (outV l id).map (sendV tag.toList id s.2.2.2) else []) = M
      have ol := out_len l id
      have hM2 : M = [] ∨ M = (outV l id).map (sendV tag.toList id s.2.2.2) := by
        rw [← hM]
        cases s.2.2.1
        · exact Or.inl rfl
        · exact Or.inr rfl
      refine Ev.step (f := fun k => modillionlaw07_ProgQuiet.l0 k M ((0 : Nat) : Int) n l tag src steps id val act has inn id s.1 s.2.1 false 0) (fun k => ?_) ?_
      · rw [modillionlaw07_ProgQuiet.j1, if_neg Bool.false_ne_true]
        rfl
      refine quiet_l0 M ?_ n l (by omega) tag src steps id val act has inn s.1 s.2.1 (fun i h => ?_) (fun i h => ?_) (fun h => ?_) M.length 0 (by omega) (by omega)
      · rcases hM2 with rfl | rfl
        · simp
        · rw [List.length_map]
          omega
      · rcases hM2 with rfl | rfl
        · simp at h
        · rw [List.getElem_map]
          refine ⟨rfl, ?_⟩
          have hm := List.getElem_mem (show i < (outV l id).length by simpa using h)
          obtain ⟨h1, h2⟩ := out_mem hm
          exact List.any_eq_true.mpr ⟨_, h1, by unfold alongB sendV; simp [h2]⟩
      · rcases hM2 with rfl | rfl
        · simp at h
        · rw [List.getElem_map, List.getElem_map]
          have := List.pairwise_iff_getElem.mp (out_ascends hd id) i (i + 1) (by rw [List.length_map] at h; omega) (by simpa using h) (by omega)
          exact this
      · exact goes_rank hk src steps at_ id val _ _ has (hs ▸ h)
end Go.Proofs.Ytdmihkffjbapjaa.Pure
