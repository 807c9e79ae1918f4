/- The plain law: degree is how many edges come: of each vertex. -/
import Derived.Test.YtpndhkeoljoapaaAwakeSeq
import Derived.Test.YtpndhkeoljoapaaSeqFlow
import Derived.Test.YtpndhkeoljoapaaOpEdge
namespace Go.Proofs.Ytpndhkeoljoapaa.Pure
open Go Go.RowKit Go.Proofs.Ytpndhkeoljoapaa Go.Proofs.Ytpndhkeoljoapaa.P Go.Proofs.YtpndhkeoljoapaaW.PrintWords Go.Proofs.YtpndhkeoljoapaaW.PrintLast Go.Proofs.YtpndhkeoljoapaaW.PrintMore
set_option linter.unusedVariables false
set_option linter.unusedSimpArgs false
/-- How many edges come to a vertex. -/
def cntE (l : List VEdge) (i : Int) : Nat := l.countP fun e => e.f1 == i
theorem cnt_split (p : VEdge → Bool) (N : Nat) : ∀ l : List VEdge, l.countP (fun e => p e && decide (0 ≤ e.f0 ∧ e.f0 < ((N + 1 : Nat) : Int))) = l.countP (fun e => p e && decide (0 ≤ e.f0 ∧ e.f0 < (N : Int))) + l.countP (fun e => e.f0 == (N : Int) && p e)
  | [] => rfl
  | e :: l => by
    rw [List.countP_cons, List.countP_cons, List.countP_cons, cnt_split p N l]
    cases hp : p e with
    | false =>
      simp only [Bool.false_and, Bool.and_false, Bool.false_eq_true, if_false]
      omega
    | true =>
      rw [Bool.true_and, Bool.true_and, Bool.and_true]
      by_cases h0 : e.f0 = (N : Int)
      · rw [decide_eq_true (show 0 ≤ e.f0 ∧ e.f0 < ((N + 1 : Nat) : Int) by omega), decide_eq_false (show ¬ (0 ≤ e.f0 ∧ e.f0 < (N : Int)) by omega), beq_iff_eq.mpr h0, if_pos rfl, if_neg Bool.false_ne_true]
        omega
      · rw [beq_eq_false_iff_ne.mpr h0, if_neg Bool.false_ne_true]
        by_cases h1 : 0 ≤ e.f0 ∧ e.f0 < (N : Int)
        · rw [decide_eq_true (show 0 ≤ e.f0 ∧ e.f0 < ((N + 1 : Nat) : Int) by omega), decide_eq_true h1, if_pos rfl]
          omega
        · rw [decide_eq_false (show ¬ (0 ≤ e.f0 ∧ e.f0 < ((N + 1 : Nat) : Int)) by omega), decide_eq_false h1, if_neg Bool.false_ne_true]
          omega
theorem out_cnt (l : List VEdge) (id : Int) (p : VEdge → Bool) : (outV l id).countP p = l.countP fun e => e.f0 == id && p e := by
  unfold outV sortE
  rw [((List.mergeSort_perm l _).filter _).countP_eq, List.countP_filter]
  refine List.countP_congr fun e _ => ?_
  rw [Bool.and_comm]
def onesV (l : List VEdge) (N : Nat) : List VMsg := (List.range N).flatMap fun v : Nat => (outV l (v : Int)).map (sendV tDegree (v : Int) 1)
theorem ones_cnt (l : List VEdge) (i : Int) : ∀ N : Nat, (onesV l N).countP (fun m => m.f1 == i) = l.countP (fun e => e.f1 == i && decide (0 ≤ e.f0 ∧ e.f0 < (N : Int)))
  | 0 => by
    show (0 : Nat) = _
    symm
    rw [List.countP_eq_zero]
    intro e _
    rw [decide_eq_false (show ¬ (0 ≤ e.f0 ∧ e.f0 < ((0 : Nat) : Int)) by omega), Bool.and_false]
    exact Bool.false_ne_true
  | N + 1 => by
    have ih := ones_cnt l i N
    unfold onesV at ih ⊢
    rw [List.range_succ, List.flatMap_append, List.countP_append, ih, cnt_split, List.flatMap_cons, List.flatMap_nil, List.append_nil, List.countP_map]
    congr 1
    exact out_cnt l (N : Int) _
theorem ones_one (l : List VEdge) (N : Nat) : ∀ m ∈ onesV l N, m.f2 = 1 := fun m hm => by
  obtain ⟨v, _, hm⟩ := List.mem_flatMap.mp hm
  obtain ⟨e, _, rfl⟩ := List.mem_map.mp hm
  rfl
theorem cameL_ones : ∀ (q : List VMsg) (n r : Int), (∀ m ∈ q, m.f2 = 1) → cameLR tDegree q n 0 = (r, 0) → r = n + (q.length : Int)
  | [], n, r, hq, h => by
    have : n = r := congrArg Prod.fst h
    rw [List.length_nil]
    omega
  | m :: q, n, r, hq, h => by
    rw [cameLR, if_pos rfl] at h
    have hm := hq m (List.mem_cons_self ..)
    by_cases he : (foldA tDegree n m.f2).2 = 0
    · rw [he, foldA_ok he] at h
      have := cameL_ones q _ r (fun x hx => hq x (List.mem_cons_of_mem _ hx)) h
      have e : foldV tDegree n m.f2 = n + m.f2 := rfl
      rw [e, hm] at this
      rw [List.length_cons]
      omega
    · exfalso
      cases q with
      | nil =>
        have := congrArg Prod.snd h
        exact he this
      | cons x q =>
        rw [cameLR, if_neg he] at h
        exact he (congrArg Prod.snd h)
theorem came_ones (s : List VMsg) (hs : ∀ m ∈ s, m.f2 = 1) (v : Int) (h : (cameR tDegree s v).2.2 = 0) : (cameR tDegree s v).1 = ((s.countP fun m => m.f1 == v : Nat) : Int) ∧ ((cameR tDegree s v).2.1 = false → s.countP (fun m => m.f1 == v) = 0) := by
  have hk : knownB tDegree = true := rfl
  unfold cameR at h ⊢
  rw [if_pos hk] at h ⊢
  have hp : (sortMsg (s.filter fun x => x.f1 == v)).Perm (s.filter fun x => x.f1 == v) := by
    unfold sortMsg
    exact List.mergeSort_perm _ _
  have hlen : (sortMsg (s.filter fun x => x.f1 == v)).length = s.countP fun m => m.f1 == v := by
    rw [hp.length_eq, List.countP_eq_length_filter]
  have hin : ∀ m, m ∈ sortMsg (s.filter fun x => x.f1 == v) → m.f2 = 1 := fun m hm => hs m (List.mem_filter.mp (hp.subset hm)).1
  rw [← hlen]
  generalize sortMsg (s.filter fun x => x.f1 == v) = q at hin h ⊢
  cases q with
  | nil => exact ⟨rfl, fun _ => rfl⟩
  | cons m q =>
    rw [cameQR] at h ⊢
    have hm := hin m (List.mem_cons_self ..)
    have h1 : foldA tMax m.f2 m.f2 = (1, 0) := by
      rw [hm]
      rfl
    rw [h1] at h ⊢
    by_cases he : (cameLR tDegree q (1, (0 : Int)).1 (1, (0 : Int)).2).2 = 0
    · rw [if_pos he]
      have := cameL_ones q 1 _ (fun x hx => hin x (List.mem_cons_of_mem _ hx)) (Prod.ext rfl he)
      refine ⟨?_, fun hf => by cases hf⟩
      refine this.trans ?_
      rw [List.length_cons]
      omega
    · rw [if_neg he] at h
      exact absurd h he
theorem flatMap_same {α β : Type} {f g : α → List β} {l : List α} (h : ∀ y ∈ l, f y = g y) : l.flatMap f = l.flatMap g := by
  rw [List.flatMap_def, List.flatMap_def, List.map_congr_left h]
theorem deg_step (src steps at_ id val : Int) (has : Bool) (inn m : Int) : stepV tDegree src steps at_ id val has inn m = if (decide (at_ > 0) && has) = true then (inn, false, false, 0) else (val, false, at_ == 0, 1) := rfl
theorem deg_zero (v : Int) : firstV tDegree 0 v = 0 := rfl
/-- All vertices behind the step 0. -/
theorem deg_first {n steps : Int} {l : List VEdge} (h : (nextR n l tDegree 0 steps 0 (startV n tDegree 0)).2.2 = 0) :
    (nextR n l tDegree 0 steps 0 (startV n tDegree 0)).1.length = n.toNat ∧ ∀ i (hi : i < (nextR n l tDegree 0 steps 0 (startV n tDegree 0)).1.length), (nextR n l tDegree 0 steps 0 (startV n tDegree 0)).1[i].f1 = 0 ∧ (nextR n l tDegree 0 steps 0 (startV n tDegree 0)).1[i].f2 = false ∧ (nextR n l tDegree 0 steps 0 (startV n tDegree 0)).1[i].f4 = ((cntE l (i : Int) : Nat) : Int) ∧ ((nextR n l tDegree 0 steps 0 (startV n tDegree 0)).1[i].f3 = false → cntE l (i : Int) = 0) := by
  obtain ⟨hj, _, _, h3, h4, h5, s, hS, e1, _, e3⟩ := nextR_ok h
  have hb := (job_of hj).1
  have hn := job_n hj
  have hc := startV_count n tDegree 0
  have sget : ∀ i (hi : i < (startV n tDegree 0).length), (startV n tDegree 0)[i] = ⟨(i : Int), 0, true, false, 0⟩ := fun i hi => by
    simp only [startV, List.getElem_map, List.getElem_range, deg_zero]
  have smem : ∀ y ∈ startV n tDegree 0, y = ⟨y.f0, 0, true, false, 0⟩ := fun y hy => by
    obtain ⟨i, hi, rfl⟩ := List.mem_iff_getElem.mp hy
    rw [sget i hi]
  have hstep : ∀ y ∈ startV n tDegree 0, stepF n l tDegree 0 steps 0 y = (y.f0, 0, false, false, 0, (outV l y.f0).map (sendV tDegree y.f0 1), 0) := fun y hy => by
    have he := h5 y hy
    have ey := smem y hy
    unfold stepF at he ⊢
    rw [ey] at he ⊢
    obtain ⟨e, hne, hr⟩ | ⟨hq, _, _⟩ | ⟨_, _, _, _, _, q, hq, hr⟩ := step_ways n l tDegree 0 steps 0 y.f0 0 true false 0
    · rw [hr] at he
      exact absurd he hne
    · cases hq
    · rw [deg_step, if_neg (by decide)] at hq
      rw [hr, hq]
      rfl
  have hs2 : s = onesV l n.toNat := by
    rw [hS, flatMap_same (g := fun y => (outV l y.f0).map (sendV tDegree y.f0 1)) (fun y hy => by rw [hstep y hy])]
    unfold startV onesV
    rw [List.flatMap_map]
  have hcnt : ∀ i : Int, s.countP (fun m => m.f1 == i) = cntE l i := fun i => by
    rw [hs2, ones_cnt]
    unfold cntE
    refine List.countP_congr fun e he => ?_
    have := edge_in hb he
    rw [decide_eq_true (show 0 ≤ e.f0 ∧ e.f0 < (n.toNat : Int) by omega), Bool.and_true]
  have hone : ∀ m ∈ s, m.f2 = 1 := by
    rw [hs2]
    exact ones_one l _
  rw [e1]
  refine ⟨by rw [comeAll_len, List.length_map, hc], fun i hi => ?_⟩
  have hi' : i < (startV n tDegree 0).length := by rwa [comeAll_len, List.length_map] at hi
  rw [comeAll_get _ _ 0 i (by rw [List.length_map]; exact hi') hi, List.getElem_map, hstep _ (List.getElem_mem hi'), Nat.zero_add]
  obtain ⟨c1, c2⟩ := came_ones s hone (i : Int) (e3 i hi')
  rw [hcnt] at c1 c2
  exact ⟨rfl, rfl, c1, c2⟩
/-- All vertices behind the step 1: each holds what came; nothing is left to be done. -/
theorem deg_second {n steps : Int} {l : List VEdge} {vs : List VVert} (hv : ∀ i (hi : i < vs.length), vs[i].f1 = 0 ∧ vs[i].f2 = false ∧ vs[i].f4 = ((cntE l (i : Int) : Nat) : Int) ∧ (vs[i].f3 = false → cntE l (i : Int) = 0)) (h : (nextR n l tDegree 0 steps 1 vs).2.2 = 0) :
    (nextR n l tDegree 0 steps 1 vs).1.length = vs.length ∧ ∀ i (hi : i < (nextR n l tDegree 0 steps 1 vs).1.length), (nextR n l tDegree 0 steps 1 vs).1[i].f1 = ((cntE l (i : Int) : Nat) : Int) ∧ loudV (nextR n l tDegree 0 steps 1 vs).1[i] = false := by
  obtain ⟨hj, _, _, h3, h4, h5, s, hS, e1, _, e3⟩ := nextR_ok h
  have hstep : ∀ i (hi : i < vs.length), (stepF n l tDegree 0 steps 1 vs[i]).2.1 = ((cntE l (i : Int) : Nat) : Int) ∧ (stepF n l tDegree 0 steps 1 vs[i]).2.2.1 = false ∧ (stepF n l tDegree 0 steps 1 vs[i]).2.2.2.2.2.1 = [] := fun i hi => by
    have he := h5 _ (List.getElem_mem hi)
    obtain ⟨v1, v2, v3, v4⟩ := hv i hi
    generalize vs[i] = y at he v1 v2 v3 v4 ⊢
    unfold stepF at he ⊢
    obtain ⟨e, hne, hr⟩ | ⟨_, hq, hr⟩ | ⟨hq, _, _, _, _, q, hs, hr⟩ := step_ways n l tDegree 0 steps 1 y.f0 y.f1 y.f2 y.f3 y.f4
    · rw [hr] at he
      exact absurd he hne
    · rw [hr]
      refine ⟨?_, v2, rfl⟩
      show y.f1 = _
      rw [v1, v4 hq]
      rfl
    · have hh : y.f3 = true := by simpa [v2] using hq
      rw [hh, if_pos rfl, deg_step, if_pos (by decide)] at hs
      rw [hr, hs]
      exact ⟨v3, rfl, rfl⟩
  have hs0 : s = [] := by
    rw [hS, flatMap_same (g := fun _ => []) (fun y hy => by
      obtain ⟨i, hi, rfl⟩ := List.mem_iff_getElem.mp hy
      exact (hstep i hi).2.2)]
    simp
  rw [e1]
  refine ⟨by rw [comeAll_len, List.length_map], fun i hi => ?_⟩
  have hi' : i < vs.length := by rwa [comeAll_len, List.length_map] at hi
  rw [comeAll_get _ _ 0 i (by rw [List.length_map]; exact hi') hi, List.getElem_map, Nat.zero_add]
  refine ⟨(hstep i hi').1, ?_⟩
  have ci := (came_is (t := tDegree) rfl s (i : Int) (e3 i hi')).1
  unfold loudV
  show ((stepF n l tDegree 0 steps 1 vs[i]).2.2.1 || (cameR tDegree s (i : Int)).2.1) = false
  rw [(hstep i hi').2.1, ci, hs0]
  rfl
theorem deg_run {n steps : Int} {l : List VEdge} (hjb : jobB n l tDegree 0 steps = true) (hs : 2 ≤ steps) {x : List Int} {m : Int} (h : runR n l tDegree 0 steps = (x, m, 0)) : (x.length : Int) = n ∧ m ≤ 2 ∧ ∀ i : Nat, i < x.length → rd x (i : Int) = ((cntE l (i : Int) : Nat) : Int) := by
  have hn := job_n hjb
  unfold runR at h
  rw [hjb, if_pos rfl] at h
  obtain ⟨d, hd⟩ : ∃ d, steps.toNat = d + 2 := ⟨steps.toNat - 2, by omega⟩
  rw [hd, runL] at h
  have hl : (startV n tDegree 0).any loudV = true := by
    refine List.any_eq_true.mpr ⟨⟨((0 : Nat) : Int), firstV tDegree 0 ((0 : Nat) : Int), true, false, 0⟩, ?_, rfl⟩
    unfold startV
    exact List.mem_map.mpr ⟨0, List.mem_range.mpr (by omega), rfl⟩
  rw [hl, if_pos rfl] at h
  by_cases he : (nextR n l tDegree 0 steps 0 (startV n tDegree 0)).2.2 = 0
  · rw [if_pos he] at h
    obtain ⟨f1, f2⟩ := deg_first he
    generalize (nextR n l tDegree 0 steps 0 (startV n tDegree 0)).1 = vs at f1 f2 h
    have rdx : ∀ (ws : List VVert) (i : Nat) (hi : i < ws.length), rd (ws.map (·.f1)) (i : Int) = ws[i].f1 := fun ws i hi => by
      rw [rd_vx]
      exact congrArg (fun y : VVert => y.f1) (rdV9 ws i hi)
    rw [runL] at h
    cases hq : vs.any loudV with
    | false =>
      rw [hq, if_neg Bool.false_ne_true] at h
      have hx : vs.map (·.f1) = x := congrArg Prod.fst h
      have hm : (0 : Int) + 1 = m := congrArg (fun p => p.2.1) h
      subst hx
      rw [List.length_map]
      refine ⟨by omega, by omega, fun i hi => ?_⟩
      rw [rdx vs i hi, (f2 i hi).1]
      rw [List.any_eq_false] at hq
      have hl := hq _ (List.getElem_mem hi)
      unfold loudV at hl
      have h3 : vs[i].f3 = false := by
        cases hz : vs[i].f3 with
        | false => rfl
        | true => rw [hz, Bool.or_true] at hl; exact absurd rfl hl
      rw [(f2 i hi).2.2.2 h3]
      rfl
    | true =>
      rw [hq, if_pos rfl] at h
      by_cases he2 : (nextR n l tDegree 0 steps (0 + 1) vs).2.2 = 0
      · rw [if_pos he2] at h
        have he3 : (nextR n l tDegree 0 steps 1 vs).2.2 = 0 := he2
        obtain ⟨g1, g2⟩ := deg_second f2 he3
        change runL n l tDegree 0 steps d (nextR n l tDegree 0 steps 1 vs).1 2 = _ at h
        generalize (nextR n l tDegree 0 steps 1 vs).1 = ws at g1 g2 h
        have hq2 : ws.any loudV = false := by
          rw [List.any_eq_false]
          intro y hy
          obtain ⟨i, hi, rfl⟩ := List.mem_iff_getElem.mp hy
          rw [(g2 i hi).2]
          exact Bool.false_ne_true
        have h9 : runL n l tDegree 0 steps d ws 2 = (ws.map (·.f1), 2, 0) := by
          cases d with
          | zero => rfl
          | succ d => rw [runL, hq2, if_neg Bool.false_ne_true]
        rw [h9] at h
        have hx : ws.map (·.f1) = x := congrArg Prod.fst h
        have hm : (2 : Int) = m := congrArg (fun p => p.2.1) h
        subst hx
        rw [List.length_map]
        refine ⟨by omega, by omega, fun i hi => ?_⟩
        rw [rdx ws i hi, (g2 i hi).1]
      · rw [if_neg he2] at h
        exact absurd (congrArg (fun p => p.2.2) h) he2
  · rw [if_neg he] at h
    exact absurd (congrArg (fun p => p.2.2) h) he
theorem degrees_l1 (x : List Int) (m n : Int) (l : List VEdge) (hl : l.length ≤ 1000) (v : Nat) (hv : v < x.length) : ∀ (d j c : Nat), l.length - j = d → j ≤ l.length → c ≤ j → Ev (fun k => modillionlaw09_SeqDegrees.l1 k x m (v : Int) ((c + cntE (l.drop j) (v : Int) : Nat) : Int) (l.length : Int) n l) true → Ev (fun k => modillionlaw09_SeqDegrees.l1 k x m (v : Int) (c : Int) (j : Int) n l) true
  | 0, j, c, hd, hj, hc, h => by
    rw [List.drop_of_length_le (by omega)] at h
    obtain rfl : j = l.length := by omega
    exact h
  | d + 1, j, c, hd, hj, hc, h => by
    have hlt : j < l.length := by omega
    unfold cntE at h
    rw [List.drop_eq_getElem_cons hlt, List.countP_cons] at h
    by_cases he : l[j].f1 = (v : Int)
    · rw [if_pos (beq_iff_eq.mpr he)] at h
      refine Ev.step (fun k => ?_) (degrees_l1 x m n l hl v hv d (j + 1) (c + 1) (by omega) (by omega) (by omega) (by
        unfold cntE
        rw [show c + 1 + List.countP (fun e : VEdge => e.f1 == (v : Int)) (List.drop (j + 1) l) = c + (List.countP (fun e : VEdge => e.f1 == (v : Int)) (List.drop (j + 1) l) + 1) by omega]
        exact h))
      rw [modillionlaw09_SeqDegrees.l1, if_pos (by omega), if_pos (by omega), rdE7 l j hlt, if_pos he, wrapt (n := (c : Int) + 1) (by omega) (by omega), wrapt (n := (j : Int) + 1) (by omega) (by omega)]
      rfl
    · rw [if_neg (by rw [beq_eq_false_iff_ne.mpr he]; exact Bool.false_ne_true), Nat.add_zero] at h
      refine Ev.step (fun k => ?_) (degrees_l1 x m n l hl v hv d (j + 1) c (by omega) (by omega) (by omega) h)
      rw [modillionlaw09_SeqDegrees.l1, if_pos (by omega), if_pos (by omega), rdE7 l j hlt, if_neg he, wrapt (n := (j : Int) + 1) (by omega) (by omega)]
      rfl
theorem degrees_l0 (x : List Int) (m n : Int) (l : List VEdge) (hx : x.length ≤ 1000) (hl : l.length ≤ 1000) (hn : (x.length : Int) = n) (hm : m ≤ 2) (hf : ∀ v : Nat, v < x.length → rd x (v : Int) = ((cntE l (v : Int) : Nat) : Int)) : ∀ (d v : Nat), x.length - v = d → v ≤ x.length → Ev (fun k => modillionlaw09_SeqDegrees.l0 k x m (v : Int) n l) true
  | 0, v, hd, hv => by
    refine Ev.step (fun k => ?_) (Ev.now _)
    rw [modillionlaw09_SeqDegrees.l0, if_neg (by omega), if_pos hn, decide_eq_true hm]
  | d + 1, v, hd, hv => by
    have hlt : v < x.length := by omega
    refine Ev.step (f := fun k => modillionlaw09_SeqDegrees.l1 k x m (v : Int) ((0 : Nat) : Int) ((0 : Nat) : Int) n l) (fun k => by rw [modillionlaw09_SeqDegrees.l0, if_pos (by omega)]; rfl) ?_
    refine degrees_l1 x m n l hl v hlt l.length 0 0 rfl (Nat.zero_le _) (Nat.le_refl _) ?_
    rw [List.drop_zero, Nat.zero_add]
    refine Ev.step (fun k => ?_) (degrees_l0 x m n l hx hl hn hm hf d (v + 1) (by omega) (by omega))
    rw [modillionlaw09_SeqDegrees.l1, if_neg (by omega), if_pos (by omega), if_pos (by omega), if_pos (hf v hlt), wrapt (by omega) (by omega)]
    rfl
theorem SeqDegrees : ∀ (a0_0 : Int) (l0_1 : List P.S45) (a1 : Int), (Lit.int .i64 a0_0).wf = true → (∀ x ∈ l0_1, Open.wfE x) → (Lit.int .i64 a1).wf = true → ∃ k, P.modillionlaw09_SeqDegrees.f k a0_0 l0_1 a1 = some true := by
  intro n l steps _ _ _
  refine Ev.rounds ?_
  unfold modillionlaw09_SeqDegrees.f
  refine Ev.bind awake09 (Ev.congr (fun k => if_pos rfl) ?_)
  have triv : Ev (fun k => modillionlaw09_SeqDegrees.j0 k steps true n l) true := Ev.step (f := fun k => (modillionlaw09_awake.f k).bind fun t => some t) (fun k => by rw [modillionlaw09_SeqDegrees.j0, if_pos rfl]) (Ev.bind awake09 (Ev.now _))
  by_cases hl : (l.length : Int) > 60
  · exact Ev.congr (fun k => if_pos hl) triv
  refine Ev.congr (fun k => if_neg hl) ?_
  by_cases hs : steps < 2
  · exact Ev.congr (fun k => if_pos hs) triv
  refine Ev.congr (fun k => if_neg hs) ?_
  by_cases hn : steps > 20
  · rw [decide_eq_true hn]
    exact triv
  rw [decide_eq_false hn]
  have hr := run_f n l ⟨#[100, 101, 103, 114, 101, 101]⟩ 0 steps (by omega)
  rw [show (⟨#[100, 101, 103, 114, 101, 101]⟩ : ByteArray).toList = tDegree by simp only [ByteArray.toList_eq]] at hr
  refine Ev.step (f := fun k => (seq_Run.f k n l ⟨#[100, 101, 103, 114, 101, 101]⟩ 0 steps).bind fun bt310 => (if bt310.2.2 = 0 then (modillionlaw09_SeqDegrees.l0 k bt310.1 bt310.2.1 0 n l) else (some ((bt310.1.length : Int) == 0)))) (fun k => by rw [modillionlaw09_SeqDegrees.j0, if_neg Bool.false_ne_true, own09 n l (by omega), Option.bind_some]) ?_
  refine Ev.bind hr ?_
  by_cases he : (runR n l tDegree 0 steps).2.2 = 0
  · refine Ev.congr (fun k => if_pos he) ?_
    have hjb := runR_job he
    have hn2 := job_n hjb
    obtain ⟨f1, f2, f3⟩ := deg_run hjb (by omega) (x := (runR n l tDegree 0 steps).1) (m := (runR n l tDegree 0 steps).2.1) (Prod.ext rfl (Prod.ext rfl he))
    exact degrees_l0 _ _ n l (by omega) (by omega) f1 f2 f3 _ 0 rfl (Nat.zero_le _)
  · refine Ev.congr (fun k => if_neg he) ?_
    rw [runR_err he]
    exact Ev.now _
end Go.Proofs.Ytpndhkeoljoapaa.Pure
