/- Plain lemmas: what bfs and sssp leave: ways from the source. -/
import Derived.Test.YtpndhkeoljoapaaSeqFlow
namespace Go.Proofs.Ytpndhkeoljoapaa.Pure
open Go Go.RowKit Go.Proofs.Ytpndhkeoljoapaa.P Go.Proofs.YtpndhkeoljoapaaW.PrintWords Go.Proofs.YtpndhkeoljoapaaW.PrintLast Go.Proofs.YtpndhkeoljoapaaW.PrintMore
set_option linter.unusedVariables false
set_option linter.unusedSimpArgs false
theorem bigS_not {v : Int} (h : bigS v = false) : -1125899906842624 ≤ v ∧ v ≤ 1125899906842624 := by
  unfold bigS at h
  simp only [Bool.or_eq_false_iff, decide_eq_false_iff_not] at h
  omega
/-- A step that is no error leaves no great value. -/
theorem step_small {n : Int} {l : List VEdge} {t : List UInt8} {src steps at_ id val : Int} {act has : Bool} {inn : Int} (h : (stepR n l t src steps at_ id val act has inn).2.2.2.2.2.2 = 0) : bigS (stepR n l t src steps at_ id val act has inn).2.1 = false := by
  unfold stepR at h ⊢
  cases hj : jobB n l t src steps with
  | false =>
    rw [hj, if_neg Bool.false_ne_true] at h
    exact absurd h (by decide)
  | true =>
    rw [hj, if_pos rfl] at h
    rw [if_pos rfl]
    by_cases h1 : id < 0 ∨ id ≥ n ∨ at_ < 0 ∨ at_ ≥ steps
    · rw [if_pos h1] at h
      exact absurd h (by decide)
    rw [if_neg h1] at h ⊢
    by_cases h2 : (bigS val || bigS inn) = true
    · rw [if_pos h2] at h
      exact absurd h (by decide)
    rw [if_neg h2] at h ⊢
    by_cases h3 : (!act && !has) = true
    · rw [if_pos h3]
      show bigS val = false
      cases hv : bigS val with
      | false => rfl
      | true => rw [hv, Bool.true_or] at h2; exact absurd rfl h2
    rw [if_neg h3] at h ⊢
    unfold goesV at h ⊢
    dsimp only at h ⊢
    generalize ((List.filter (fun e : VEdge => e.f0 == id) (sortE l))) = q at h ⊢
    generalize stepV t src steps at_ id val has (if has = true then inn else 0) (q.length : Int) = s at h ⊢
    generalize (if s.2.2.1 = true then List.map (sendV t id s.2.2.2) q else []) = ms at h ⊢
    by_cases h4 : (bigS s.1 || ms.any fun m => bigS m.f2) = true
    · rw [if_pos h4] at h
      exact absurd h (by decide)
    rw [if_neg h4]
    show bigS s.1 = false
    cases hv : bigS s.1 with
    | false => rfl
    | true => rw [hv, Bool.true_or] at h4; exact absurd rfl h4
theorem next_small {n : Int} {l : List VEdge} {t : List UInt8} {src steps at_ : Int} {vs : List VVert} (h : (nextR n l t src steps at_ vs).2.2 = 0) : ∀ y ∈ (nextR n l t src steps at_ vs).1, bigS y.f1 = false := by
  obtain ⟨hj, _, _, h3, h4, h5, s, hS, e1, _, e3⟩ := nextR_ok h
  rw [e1]
  intro y hy
  obtain ⟨i, hi, rfl⟩ := List.mem_iff_getElem.mp hy
  have hi' : i < vs.length := by rwa [comeAll_len, List.length_map] at hi
  rw [comeAll_get _ _ 0 i (by rw [List.length_map]; exact hi') hi, List.getElem_map]
  exact step_small (h5 _ (List.getElem_mem hi'))
theorem runL_small (n : Int) (l : List VEdge) (t : List UInt8) (src steps : Int) : ∀ (d : Nat) (vs : List VVert) (at_ : Int), (∀ y ∈ vs, bigS y.f1 = false) → ∀ a ∈ (runL n l t src steps d vs at_).1, bigS a = false
  | 0, vs, at_, h, a, ha => by
    rw [runL] at ha
    obtain ⟨y, hy, rfl⟩ := List.mem_map.mp ha
    exact h y hy
  | d + 1, vs, at_, h, a, ha => by
    rw [runL] at ha
    split at ha
    · split at ha
      · rename_i he
        exact runL_small n l t src steps d _ _ (next_small he) a ha
      · cases ha
    · obtain ⟨y, hy, rfl⟩ := List.mem_map.mp ha
      exact h y hy
def phiV (x : Int) : Int := if x < 0 then 2305843009213693952 else x
theorem phi_of {x : Int} (h : 0 ≤ x) : phiV x = x := if_neg (by omega)
theorem phi_neg {x : Int} (h : x < 0) : phiV x = 2305843009213693952 := if_pos h
theorem phi_nonneg (x : Int) : 0 ≤ phiV x := by
  unfold phiV
  split <;> omega
section
variable {t : List UInt8} {n : Int} {l : List VEdge} {src : Int}
theorem first_path (ht : t = tBfs ∨ t = tSssp) (v : Int) : firstV t src v = if v = src then 0 else -1 := by
  rcases ht with rfl | rfl
  · unfold firstV
    rw [if_neg (by decide), if_neg (by decide), if_pos (by decide)]
  · unfold firstV
    rw [if_neg (by decide), if_neg (by decide), if_pos (by decide)]
theorem weight_path (ht : t = tBfs ∨ t = tSssp) (hb : badG n l = false) : ∀ e ∈ l, 0 ≤ weightV t e ∧ weightV t e ≤ 1048576 := fun e he => by
  have h4 := (badG_not hb).2.2.2
  rw [List.any_eq_false] at h4
  have h5 : oddE n e = false := by simpa using h4 e he
  unfold oddE at h5
  simp only [Bool.or_eq_false_iff, decide_eq_false_iff_not] at h5
  rcases ht with rfl | rfl
  · have e0 : weightV tBfs e = 1 := rfl
    omega
  · have e0 : weightV tSssp e = e.f2 := rfl
    omega
theorem path_flow (ht : t = tBfs ∨ t = tSssp) (hb : badG n l = false) : Flow t l src phiV (fun x => 0 ≤ x) (fun id => id == src) (fun _ _ => True) := by
  have hstep : ∀ steps at_ id val inn m has, stepV t src steps at_ id val has inn m = if at_ = 0 then (val, false, id == src, 0) else betterV false (decide (at_ > 0) && has) (decide (val < 0) || decide (inn < val)) val inn := fun steps at_ id val inn m has => by
    rcases ht with rfl | rfl <;> rfl
  have hfold : ∀ a b, foldV t a b = mn a b := fun a b => by
    rcases ht with rfl | rfl <;> rfl
  have hf := first_path (src := src) ht
  have hw := weight_path ht hb
  refine ⟨?_, fun steps at_ id val inn m ha hv hi ho => ?_, fun steps id m => ⟨0, ?_, fun hs => ?_⟩, fun id hs => ?_, fun u w hs => ?_, fun a b ha hb' => ?_, fun e he a ha => ?_, ⟨0, Int.le_refl _⟩, fun _ => trivial, fun _ _ _ _ => trivial⟩
  · rcases ht with rfl | rfl <;> rfl
  · rw [hstep, if_neg (by omega)]
    have hin := bigS_not hi
    unfold betterV
    rw [if_neg Bool.false_ne_true, decide_eq_true ha, Bool.true_and, Bool.true_and, phi_of ho]
    by_cases hn : val < 0
    · rw [phi_neg hn, decide_eq_true hn, Bool.true_or, if_pos rfl, if_pos (by omega)]
    · rw [phi_of (by omega), decide_eq_false hn, Bool.false_or]
      by_cases h : inn < val
      · rw [decide_eq_true h, if_pos rfl, if_pos h]
      · rw [decide_eq_false h, if_neg Bool.false_ne_true, if_neg h]
  · rw [hstep, if_pos rfl]
  · rw [hf, if_pos (beq_iff_eq.mp hs)]
  · show 0 ≤ firstV t src id
    rw [hf, if_pos (beq_iff_eq.mp hs)]
    exact Int.le_refl _
  · rw [hf u, if_neg (beq_eq_false_iff_ne.mp hs), hf w]
    split
    · decide
    · exact Int.le_refl _
  · rw [hfold]
    show 0 ≤ mn a b ∧ _
    have ha' : 0 ≤ a := ha
    have hb'' : 0 ≤ b := hb'
    rw [phi_of ha', phi_of hb'']
    unfold mn
    split
    · rw [phi_of hb'']
      exact ⟨hb'', by omega, Int.le_refl _, Or.inr rfl⟩
    · rw [phi_of ha']
      exact ⟨ha', Int.le_refl _, by omega, Or.inl rfl⟩
  · have ha' : 0 ≤ a := ha
    obtain ⟨w0, w1⟩ := hw e he
    have hs : 0 ≤ a + weightV t e := by omega
    rw [phi_of ha', phi_of hs]
    exact ⟨hs, rfl, w0⟩
theorem path_facts (ht : t = tBfs ∨ t = tSssp) (hjb : jobB n l t src 20 = true) (hn12 : n ≤ 12) {x : List Int} {m : Int} (h : runR n l t src 20 = (x, m, 0)) :
    (x.length : Int) = n ∧ (∀ v : Int, -1125899906842624 ≤ rd x v ∧ rd x v ≤ 1125899906842624) ∧ (∀ e ∈ l, 0 ≤ rd x e.f0 → 0 ≤ rd x e.f1 ∧ rd x e.f1 ≤ rd x e.f0 + weightV t e) ∧
    (∀ v : Int, 0 ≤ v → v < n → 0 ≤ rd x v → v ≠ src → ∃ e ∈ l, e.f1 = v ∧ 0 ≤ rd x e.f0 ∧ rd x e.f0 + weightV t e = rd x v) ∧ rd x src = 0 := by
  obtain ⟨hb, _, _, hs0, hs1, _, _⟩ := job_of hjb
  have hw := weight_path ht hb
  have hf := first_path (src := src) ht
  obtain ⟨ws, k', hx, I, hq⟩ := flow_run (path_flow ht hb) hjb h
  have fe := flow_end I hb hn12 hq
  have hln := I.len
  have hsm : ∀ a ∈ x, bigS a = false := by
    have h1 := runL_small n l t src 20 (Int.toNat 20) (startV n t src) 0 (fun y hy => by
      obtain ⟨v, hv, rfl⟩ := List.mem_map.mp hy
      show bigS (firstV t src (v : Int)) = false
      rw [hf]
      split <;> rfl)
    unfold runR at h
    rw [hjb, if_pos rfl] at h
    rw [h] at h1
    exact h1
  have small : ∀ v : Int, -1125899906842624 ≤ rd x v ∧ rd x v ≤ 1125899906842624 := fun v => by
    unfold rd
    rw [List.getD_eq_getElem?_getD]
    cases hg : x[v.toNat]? with
    | none => decide
    | some a => exact bigS_not (hsm a (List.mem_of_getElem? hg))
  have rv : ∀ v : Int, rd x v = (vx ws v).f1 := fun v => by rw [hx, rd_vx]
  have edge : ∀ e ∈ l, 0 ≤ rd x e.f0 → 0 ≤ rd x e.f1 ∧ rd x e.f1 ≤ rd x e.f0 + weightV t e := fun e he h0 => by
    have h1 := fe e he
    rw [← rv, ← rv, phi_of h0] at h1
    have := hw e he
    have := small e.f0
    by_cases hn : rd x e.f1 < 0
    · rw [phi_neg hn] at h1
      omega
    · rw [phi_of (by omega)] at h1
      omega
  refine ⟨by rw [hx, List.length_map]; exact hln, small, edge, fun v h0 h1 h2 h3 => ?_, ?_⟩
  · obtain ⟨j, hj, rfl, hv⟩ := vx_of (vs := ws) h0 (by omega)
    have hm := List.getElem_mem hj
    have hid := I.ids j hj
    have g4 := I.sup _ hm
    rw [rv, hv] at h2
    rw [hid, hf, if_neg h3] at g4
    rcases g4 with g4 | ⟨e, he, h5, h6⟩
    · omega
    · have h7 := small (j : Int)
      rw [rv, hv] at h7
      rw [phi_of h2] at h6
      have := hw e he
      have h8 : 0 ≤ (vx ws e.f0).f1 := by
        by_cases hn : (vx ws e.f0).f1 < 0
        · rw [phi_neg hn] at h6
          omega
        · omega
      rw [phi_of h8] at h6
      have h9 := edge e he (by rw [rv]; exact h8)
      rw [h5, rv, rv, hv] at h9
      refine ⟨e, he, h5, by rw [rv]; exact h8, ?_⟩
      rw [rv, rv, hv]
      omega
  · obtain ⟨j, hj, hje, hv⟩ := vx_of (vs := ws) hs0 (by omega)
    have hm := List.getElem_mem hj
    have g3 := I.mono _ hm
    rw [I.ids j hj, hf, if_pos hje.symm, phi_of (Int.le_refl 0)] at g3
    have g5 := phi_nonneg ws[j].f1
    rw [rv, hv]
    by_cases hn : ws[j].f1 < 0
    · rw [phi_neg hn] at g3
      omega
    · rw [phi_of (by omega)] at g3 g5
      omega
end
end Go.Proofs.Ytpndhkeoljoapaa.Pure
