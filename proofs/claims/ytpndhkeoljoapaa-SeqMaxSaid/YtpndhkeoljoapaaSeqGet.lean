/- Plain lemmas: what Next leaves of each vertex. -/
import Derived.Test.YtpndhkeoljoapaaSeqRun
namespace Go.Proofs.Ytpndhkeoljoapaa.Pure
open Go Go.RowKit Go.Proofs.Ytpndhkeoljoapaa.P Go.Proofs.YtpndhkeoljoapaaW.PrintWords Go.Proofs.YtpndhkeoljoapaaW.PrintLast Go.Proofs.YtpndhkeoljoapaaW.PrintMore
set_option linter.unusedVariables false
set_option linter.unusedSimpArgs false
theorem rdM9 (l : List VMsg) (i : Nat) (h : i < l.length) : rd_T48 l (i : Int) = l[i] := by
  unfold rd_T48
  simp [List.getD_eq_getElem?_getD, List.getElem?_eq_getElem h]
theorem any_perm9 {α : Type} (p : α → Bool) {l l' : List α} (h : l.Perm l') : l.any p = l'.any p := by
  rw [Bool.eq_iff_iff, List.any_eq_true, List.any_eq_true]
  exact ⟨fun ⟨x, hx, hp⟩ => ⟨x, h.subset hx, hp⟩, fun ⟨x, hx, hp⟩ => ⟨x, h.symm.subset hx, hp⟩⟩
theorem stepsR_ok (F : VVert → StepR) : ∀ (vs o : List VVert) (s : List VMsg), (stepsR F vs o s).2.2 = 0 → (stepsR F vs o s).1 = o ++ vs.map (fun y => vxOf (F y)) ∧ (stepsR F vs o s).2.1 = s ++ vs.flatMap (fun y => (F y).2.2.2.2.2.1) ∧ ∀ y ∈ vs, (F y).2.2.2.2.2.2 = 0
  | [], o, s, h => by
    refine ⟨?_, ?_, fun y hy => by cases hy⟩
    · rw [List.map_nil, List.append_nil]; rfl
    · rw [List.flatMap_nil, List.append_nil]; rfl
  | y :: r, o, s, h => by
    rw [stepsR] at h ⊢
    by_cases he : (F y).2.2.2.2.2.2 = 0
    · rw [if_pos he] at h ⊢
      obtain ⟨h1, h2, h3⟩ := stepsR_ok F r _ _ h
      refine ⟨?_, ?_, fun z hz => ?_⟩
      · rw [h1, List.map_cons, List.append_assoc]; rfl
      · rw [h2, List.flatMap_cons, List.append_assoc]
      · rcases List.mem_cons.mp hz with rfl | hz
        · exact he
        · exact h3 z hz
    · rw [if_neg he] at h
      exact absurd h he
/-- What came, put into vertices from the i-th on. -/
def comeAll (C : Int → Int × Bool × Int) : Nat → List VVert → List VVert
  | _, [] => []
  | i, y :: r => comeV y (C (i : Int)).2.1 (C (i : Int)).1 :: comeAll C (i + 1) r
theorem comeAll_len (C : Int → Int × Bool × Int) : ∀ (vs : List VVert) (i : Nat), (comeAll C i vs).length = vs.length
  | [], i => rfl
  | y :: r, i => by rw [comeAll, List.length_cons, List.length_cons, comeAll_len C r]
theorem comeAll_get (C : Int → Int × Bool × Int) : ∀ (vs : List VVert) (i j : Nat) (h : j < vs.length) (h' : j < (comeAll C i vs).length), (comeAll C i vs)[j] = comeV vs[j] (C ((i + j : Nat) : Int)).2.1 (C ((i + j : Nat) : Int)).1
  | y :: r, i, 0, h, h' => rfl
  | y :: r, i, j + 1, h, h' => by
    have := comeAll_get C r (i + 1) j (by simpa using h) (by rw [comeAll_len]; simpa using h)
    rw [show i + 1 + j = i + (j + 1) by omega] at this
    exact this
theorem comesR_ok (C : Int → Int × Bool × Int) : ∀ (vs o : List VVert), (comesR C vs o).2 = 0 → (comesR C vs o).1 = o ++ comeAll C o.length vs ∧ ∀ i, i < vs.length → (C ((o.length + i : Nat) : Int)).2.2 = 0
  | [], o, h => by
    refine ⟨?_, fun i hi => absurd hi (Nat.not_lt_zero i)⟩
    rw [comeAll, List.append_nil]; rfl
  | y :: r, o, h => by
    rw [comesR] at h ⊢
    by_cases he : (C (o.length : Int)).2.2 = 0
    · rw [if_pos he] at h ⊢
      obtain ⟨h1, h2⟩ := comesR_ok C r _ h
      rw [List.length_append, List.length_singleton] at h1 h2
      refine ⟨?_, fun i hi => ?_⟩
      · rw [h1, comeAll, List.append_assoc]; rfl
      · cases i with
        | zero => exact he
        | succ i =>
          have := h2 i (by simpa using hi)
          rw [show o.length + 1 + i = o.length + (i + 1) by omega] at this
          exact this
    · rw [if_neg he] at h
      exact absurd h he
theorem idsOk_get : ∀ (vs : List VVert) (i : Nat), idsOk vs i = true → ∀ j (h : j < vs.length), vs[j].f0 = ((i + j : Nat) : Int)
  | y :: r, i, hi, 0, h => by
    rw [idsOk, Bool.and_eq_true, beq_iff_eq] at hi
    exact hi.1
  | y :: r, i, hi, j + 1, h => by
    rw [idsOk, Bool.and_eq_true] at hi
    have := idsOk_get r (i + 1) hi.2 j (by simpa using h)
    rw [show i + 1 + j = i + (j + 1) by omega] at this
    exact this
/-- A step that is no error keeps its vertex's number. -/
theorem step_id {n : Int} {l : List VEdge} {t : List UInt8} {src steps at_ : Int} {y : VVert} (h : (stepF n l t src steps at_ y).2.2.2.2.2.2 = 0) : (stepF n l t src steps at_ y).1 = y.f0 := by
  unfold stepF at h ⊢
  obtain ⟨e, he, hr⟩ | ⟨_, _, hr⟩ | ⟨_, _, _, _, _, s, hs, hr⟩ := step_ways n l t src steps at_ y.f0 y.f1 y.f2 y.f3 y.f4
  · rw [hr] at h
    exact absurd h he
  · rw [hr]
  · rw [hr]
/-- What came, where there is no error: something, just if there is a message. -/
theorem came_is {t : List UInt8} (hk : knownB t = true) (s : List VMsg) (v : Int) (h : (cameR t s v).2.2 = 0) : (cameR t s v).2.1 = s.any (fun x => x.f1 == v) ∧ ((cameR t s v).2.1 = false → (cameR t s v).1 = 0) := by
  unfold cameR at h ⊢
  rw [if_pos hk] at h ⊢
  have hp : (sortMsg (s.filter fun x => x.f1 == v)).Perm (s.filter fun x => x.f1 == v) := by
    unfold sortMsg
    exact List.mergeSort_perm _ _
  generalize sortMsg (s.filter fun x => x.f1 == v) = q at hp h ⊢
  cases q with
  | nil =>
    have hf : (s.filter fun x => x.f1 == v) = [] := by
      have := hp.length_eq
      exact List.length_eq_zero_iff.mp this.symm
    refine ⟨?_, fun _ => rfl⟩
    show false = _
    rw [List.filter_eq_nil_iff] at hf
    symm
    rw [List.any_eq_false]
    exact hf
  | cons m q =>
    rw [cameQR] at h ⊢
    by_cases he : (cameLR t q (foldA tMax m.f2 m.f2).1 (foldA tMax m.f2 m.f2).2).2 = 0
    · rw [if_pos he]
      refine ⟨?_, fun hf => by cases hf⟩
      symm
      have hm := List.mem_filter.mp (hp.subset (List.mem_cons_self ..))
      exact List.any_eq_true.mpr ⟨m, hm.1, hm.2⟩
    · rw [if_neg he] at h
      exact absurd h he
/-- What Next comes to, where there is no error. -/
theorem nextR_ok {n : Int} {l : List VEdge} {t : List UInt8} {src steps at_ : Int} {vs : List VVert} (h : (nextR n l t src steps at_ vs).2.2 = 0) :
    jobB n l t src steps = true ∧ 0 ≤ at_ ∧ at_ < steps ∧ (vs.length : Int) = n ∧ idsOk vs 0 = true ∧ (∀ y ∈ vs, (stepF n l t src steps at_ y).2.2.2.2.2.2 = 0) ∧
      ∃ s, s = vs.flatMap (fun y => (stepF n l t src steps at_ y).2.2.2.2.2.1) ∧ (nextR n l t src steps at_ vs).1 = comeAll (cameR t s) 0 (vs.map fun y => vxOf (stepF n l t src steps at_ y)) ∧ (nextR n l t src steps at_ vs).2.1 = sortMsg s ∧ ∀ i, i < vs.length → (cameR t s (i : Int)).2.2 = 0 := by
  unfold nextR at h ⊢
  cases hj : jobB n l t src steps with
  | false =>
    rw [hj, if_neg Bool.false_ne_true] at h
    exact absurd h (by decide)
  | true =>
    rw [hj, if_pos rfl] at h
    rw [if_pos rfl]
    by_cases h1 : at_ < 0
    · rw [if_pos h1] at h
      exact absurd h (by decide)
    rw [if_neg h1] at h ⊢
    by_cases h2 : at_ ≥ steps
    · rw [if_pos h2] at h
      exact absurd h (by decide)
    rw [if_neg h2] at h ⊢
    by_cases h3 : (vs.length : Int) ≠ n
    · rw [if_pos h3] at h
      exact absurd h (by decide)
    rw [if_neg h3] at h ⊢
    by_cases h4 : idsOk vs 0 = false
    · rw [if_pos h4] at h
      exact absurd h (by decide)
    rw [if_neg h4] at h ⊢
    by_cases h5 : (stepsR (stepF n l t src steps at_) vs [] []).2.2 = 0
    · rw [if_pos h5] at h ⊢
      obtain ⟨e1, e2, e3⟩ := stepsR_ok _ _ _ _ h5
      rw [List.nil_append] at e1 e2
      rw [e1, e2] at h ⊢
      by_cases h6 : (comesR (cameR t (vs.flatMap fun y => (stepF n l t src steps at_ y).2.2.2.2.2.1)) (vs.map fun y => vxOf (stepF n l t src steps at_ y)) []).2 = 0
      · obtain ⟨e4, e5⟩ := comesR_ok _ _ _ h6
        rw [List.nil_append, List.length_nil] at e4
        rw [if_pos h6, e4]
        refine ⟨rfl, by omega, by omega, by omega, by simpa using h4, e3, _, rfl, rfl, rfl, fun i hi => ?_⟩
        have := e5 i (by rw [List.length_map]; exact hi)
        rw [List.length_nil, Nat.zero_add] at this
        exact this
      · rw [if_neg h6] at h
        exact absurd h h6
    · rw [if_neg h5] at h
      exact absurd h h5
theorem nextR_err {n : Int} {l : List VEdge} {t : List UInt8} {src steps at_ : Int} {vs : List VVert} (h : (nextR n l t src steps at_ vs).2.2 ≠ 0) : (nextR n l t src steps at_ vs).1 = [] ∧ (nextR n l t src steps at_ vs).2.1 = [] := by
  unfold nextR at h ⊢
  split
  · split
    · exact ⟨rfl, rfl⟩
    · split
      · exact ⟨rfl, rfl⟩
      · split
        · exact ⟨rfl, rfl⟩
        · split
          · exact ⟨rfl, rfl⟩
          · split
            · split
              · rename_i a b c d e f g
                rw [if_pos a, if_neg b, if_neg c, if_neg d, if_neg e, if_pos f, if_pos g] at h
                exact absurd rfl h
              · exact ⟨rfl, rfl⟩
            · exact ⟨rfl, rfl⟩
  · exact ⟨rfl, rfl⟩
end Go.Proofs.Ytpndhkeoljoapaa.Pure
