/- Plain lemmas: values that spread along edges, step by step: max, label, bfs, sssp. -/
import Derived.Test.YtpndhkeoljoapaaSeqGet
namespace Go.Proofs.Ytpndhkeoljoapaa.Pure
open Go Go.RowKit Go.Proofs.Ytpndhkeoljoapaa.P Go.Proofs.YtpndhkeoljoapaaW.PrintWords Go.Proofs.YtpndhkeoljoapaaW.PrintLast Go.Proofs.YtpndhkeoljoapaaW.PrintMore
set_option linter.unusedVariables false
set_option linter.unusedSimpArgs false
theorem foldP_ok {t : List UInt8} {a b n : Int} (h : foldP t a b = (n, 0)) : n = foldV t a b := by
  unfold foldP at h
  split at h
  · simp at h
  · split at h
    · simp at h
    · simp at h; exact h.symm
theorem foldA_ok {t : List UInt8} {a b : Int} (h : (foldA t a b).2 = 0) : (foldA t a b).1 = foldV t a b := by
  unfold foldA at h ⊢
  split at h
  · rename_i hk
    rw [if_pos hk]
    exact foldP_ok (Prod.ext rfl h)
  · simp at h
theorem countP_lt {α : Type} (p q : α → Bool) : ∀ (l : List α), (∀ y ∈ l, p y = true → q y = true) → (∃ y ∈ l, p y = false ∧ q y = true) → l.countP p + 1 ≤ l.countP q
  | [], _, h => by
    obtain ⟨y, hy, _⟩ := h
    cases hy
  | x :: l, h, hx => by
    rw [List.countP_cons, List.countP_cons]
    have hle : ∀ (l : List α), (∀ y ∈ l, p y = true → q y = true) → l.countP p ≤ l.countP q := fun l h => List.countP_mono_left h
    have h' : ∀ y ∈ l, p y = true → q y = true := fun y hy => h y (List.mem_cons_of_mem _ hy)
    have h0 := hle l h'
    have hx0 := h x (List.mem_cons_self ..)
    by_cases hq : p x = false ∧ q x = true
    · rw [hq.1, hq.2, if_neg Bool.false_ne_true, if_pos rfl]
      omega
    · obtain ⟨y, hy, h1, h2⟩ := hx
      rcases List.mem_cons.mp hy with rfl | hy
      · exact absurd ⟨h1, h2⟩ hq
      · have := countP_lt p q l h' ⟨y, hy, h1, h2⟩
        cases hp : p x with
        | true => rw [if_pos rfl, hx0 hp, if_pos rfl]; omega
        | false => rw [if_neg Bool.false_ne_true]; split <;> omega
/-- What such a program is: φ tells which value is better (the less the better), okm what values are sent, snd0 who sends at first, G what is known of a value at a vertex. -/
structure Flow (t : List UInt8) (l : List VEdge) (src : Int) (φ : Int → Int) (okm : Int → Prop) (snd0 : Int → Bool) (G : Int → Int → Prop) : Prop where
  known : knownB t = true
  step : ∀ steps at_ id val inn m, 0 < at_ → bigS val = false → bigS inn = false → okm inn → stepV t src steps at_ id val true inn m = if φ inn < φ val then (inn, false, true, inn) else (val, false, false, 0)
  first : ∀ steps id m, ∃ b, stepV t src steps 0 id (firstV t src id) false 0 m = (firstV t src id, false, snd0 id, b) ∧ (snd0 id = true → b = firstV t src id)
  ok0 : ∀ id, snd0 id = true → okm (firstV t src id)
  rest0 : ∀ u w, snd0 u = false → φ (firstV t src w) ≤ φ (firstV t src u)
  fold : ∀ a b, okm a → okm b → okm (foldV t a b) ∧ φ (foldV t a b) ≤ φ a ∧ φ (foldV t a b) ≤ φ b ∧ (foldV t a b = a ∨ foldV t a b = b)
  add : ∀ e ∈ l, ∀ a, okm a → okm (a + weightV t e) ∧ φ (a + weightV t e) = φ a + weightV t e ∧ 0 ≤ weightV t e
  ex : ∃ u, okm u
  good0 : ∀ id, G id (firstV t src id)
  good : ∀ e ∈ l, ∀ a, G e.f0 a → G e.f1 (a + weightV t e)
section
variable {t : List UInt8} {l : List VEdge} {src : Int} {φ : Int → Int} {okm : Int → Prop} {snd0 : Int → Bool} {G : Int → Int → Prop}
theorem cameL_best (F : Flow t l src φ okm snd0 G) : ∀ (q : List VMsg) (n r : Int), okm n → (∀ m ∈ q, okm m.f2) → cameLR t q n 0 = (r, 0) → (r = n ∨ ∃ m ∈ q, r = m.f2) ∧ φ r ≤ φ n ∧ ∀ m ∈ q, φ r ≤ φ m.f2
  | [], n, r, hn, hq, h => by
    obtain ⟨rfl, _⟩ : n = r ∧ (0 : Int) = 0 := by simpa only [Prod.mk.injEq] using (show (n, (0 : Int)) = (r, 0) from h)
    exact ⟨Or.inl rfl, Int.le_refl _, fun m hm => by cases hm⟩
  | m :: q, n, r, hn, hq, h => by
    rw [cameLR, if_pos rfl] at h
    have hm := hq m (List.mem_cons_self ..)
    by_cases he : (foldA t n m.f2).2 = 0
    · rw [he, foldA_ok he] at h
      obtain ⟨h1, h2, h3, h4⟩ := F.fold n m.f2 hn hm
      obtain ⟨g1, g2, g3⟩ := cameL_best F q _ r h1 (fun x hx => hq x (List.mem_cons_of_mem _ hx)) h
      refine ⟨?_, by omega, fun x hx => ?_⟩
      · rcases g1 with g1 | ⟨x, hx, g1⟩
        · rcases h4 with h4 | h4
          · exact Or.inl (g1.trans h4)
          · exact Or.inr ⟨m, List.mem_cons_self .., g1.trans h4⟩
        · exact Or.inr ⟨x, List.mem_cons_of_mem _ hx, g1⟩
      · rcases List.mem_cons.mp hx with rfl | hx
        · omega
        · exact g3 x hx
    · exfalso
      cases q with
      | nil =>
        have := congrArg Prod.snd h
        exact he this
      | cons x q =>
        rw [cameLR, if_neg he] at h
        exact he (congrArg Prod.snd h)
theorem came_best (F : Flow t l src φ okm snd0 G) (s : List VMsg) (hs : ∀ m ∈ s, okm m.f2) (v : Int) (h : (cameR t s v).2.2 = 0) (h1 : (cameR t s v).2.1 = true) : (∃ m ∈ s, m.f1 = v ∧ (cameR t s v).1 = m.f2) ∧ ∀ m ∈ s, m.f1 = v → φ (cameR t s v).1 ≤ φ m.f2 := by
  unfold cameR at h h1 ⊢
  rw [if_pos F.known] at h h1 ⊢
  have hp : (sortMsg (s.filter fun x => x.f1 == v)).Perm (s.filter fun x => x.f1 == v) := by
    unfold sortMsg
    exact List.mergeSort_perm _ _
  have hin : ∀ m, m ∈ sortMsg (s.filter fun x => x.f1 == v) → m ∈ s ∧ m.f1 = v := fun m hm => by
    have := List.mem_filter.mp (hp.subset hm)
    exact ⟨this.1, by simpa using this.2⟩
  have hall : ∀ m ∈ s, m.f1 = v → m ∈ sortMsg (s.filter fun x => x.f1 == v) := fun m hm he => hp.symm.subset (List.mem_filter.mpr ⟨hm, by simpa using he⟩)
  generalize sortMsg (s.filter fun x => x.f1 == v) = q at hin hall h h1 ⊢
  cases q with
  | nil => cases h1
  | cons m q =>
    rw [cameQR] at h h1 ⊢
    by_cases he : (cameLR t q (foldA tMax m.f2 m.f2).1 (foldA tMax m.f2 m.f2).2).2 = 0
    · rw [if_pos he]
      have h0 : (foldA tMax m.f2 m.f2).2 = 0 := by
        cases q with
        | nil => exact he
        | cons x q =>
          by_cases hz : (foldA tMax m.f2 m.f2).2 = 0
          · exact hz
          · rw [cameLR, if_neg hz] at he
            exact absurd he hz
      have hv : foldV tMax m.f2 m.f2 = m.f2 := by
        unfold foldV mx
        rw [if_pos rfl]
        split <;> rfl
      rw [h0, foldA_ok h0, hv] at he ⊢
      obtain ⟨g1, g2, g3⟩ := cameL_best F q m.f2 _ (hs m (hin m (List.mem_cons_self ..)).1) (fun x hx => hs x (hin x (List.mem_cons_of_mem _ hx)).1) (Prod.ext rfl he)
      refine ⟨?_, fun x hx hv' => ?_⟩
      · rcases g1 with g1 | ⟨x, hx, g1⟩
        · exact ⟨m, (hin m (List.mem_cons_self ..)).1, (hin m (List.mem_cons_self ..)).2, g1⟩
        · exact ⟨x, (hin x (List.mem_cons_of_mem _ hx)).1, (hin x (List.mem_cons_of_mem _ hx)).2, g1⟩
      · rcases List.mem_cons.mp (hall x hx hv') with rfl | hx'
        · exact g2
        · exact g3 x hx'
    · rw [if_neg he] at h1
      cases h1
/-- Does a vertex take what came? -/
def chgB (φ : Int → Int) (y : VVert) : Bool := y.f3 && decide (φ y.f4 < φ y.f1)
def newV (φ : Int → Int) (y : VVert) : Int := if chgB φ y = true then y.f4 else y.f1
theorem out_of {l : List VEdge} {e : VEdge} (h : e ∈ l) : e ∈ outV l e.f0 := by
  unfold outV
  refine List.mem_filter.mpr ⟨?_, by simp⟩
  unfold sortE
  exact List.mem_mergeSort.mpr h
theorem flow_step (F : Flow t l src φ okm snd0 G) {n steps at_ : Int} (ha : 0 < at_) {y : VVert} (hact : y.f2 = false) (hok : y.f3 = true → okm y.f4) (he : (stepF n l t src steps at_ y).2.2.2.2.2.2 = 0) :
    (stepF n l t src steps at_ y).2.1 = newV φ y ∧ (stepF n l t src steps at_ y).2.2.1 = false ∧ (stepF n l t src steps at_ y).2.2.2.2.2.1 = if chgB φ y = true then (outV l y.f0).map (sendV t y.f0 y.f4) else [] := by
  unfold stepF at he ⊢
  obtain ⟨e, hne, hr⟩ | ⟨_, h2, hr⟩ | ⟨hah, _, _, hv, hi, s, hs, hr⟩ := step_ways n l t src steps at_ y.f0 y.f1 y.f2 y.f3 y.f4
  · rw [hr] at he
    exact absurd he hne
  · have hc : chgB φ y = false := by
      unfold chgB
      rw [h2, Bool.false_and]
    rw [hr]
    unfold newV
    rw [hc]
    exact ⟨rfl, hact, rfl⟩
  · have h3 : y.f3 = true := by simpa [hact] using hah
    rw [hr]
    rw [h3, if_pos rfl, F.step steps at_ y.f0 y.f1 y.f4 _ ha hv hi (hok h3)] at hs
    by_cases hc : φ y.f4 < φ y.f1
    · rw [if_pos hc] at hs
      have hb : chgB φ y = true := by
        unfold chgB
        rw [h3, decide_eq_true hc]
        rfl
      unfold newV
      rw [hb, hs]
      exact ⟨rfl, rfl, rfl⟩
    · rw [if_neg hc] at hs
      have hb : chgB φ y = false := by
        unfold chgB
        rw [decide_eq_false hc, Bool.and_false]
      unfold newV
      rw [hb, hs]
      exact ⟨rfl, rfl, rfl⟩
abbrev vx (vs : List VVert) (i : Int) : VVert := rd_T50 vs i
/-- What holds of all vertices ahead of the k-th step (of the step 1, 2, ..). -/
structure FlowInv (t : List UInt8) (l : List VEdge) (src : Int) (φ : Int → Int) (okm : Int → Prop) (G : Int → Int → Prop) (n : Int) (vs : List VVert) (k : Nat) : Prop where
  len : (vs.length : Int) = n
  ids : ∀ i (h : i < vs.length), vs[i].f0 = (i : Int)
  act : ∀ y ∈ vs, y.f2 = false
  ok : ∀ y ∈ vs, y.f3 = true → okm y.f4
  edge : ∀ e ∈ l, φ (vx vs e.f1).f1 ≤ φ (vx vs e.f0).f1 + weightV t e ∨ ((vx vs e.f1).f3 = true ∧ φ (vx vs e.f1).f4 ≤ φ (vx vs e.f0).f1 + weightV t e)
  count : ∀ y ∈ vs, y.f3 = true → φ y.f4 < φ y.f1 → k ≤ vs.countP (fun x => decide (φ x.f1 ≤ φ y.f4))
  mono : ∀ y ∈ vs, φ y.f1 ≤ φ (firstV t src y.f0)
  sup : ∀ y ∈ vs, y.f1 = firstV t src y.f0 ∨ ∃ e ∈ l, e.f1 = y.f0 ∧ φ (vx vs e.f0).f1 + weightV t e ≤ φ y.f1
  supin : ∀ y ∈ vs, y.f3 = true → ∃ e ∈ l, e.f1 = y.f0 ∧ φ (vx vs e.f0).f1 + weightV t e ≤ φ y.f4
  good : ∀ y ∈ vs, G y.f0 y.f1 ∧ (y.f3 = true → G y.f0 y.f4)
theorem edge_in {n : Int} (hb : badG n l = false) {e : VEdge} (he : e ∈ l) : 0 ≤ e.f0 ∧ e.f0 < n ∧ 0 ≤ e.f1 ∧ e.f1 < n := by
  have h4 := (badG_not hb).2.2.2
  rw [List.any_eq_false] at h4
  have h5 : oddE n e = false := by simpa using h4 e he
  unfold oddE at h5
  simp only [Bool.or_eq_false_iff, decide_eq_false_iff_not] at h5
  omega
theorem vx_of {vs : List VVert} {i : Int} (h0 : 0 ≤ i) (h1 : i < (vs.length : Int)) : ∃ j : Nat, ∃ h : j < vs.length, i = (j : Int) ∧ vx vs i = vs[j] := by
  refine ⟨i.toNat, by omega, by omega, ?_⟩
  have := rdV9 vs i.toNat (by omega)
  rwa [show ((i.toNat : Nat) : Int) = i by omega] at this
theorem comeAll_cnt (C : Int → Int × Bool × Int) (p : Int → Bool) : ∀ (ws : List VVert) (i : Nat), (comeAll C i ws).countP (fun x => p x.f1) = ws.countP (fun x => p x.f1)
  | [], i => rfl
  | y :: r, i => by
    rw [comeAll, List.countP_cons, List.countP_cons, comeAll_cnt C p r]
    rfl
/-- What a step without an error does, where each vertex has a new value, and sends it or nothing. -/
structure Spread (t : List UInt8) (l : List VEdge) (φ : Int → Int) (vs vs' : List VVert) (nv : VVert → Int) (sn : VVert → Bool) : Prop where
  len : vs'.length = vs.length
  ids : ∀ i (h : i < vs'.length), vs'[i].f0 = (i : Int)
  act : ∀ y ∈ vs', y.f2 = false
  val : ∀ i (h : i < vs.length) (h' : i < vs'.length), vs'[i].f1 = nv vs[i]
  come : ∀ y ∈ vs', y.f3 = true → ∃ e ∈ l, e.f1 = y.f0 ∧ sn (vx vs e.f0) = true ∧ y.f4 = nv (vx vs e.f0) + weightV t e
  went : ∀ e ∈ l, sn (vx vs e.f0) = true → (vx vs' e.f1).f3 = true ∧ φ (vx vs' e.f1).f4 ≤ φ (nv (vx vs e.f0)) + weightV t e
  cnt : ∀ B, vs'.countP (fun x => decide (φ x.f1 ≤ B)) = vs.countP (fun x => decide (φ (nv x) ≤ B))
theorem spread (F : Flow t l src φ okm snd0 G) {n steps at_ : Int} {vs : List VVert} (h : (nextR n l t src steps at_ vs).2.2 = 0) (nv : VVert → Int) (sn : VVert → Bool) (hs : ∀ y ∈ vs, (stepF n l t src steps at_ y).2.2.2.2.2.2 = 0 → (stepF n l t src steps at_ y).2.1 = nv y ∧ (stepF n l t src steps at_ y).2.2.1 = false ∧ (stepF n l t src steps at_ y).2.2.2.2.2.1 = if sn y = true then (outV l y.f0).map (sendV t y.f0 (nv y)) else []) (hok : ∀ y ∈ vs, sn y = true → okm (nv y)) : Spread t l φ vs (nextR n l t src steps at_ vs).1 nv sn := by
  obtain ⟨hj, _, _, h3, h4, h5, s, hS, e1, _, e3⟩ := nextR_ok h
  have hb := (job_of hj).1
  have hid := idsOk_get vs 0 h4
  have mem : ∀ m, m ∈ s ↔ ∃ y ∈ vs, sn y = true ∧ ∃ e ∈ outV l y.f0, m = sendV t y.f0 (nv y) e := fun m => by
    rw [hS, List.mem_flatMap]
    constructor
    · rintro ⟨y, hy, hm⟩
      rw [(hs y hy (h5 y hy)).2.2] at hm
      by_cases hq : sn y = true
      · rw [if_pos hq] at hm
        obtain ⟨e, he, rfl⟩ := List.mem_map.mp hm
        exact ⟨y, hy, hq, e, he, rfl⟩
      · rw [if_neg hq] at hm
        cases hm
    · rintro ⟨y, hy, hq, e, he, rfl⟩
      refine ⟨y, hy, ?_⟩
      rw [(hs y hy (h5 y hy)).2.2, if_pos hq]
      exact List.mem_map.mpr ⟨e, he, rfl⟩
  have vself : ∀ y ∈ vs, vx vs y.f0 = y := fun y hy => by
    obtain ⟨i, hi, rfl⟩ := List.mem_iff_getElem.mp hy
    rw [hid i hi, Nat.zero_add]
    exact rdV9 vs i hi
  have oks : ∀ m ∈ s, okm m.f2 := fun m hm => by
    obtain ⟨y, hy, hq, e, he, rfl⟩ := (mem m).mp hm
    exact (F.add e (out_mem he).1 _ (hok y hy hq)).1
  have hlen : (comeAll (cameR t s) 0 (vs.map fun y => vxOf (stepF n l t src steps at_ y))).length = vs.length := by rw [comeAll_len, List.length_map]
  have get : ∀ i (hi : i < vs.length) (hi' : i < (comeAll (cameR t s) 0 (vs.map fun y => vxOf (stepF n l t src steps at_ y))).length), (comeAll (cameR t s) 0 (vs.map fun y => vxOf (stepF n l t src steps at_ y)))[i] = comeV (vxOf (stepF n l t src steps at_ vs[i])) (cameR t s (i : Int)).2.1 (cameR t s (i : Int)).1 := fun i hi hi' => by
    rw [comeAll_get _ _ 0 i (by rw [List.length_map]; exact hi) hi', Nat.zero_add, List.getElem_map]
  have idi : ∀ i (hi : i < vs.length), (stepF n l t src steps at_ vs[i]).1 = (i : Int) := fun i hi => by
    rw [step_id (h5 _ (List.getElem_mem hi)), hid i hi, Nat.zero_add]
  rw [e1]
  refine ⟨hlen, fun i hi => ?_, fun y hy => ?_, fun i hi hi' => ?_, fun y hy h3' => ?_, fun e he hq => ?_, fun B => ?_⟩
  · rw [get i (by omega) hi]
    exact idi i (by omega)
  · obtain ⟨i, hi, rfl⟩ := List.mem_iff_getElem.mp hy
    rw [get i (by omega) hi]
    exact (hs _ (List.getElem_mem (show i < vs.length by omega)) (h5 _ (List.getElem_mem _))).2.1
  · rw [get i hi hi']
    exact (hs _ (List.getElem_mem hi) (h5 _ (List.getElem_mem _))).1
  · obtain ⟨i, hi, rfl⟩ := List.mem_iff_getElem.mp hy
    have hiv : i < vs.length := by omega
    rw [get i hiv hi] at h3' ⊢
    obtain ⟨⟨m, hm, hm1, hm2⟩, _⟩ := came_best F s oks (i : Int) (e3 i hiv) h3'
    obtain ⟨y, hy', hq, e, he, rfl⟩ := (mem m).mp hm
    obtain ⟨he1, he2⟩ := out_mem he
    refine ⟨e, he1, ?_, ?_, ?_⟩
    · exact hm1.trans (idi i hiv).symm
    · rw [he2, vself y hy']
      exact hq
    · rw [he2, vself y hy']
      exact hm2
  · obtain ⟨a0, a1, b0, b1⟩ := edge_in hb he
    obtain ⟨i, hi, hie, hiv⟩ := vx_of (vs := vs) a0 (by omega)
    obtain ⟨j, hj', hje, hjv⟩ := vx_of (vs := comeAll (cameR t s) 0 (vs.map fun y => vxOf (stepF n l t src steps at_ y))) b0 (by omega)
    have hjl : j < vs.length := by omega
    rw [hiv] at hq ⊢
    rw [hjv, get j hjl hj']
    have hmem : sendV t vs[i].f0 (nv vs[i]) e ∈ s := (mem _).mpr ⟨vs[i], List.getElem_mem hi, hq, e, by
      rw [hid i hi, Nat.zero_add, ← hie]
      exact out_of he, rfl⟩
    have ci := came_is F.known s (j : Int) (e3 j hjl)
    have his : (cameR t s (j : Int)).2.1 = true := by
      rw [ci.1]
      exact List.any_eq_true.mpr ⟨_, hmem, beq_iff_eq.mpr hje⟩
    refine ⟨his, ?_⟩
    have := (came_best F s oks (j : Int) (e3 j hjl) his).2 _ hmem hje
    have hadd := (F.add e he (nv vs[i]) (hok _ (List.getElem_mem hi) hq)).2.1
    show φ (cameR t s (j : Int)).1 ≤ _
    have h2 : φ (sendV t vs[i].f0 (nv vs[i]) e).f2 = φ (nv vs[i]) + weightV t e := hadd
    omega
  · rw [comeAll_cnt (cameR t s) (fun x => decide (φ x ≤ B)), List.countP_map]
    refine List.countP_congr fun y hy => ?_
    show decide (φ (stepF n l t src steps at_ y).2.1 ≤ B) = true ↔ _
    rw [(hs y hy (h5 y hy)).1]
theorem flow_start (F : Flow t l src φ okm snd0 G) {n steps : Int} (hjb : jobB n l t src steps = true) (h : (nextR n l t src steps 0 (startV n t src)).2.2 = 0) : FlowInv t l src φ okm G n (nextR n l t src steps 0 (startV n t src)).1 1 := by
  have hn := job_n hjb
  have hb := (job_of hjb).1
  have hc := startV_count n t src
  have sget : ∀ i (hi : i < (startV n t src).length), (startV n t src)[i] = ⟨(i : Int), firstV t src (i : Int), true, false, 0⟩ := fun i hi => by
    simp only [startV, List.getElem_map, List.getElem_range]
  have smem : ∀ y ∈ startV n t src, y = ⟨y.f0, firstV t src y.f0, true, false, 0⟩ := fun y hy => by
    obtain ⟨i, hi, rfl⟩ := List.mem_iff_getElem.mp hy
    rw [sget i hi]
  have sp := spread F h (fun y => y.f1) (fun y => snd0 y.f0) (fun y hy he => by
    have ey := smem y hy
    unfold stepF at he ⊢
    rw [ey] at he ⊢
    obtain ⟨e, hne, hr⟩ | ⟨h1, _, hr⟩ | ⟨_, _, _, _, _, s, hs, hr⟩ := step_ways n l t src steps 0 y.f0 (firstV t src y.f0) true false 0
    · rw [hr] at he
      exact absurd he hne
    · cases h1
    · obtain ⟨b, e1, e2⟩ := F.first steps y.f0 ((outV l y.f0).length : Int)
      rw [if_neg Bool.false_ne_true, e1] at hs
      rw [hr, hs]
      refine ⟨rfl, rfl, ?_⟩
      show (if snd0 y.f0 = true then (outV l y.f0).map (sendV t y.f0 b) else []) = _
      by_cases hq : snd0 y.f0 = true
      · rw [if_pos hq, if_pos hq, e2 hq]
      · rw [if_neg hq, if_neg hq]) (fun y hy hq => by
    rw [smem y hy]
    exact F.ok0 _ hq)
  generalize (nextR n l t src steps 0 (startV n t src)).1 = vs at sp ⊢
  have hl := sp.len
  have vval : ∀ i : Int, 0 ≤ i → i < n → (vx vs i).f1 = firstV t src i ∧ (vx (startV n t src) i).f1 = firstV t src i ∧ (vx (startV n t src) i).f0 = i := fun i h0 h1 => by
    obtain ⟨j, hj, rfl, hv⟩ := vx_of (vs := vs) h0 (by omega)
    obtain ⟨j', hj', hje, hv'⟩ := vx_of (vs := startV n t src) h0 (by omega)
    obtain rfl : j = j' := by omega
    rw [hv, hv', sp.val j hj' hj, sget j hj']
    exact ⟨rfl, rfl, rfl⟩
  have mval : ∀ y ∈ vs, y.f1 = firstV t src y.f0 := fun y hy => by
    obtain ⟨i, hi, rfl⟩ := List.mem_iff_getElem.mp hy
    rw [sp.val i (by omega) hi, sp.ids i hi, sget i (by omega)]
  refine ⟨by omega, fun i hi => sp.ids i hi, sp.act, fun y hy h3 => ?_, fun e he => ?_, fun y hy h3 hlt => ?_, fun y hy => ?_, fun y hy => Or.inl (mval y hy), fun y hy h3 => ?_, fun y hy => ?_⟩
  · obtain ⟨e, he, _, hq, h4⟩ := sp.come y hy h3
    obtain ⟨a0, a1, b0, b1⟩ := edge_in hb he
    obtain ⟨_, v2, v3⟩ := vval e.f0 a0 a1
    rw [v3] at hq
    rw [h4, v2]
    exact (F.add e he _ (F.ok0 _ hq)).1
  · obtain ⟨a0, a1, b0, b1⟩ := edge_in hb he
    obtain ⟨v1, v2, v3⟩ := vval e.f0 a0 a1
    obtain ⟨w1, _, _⟩ := vval e.f1 b0 b1
    cases hq : snd0 e.f0 with
    | true =>
      have := sp.went e he (by rw [v3]; exact hq)
      rw [v2] at this
      rw [v1]
      exact Or.inr this
    | false =>
      refine Or.inl ?_
      rw [v1, w1]
      have h1 := F.rest0 e.f0 e.f1 hq
      have h2 : 0 ≤ weightV t e := by
        obtain ⟨u, hu⟩ := F.ex
        exact (F.add e he u hu).2.2
      omega
  · obtain ⟨e, he, _, hq, h4⟩ := sp.come y hy h3
    obtain ⟨a0, a1, b0, b1⟩ := edge_in hb he
    obtain ⟨v1, v2, v3⟩ := vval e.f0 a0 a1
    rw [v3] at hq
    rw [v2] at h4
    obtain ⟨_, h6, h7⟩ := F.add e he _ (F.ok0 _ hq)
    obtain ⟨j, hj, _, hv⟩ := vx_of (vs := vs) a0 (by omega)
    rw [hv] at v1
    refine List.countP_pos_iff.mpr ⟨vs[j], List.getElem_mem hj, ?_⟩
    rw [v1, h4]
    exact decide_eq_true (by omega)
  · rw [mval y hy]
    exact Int.le_refl _
  · obtain ⟨e, he, h1, hq, h4⟩ := sp.come y hy h3
    obtain ⟨a0, a1, b0, b1⟩ := edge_in hb he
    obtain ⟨v1, v2, v3⟩ := vval e.f0 a0 a1
    rw [v3] at hq
    rw [v2] at h4
    have h6 := (F.add e he _ (F.ok0 _ hq)).2.1
    refine ⟨e, he, h1, ?_⟩
    rw [v1, h4]
    omega
  · refine ⟨by rw [mval y hy]; exact F.good0 _, fun h3 => ?_⟩
    obtain ⟨e, he, h1, hq, h4⟩ := sp.come y hy h3
    obtain ⟨a0, a1, b0, b1⟩ := edge_in hb he
    obtain ⟨v1, v2, v3⟩ := vval e.f0 a0 a1
    rw [h4, ← h1, v2]
    exact F.good e he _ (F.good0 _)
theorem new_le {φ : Int → Int} (y : VVert) : φ (newV φ y) ≤ φ y.f1 ∧ (y.f3 = true → φ (newV φ y) ≤ φ y.f4) := by
  unfold newV chgB
  by_cases hc : φ y.f4 < φ y.f1
  · cases h3 : y.f3 with
    | true =>
      rw [decide_eq_true hc, Bool.and_self, if_pos rfl]
      exact ⟨by omega, fun _ => Int.le_refl _⟩
    | false =>
      rw [Bool.false_and, if_neg Bool.false_ne_true]
      exact ⟨Int.le_refl _, fun h => by cases h⟩
  · rw [decide_eq_false hc, Bool.and_false, if_neg Bool.false_ne_true]
    exact ⟨Int.le_refl _, fun _ => by omega⟩
theorem new_yes {φ : Int → Int} {y : VVert} (h : chgB φ y = true) : newV φ y = y.f4 ∧ y.f3 = true ∧ φ y.f4 < φ y.f1 := by
  refine ⟨by unfold newV; rw [if_pos h], ?_⟩
  unfold chgB at h
  simpa only [Bool.and_eq_true, decide_eq_true_eq] using h
theorem new_no {φ : Int → Int} {y : VVert} (h : chgB φ y = false) : newV φ y = y.f1 := by
  unfold newV
  rw [h, if_neg Bool.false_ne_true]
theorem flow_next (F : Flow t l src φ okm snd0 G) {n steps at_ : Int} {vs : List VVert} {k : Nat} (hb : badG n l = false) (I : FlowInv t l src φ okm G n vs k) (ha : 0 < at_) (h : (nextR n l t src steps at_ vs).2.2 = 0) : FlowInv t l src φ okm G n (nextR n l t src steps at_ vs).1 (k + 1) := by
  have sp := spread F h (newV φ) (chgB φ) (fun y hy he => by
    obtain ⟨h1, h2, h3⟩ := flow_step F ha (I.act y hy) (I.ok y hy) he
    refine ⟨h1, h2, h3.trans ?_⟩
    by_cases hc : chgB φ y = true
    · rw [if_pos hc, if_pos hc, (new_yes hc).1]
    · rw [if_neg hc, if_neg hc]) (fun y hy hc => by
    obtain ⟨e1, e2, _⟩ := new_yes hc
    rw [e1]
    exact I.ok y hy e2)
  generalize (nextR n l t src steps at_ vs).1 = ws at sp ⊢
  have hl := sp.len
  have hln := I.len
  have vval : ∀ i : Int, 0 ≤ i → i < n → (vx ws i).f1 = newV φ (vx vs i) ∧ vx vs i ∈ vs := fun i h0 h1 => by
    obtain ⟨j, hj, rfl, hv⟩ := vx_of (vs := ws) h0 (by omega)
    obtain ⟨j', hj', hje, hv'⟩ := vx_of (vs := vs) h0 (by omega)
    obtain rfl : j = j' := by omega
    rw [hv, hv', sp.val j hj' hj]
    exact ⟨rfl, List.getElem_mem hj'⟩
  have old : ∀ y ∈ ws, ∃ x ∈ vs, x.f0 = y.f0 ∧ y.f1 = newV φ x := fun y hy => by
    obtain ⟨i, hi, rfl⟩ := List.mem_iff_getElem.mp hy
    have hi' : i < vs.length := by omega
    exact ⟨vs[i], List.getElem_mem hi', by rw [I.ids i hi', sp.ids i hi], sp.val i hi' hi⟩
  refine ⟨by omega, sp.ids, sp.act, fun y hy h3 => ?_, fun e he => ?_, fun y hy h3 hlt => ?_, fun y hy => ?_, fun y hy => ?_, fun y hy h3 => ?_, fun y hy => ?_⟩
  · obtain ⟨e, he, _, hq, h4⟩ := sp.come y hy h3
    obtain ⟨a0, a1, b0, b1⟩ := edge_in hb he
    obtain ⟨_, hm⟩ := vval e.f0 a0 a1
    obtain ⟨e1, e2, _⟩ := new_yes hq
    rw [h4, e1]
    exact (F.add e he _ (I.ok _ hm e2)).1
  · obtain ⟨a0, a1, b0, b1⟩ := edge_in hb he
    obtain ⟨v1, hm⟩ := vval e.f0 a0 a1
    obtain ⟨w1, hm'⟩ := vval e.f1 b0 b1
    rw [v1, w1]
    cases hq : chgB φ (vx vs e.f0) with
    | true => exact Or.inr (sp.went e he hq)
    | false =>
      refine Or.inl ?_
      rw [new_no hq]
      have nl := new_le (φ := φ) (vx vs e.f1)
      rcases I.edge e he with h1 | ⟨h1, h2⟩
      · exact Int.le_trans nl.1 h1
      · exact Int.le_trans (nl.2 h1) h2
  · obtain ⟨e, he, _, hq, h4⟩ := sp.come y hy h3
    obtain ⟨a0, a1, b0, b1⟩ := edge_in hb he
    obtain ⟨_, hm⟩ := vval e.f0 a0 a1
    obtain ⟨e1, e2, e3⟩ := new_yes hq
    obtain ⟨_, h6, h7⟩ := F.add e he _ (I.ok _ hm e2)
    have c1 := I.count _ hm e2 e3
    have c2 := countP_lt (fun x : VVert => decide (φ x.f1 ≤ φ (vx vs e.f0).f4)) (fun x => decide (φ (newV φ x) ≤ φ (vx vs e.f0).f4)) vs (fun x hx hp => decide_eq_true (Int.le_trans (new_le x).1 (of_decide_eq_true hp))) ⟨_, hm, decide_eq_false (by omega), decide_eq_true (by rw [e1]; exact Int.le_refl _)⟩
    rw [h4, e1, h6]
    rw [sp.cnt]
    refine Nat.le_trans (Nat.le_trans (Nat.succ_le_succ c1) c2) (List.countP_mono_left fun x hx hp => ?_)
    have := of_decide_eq_true hp
    exact decide_eq_true (by omega)
  · obtain ⟨x, hx, e0, e1⟩ := old y hy
    rw [e1, ← e0]
    exact Int.le_trans (new_le x).1 (I.mono x hx)
  · obtain ⟨x, hx, e0, e1⟩ := old y hy
    rw [e1, ← e0]
    have up : ∀ e ∈ l, φ (vx ws e.f0).f1 ≤ φ (vx vs e.f0).f1 := fun e he => by
      obtain ⟨a0, a1, _, _⟩ := edge_in hb he
      rw [(vval e.f0 a0 a1).1]
      exact (new_le _).1
    cases hq : chgB φ x with
    | true =>
      obtain ⟨g1, g2, _⟩ := new_yes hq
      obtain ⟨e, he, he1, he2⟩ := I.supin x hx g2
      refine Or.inr ⟨e, he, he1, ?_⟩
      rw [g1]
      have := up e he
      omega
    | false =>
      rw [new_no hq]
      rcases I.sup x hx with h1 | ⟨e, he, he1, he2⟩
      · exact Or.inl h1
      · refine Or.inr ⟨e, he, he1, ?_⟩
        have := up e he
        omega
  · obtain ⟨e, he, h1, hq, h4⟩ := sp.come y hy h3
    obtain ⟨a0, a1, b0, b1⟩ := edge_in hb he
    obtain ⟨v1, hm⟩ := vval e.f0 a0 a1
    obtain ⟨e1, e2, e3⟩ := new_yes hq
    have h6 := (F.add e he _ (I.ok _ hm e2)).2.1
    refine ⟨e, he, h1, ?_⟩
    rw [v1, h4, e1, h6]
    exact Int.le_refl _
  · obtain ⟨x, hx, e0, e1⟩ := old y hy
    obtain ⟨g1, g2⟩ := I.good x hx
    refine ⟨?_, fun h3 => ?_⟩
    · rw [e1, ← e0]
      cases hq : chgB φ x with
      | true =>
        obtain ⟨q1, q2, _⟩ := new_yes hq
        rw [q1]
        exact g2 q2
      | false =>
        rw [new_no hq]
        exact g1
    · obtain ⟨e, he, h1, hq, h4⟩ := sp.come y hy h3
      obtain ⟨a0, a1, b0, b1⟩ := edge_in hb he
      obtain ⟨_, hm⟩ := vval e.f0 a0 a1
      obtain ⟨q1, q2, _⟩ := new_yes hq
      have hid : (vx vs e.f0).f0 = e.f0 := by
        obtain ⟨j, hj, hje, hv⟩ := vx_of (vs := vs) a0 (by omega)
        rw [hv, I.ids j hj, hje]
      have := (I.good _ hm).2 q2
      rw [hid] at this
      rw [h4, ← h1, q1]
      exact F.good e he _ this
theorem flow_runL (F : Flow t l src φ okm snd0 G) {n steps : Int} (hb : badG n l = false) {x : List Int} {m : Int} : ∀ (d : Nat) (vs : List VVert) (k : Nat), steps - (k : Int) = d → 1 ≤ k → FlowInv t l src φ okm G n vs k → runL n l t src steps d vs (k : Int) = (x, m, 0) → ∃ ws k', x = ws.map (·.f1) ∧ FlowInv t l src φ okm G n ws k' ∧ (ws.any loudV = false ∨ ((k' : Nat) : Int) = steps)
  | 0, vs, k, hd, hk, I, h => by
    rw [runL] at h
    exact ⟨vs, k, (congrArg Prod.fst h).symm, I, Or.inr (by omega)⟩
  | d + 1, vs, k, hd, hk, I, h => by
    rw [runL] at h
    cases hq : vs.any loudV with
    | false =>
      rw [hq, if_neg Bool.false_ne_true] at h
      exact ⟨vs, k, (congrArg Prod.fst h).symm, I, Or.inl hq⟩
    | true =>
      rw [hq, if_pos rfl] at h
      by_cases he : (nextR n l t src steps (k : Int) vs).2.2 = 0
      · rw [if_pos he] at h
        exact flow_runL F hb d _ (k + 1) (by omega) (by omega) (flow_next F hb I (by omega) he) h
      · rw [if_neg he] at h
        exact absurd (congrArg (fun p => p.2.2) h) he
/-- What a whole run leaves, without an error. -/
theorem flow_run (F : Flow t l src φ okm snd0 G) {n steps : Int} (hjb : jobB n l t src steps = true) {x : List Int} {m : Int} (h : runR n l t src steps = (x, m, 0)) : ∃ ws k', x = ws.map (·.f1) ∧ FlowInv t l src φ okm G n ws k' ∧ (ws.any loudV = false ∨ ((k' : Nat) : Int) = steps) := by
  obtain ⟨hb, _, _, _, _, hs1, hs2⟩ := job_of hjb
  have hn := job_n hjb
  unfold runR at h
  rw [hjb, if_pos rfl] at h
  obtain ⟨d, hd⟩ : ∃ d, steps.toNat = d + 1 := ⟨steps.toNat - 1, by omega⟩
  rw [hd, runL] at h
  have hl : (startV n t src).any loudV = true := by
    refine List.any_eq_true.mpr ⟨⟨((0 : Nat) : Int), firstV t src ((0 : Nat) : Int), true, false, 0⟩, ?_, rfl⟩
    unfold startV
    exact List.mem_map.mpr ⟨0, List.mem_range.mpr (by omega), rfl⟩
  rw [hl, if_pos rfl] at h
  by_cases he : (nextR n l t src steps 0 (startV n t src)).2.2 = 0
  · rw [if_pos he] at h
    exact flow_runL F hb d _ 1 (by omega) (Nat.le_refl _) (flow_start F hjb he) h
  · rw [if_neg he] at h
    exact absurd (congrArg (fun p => p.2.2) h) he
/-- No edge is left along which a value would still go. -/
theorem flow_end {n : Int} {ws : List VVert} {k : Nat} (I : FlowInv t l src φ okm G n ws k) (hb : badG n l = false) (hn : n ≤ 12) (hk : ws.any loudV = false ∨ ((k : Nat) : Int) = 20) : ∀ e ∈ l, φ (vx ws e.f1).f1 ≤ φ (vx ws e.f0).f1 + weightV t e := fun e he => by
  rcases I.edge e he with h1 | ⟨h1, h2⟩
  · exact h1
  · obtain ⟨a0, a1, b0, b1⟩ := edge_in hb he
    have hln := I.len
    obtain ⟨j, hj, _, hv⟩ := vx_of (vs := ws) b0 (by omega)
    have hm : vx ws e.f1 ∈ ws := by rw [hv]; exact List.getElem_mem hj
    rcases hk with hk | hk
    · rw [List.any_eq_false] at hk
      have := hk _ hm
      unfold loudV at this
      rw [h1, Bool.or_true] at this
      exact absurd rfl this
    · by_cases hlt : φ (vx ws e.f1).f4 < φ (vx ws e.f1).f1
      · have c1 := I.count _ hm h1 hlt
        have c2 := List.countP_le_length (p := fun x : VVert => decide (φ x.f1 ≤ φ (vx ws e.f1).f4)) (l := ws)
        omega
      · omega
end
theorem rd_vx (ws : List VVert) (i : Int) : rd (ws.map (·.f1)) i = (vx ws i).f1 := by
  unfold rd vx rd_T50
  rw [List.getD_eq_getElem?_getD, List.getD_eq_getElem?_getD, List.getElem?_map]
  cases ws[i.toNat]? <;> rfl
theorem runL_err (n : Int) (l : List VEdge) (t : List UInt8) (src steps : Int) : ∀ (d : Nat) (vs : List VVert) (at_ : Int), (runL n l t src steps d vs at_).2.2 ≠ 0 → (runL n l t src steps d vs at_).1 = []
  | 0, vs, at_, h => absurd rfl h
  | d + 1, vs, at_, h => by
    rw [runL] at h ⊢
    split
    · rename_i hq
      rw [if_pos hq] at h
      split
      · rename_i he
        rw [if_pos he] at h
        exact runL_err n l t src steps d _ _ h
      · rfl
    · rename_i hq
      rw [if_neg hq] at h
      exact absurd rfl h
theorem runR_err {n : Int} {l : List VEdge} {t : List UInt8} {src steps : Int} (h : (runR n l t src steps).2.2 ≠ 0) : (runR n l t src steps).1 = [] := by
  unfold runR at h ⊢
  split
  · rename_i hj
    rw [if_pos hj] at h
    exact runL_err n l t src steps _ _ _ h
  · rfl
theorem runR_job {n : Int} {l : List VEdge} {t : List UInt8} {src steps : Int} (h : (runR n l t src steps).2.2 = 0) : jobB n l t src steps = true := by
  cases hj : jobB n l t src steps with
  | true => rfl
  | false =>
    unfold runR at h
    rw [hj, if_neg Bool.false_ne_true] at h
    exact absurd h (by decide)
end Go.Proofs.Ytpndhkeoljoapaa.Pure
