/- Each vertex is just one worker's, at the place that is told: of every two ints. -/
import Derived.Test.YteifhpjoldljoaaPart
import Derived.Test.YteifhpjoldljoaaPx3
namespace Go.Proofs.Yteifhpjoldljoaa.Pure
open Go Go.RowKit Go.Proofs.Yteifhpjoldljoaa.P Go.Proofs.YteifhpjoldljoaaW.PrintWords Go.Proofs.Yteifhpjoldljoaa.PL
set_option linter.unusedVariables false
set_option linter.unusedSimpArgs false
/-- A mark for each vertex of which something holds. -/
def seenOf (n : Nat) (p : Nat → Bool) : List Int := (List.range n).map fun v => if p v then 1 else 0
theorem seenOf_length (n : Nat) (p : Nat → Bool) : (seenOf n p).length = n := by simp [seenOf]
theorem seenOf_get (n : Nat) (p : Nat → Bool) (v : Nat) (h : v < n) : (seenOf n p).getD v 0 = if p v then 1 else 0 := by
  unfold seenOf
  rw [List.getD_eq_getElem?_getD, List.getElem?_map, List.getElem?_range h]; rfl
theorem seenOf_congr {n : Nat} {p q : Nat → Bool} (h : ∀ v, v < n → p v = q v) : seenOf n p = seenOf n q := by
  unfold seenOf
  apply List.map_congr_left
  intro v hv
  rw [h v (List.mem_range.1 hv)]
theorem seenOf_set {n : Nat} {p : Nat → Bool} {v : Nat} (h : v < n) : (seenOf n p).set v 1 = seenOf n (fun u => p u || u == v) := by
  apply List.ext_getElem
  · simp [seenOf]
  · intro i h1 h2
    rw [List.getElem_set]
    simp only [seenOf, List.getElem_map, List.getElem_range]
    by_cases e : v = i
    · subst e; simp
    · rw [if_neg e]
      have : (i == v) = false := by simp; omega
      simp [this]

theorem l0_zeros (n w : Int) (hn : n ≤ 64) : ∀ (d k i : Nat), i + d = n.toNat → d < k → modillionlaw06_PartAll.l0 k n w (List.replicate i 0) (i : Int) = modillionlaw06_PartAll.l1 (k - d - 1) n w (List.replicate n.toNat 0) 0 := by
  intro d
  induction d with
  | zero =>
    intro k i hi hk
    obtain ⟨k, rfl⟩ : ∃ m, k = m + 1 := ⟨k - 1, by omega⟩
    simp only [modillionlaw06_PartAll.l0]; rw [if_neg (by omega)]
    rw [show i = n.toNat by omega]; rfl
  | succ d ih =>
    intro k i hi hk
    obtain ⟨k, rfl⟩ : ∃ m, k = m + 1 := ⟨k - 1, by omega⟩
    simp only [modillionlaw06_PartAll.l0]; rw [if_pos (by omega), if_pos (by simp; omega), wrap64_id (by omega) (by omega), show (i : Int) + 1 = ((i + 1 : Nat) : Int) by omega, ← List.replicate_succ', ih k (i + 1) (by omega) (by omega)]
    congr 1; omega

theorem l3_ones (n : Int) (hn : n ≤ 64) (p : Nat → Bool) (hp : ∀ v, v < n.toNat → p v = true) : ∀ (d k i : Nat), i + d = n.toNat → d < k → modillionlaw06_PartAll.l3 k n (seenOf n.toNat p) (i : Int) = some true := by
  intro d
  induction d with
  | zero =>
    intro k i hi hk
    obtain ⟨k, rfl⟩ : ∃ m, k = m + 1 := ⟨k - 1, by omega⟩
    simp only [modillionlaw06_PartAll.l3]; rw [if_neg (by omega)]
  | succ d ih =>
    intro k i hi hk
    obtain ⟨k, rfl⟩ : ∃ m, k = m + 1 := ⟨k - 1, by omega⟩
    simp only [modillionlaw06_PartAll.l3]; rw [if_pos (by omega), if_pos (by omega), if_pos (by rw [seenOf_length]; omega), rd_eq rfl, seenOf_get _ _ _ (by omega), hp i (by omega), if_pos rfl, if_pos rfl, wrap64_id (by omega) (by omega), show (i : Int) + 1 = ((i + 1 : Nat) : Int) by omega]
    exact ih k (i + 1) (by omega) (by omega)

theorem l2_row (n w x : Int) (hok : Ok n w) (hx0 : 0 ≤ x) (hx1 : x < w) : ∀ (d k j : Nat), j + d = (verts n w x).length → 2 * d + 70 < k →
    modillionlaw06_PartAll.l2 k n w (seenOf n.toNat fun v => decide (own v w < x) || decide ((v : Int) ∈ (verts n w x).take j)) x (verts n w x) (j : Int) =
      modillionlaw06_PartAll.l1 (k - 2 * d - 1) n w (seenOf n.toNat fun v => decide (own v w < x + 1)) (x + 1) := by
  have hok' := hok
  unfold Ok at hok'
  have hlen := verts_length n w x (by omega)
  have hmem : ∀ v, v ∈ verts n w x ↔ 0 ≤ v ∧ v < n ∧ own v w = x := by
    intro v; unfold verts; rw [vertsFrom_mem]
    constructor
    · rintro ⟨a, b, c⟩; exact ⟨a, by omega, c⟩
    · rintro ⟨a, b, c⟩; exact ⟨a, by omega, c⟩
  have hsort : (verts n w x).Pairwise (· < ·) := vertsFrom_sorted _ _ _ _
  intro d
  induction d with
  | zero =>
    intro k j hj hk
    obtain ⟨k, rfl⟩ : ∃ m, k = m + 1 := ⟨k - 1, by omega⟩
    simp only [modillionlaw06_PartAll.l2]; rw [if_neg (by omega), wrap64_id (by omega) (by omega)]
    have : (seenOf n.toNat fun v => decide (own v w < x) || decide ((v : Int) ∈ (verts n w x).take j)) = seenOf n.toNat fun v => decide (own v w < x + 1) := by
      apply seenOf_congr
      intro v hv
      rw [List.take_of_length_le (by omega)]
      have := hmem v
      by_cases a : own v w < x
      · rw [decide_eq_true a, decide_eq_true (show own (v : Int) w < x + 1 by omega)]; rfl
      · rw [decide_eq_false a]
        by_cases b : own (v : Int) w = x
        · rw [decide_eq_true (this.2 ⟨by omega, by omega, b⟩), decide_eq_true (show own (v : Int) w < x + 1 by omega)]; rfl
        · rw [decide_eq_false (fun h => b (this.1 h).2.2), decide_eq_false (show ¬ own (v : Int) w < x + 1 by omega)]; rfl
    rw [this]; rfl
  | succ d ih =>
    intro k j hj hk
    obtain ⟨k, rfl⟩ : ∃ m, k = m + 2 := ⟨k - 2, by omega⟩
    have hjl : j < (verts n w x).length := by omega
    have hv := (hmem (verts n w x)[j]).1 (List.getElem_mem hjl)
    have hidx := idx_at hsort hjl
    have hnot : ∀ u : Nat, (u : Int) = (verts n w x)[j] → ¬ (u : Int) ∈ (verts n w x).take j := by
      intro u hu h
      obtain ⟨i, hi, e⟩ := List.mem_take_iff_getElem.1 h
      have := List.pairwise_iff_getElem.1 hsort i j (by omega) hjl (by omega)
      omega
    have hprev : ∀ h : 0 < j, (verts n w x)[j - 1]'(by omega) < (verts n w x)[j] := fun h => List.pairwise_iff_getElem.1 hsort (j - 1) j (by omega) hjl (by omega)
    have hr : rd (verts n w x) (j : Int) = (verts n w x)[j] := by rw [rd_eq rfl]; simp [List.getD_eq_getElem?_getD, List.getElem?_eq_getElem hjl]
    have htake : (verts n w x).take (j + 1) = (verts n w x).take j ++ [(verts n w x)[j]] := by rw [List.take_succ_eq_append_getElem hjl]
    have ihj := ih k (j + 1) (by omega) (by omega)
    rw [htake] at ihj
    clear ih htake hmem hsort
    obtain ⟨v, hvv⟩ : ∃ v, (verts n w x)[j] = v := ⟨_, rfl⟩
    simp only [hvv] at hv hidx hnot hprev hr ihj
    obtain ⟨u, rfl⟩ := nat_of hv.1
    have key : modillionlaw06_PartAll.j4 (k + 1) n w (seenOf n.toNat fun v => decide (own v w < x) || decide ((v : Int) ∈ (verts n w x).take j)) x (verts n w x) (j : Int) false = modillionlaw06_PartAll.l1 (k - 2 * d - 1) n w (seenOf n.toNat fun v => decide (own v w < x + 1)) (x + 1) := by
      simp only [modillionlaw06_PartAll.j4, Bool.false_eq_true, if_false]
      rw [if_pos (by omega), if_pos (by omega), hr, if_pos (by omega), if_pos (by rw [seenOf_length]; omega), place_f _ _ _ k (by omega), if_pos ⟨hok, by omega, by omega⟩, hv.2.2, hidx]
      simp only [Option.bind_some, if_true]
      rw [rd_eq rfl, seenOf_get _ _ _ (by omega), decide_eq_false (show ¬ own (u : Int) w < x by omega), decide_eq_false (hnot u rfl)]
      simp only [Bool.or_self, Bool.false_eq_true, if_false]
      rw [show wrap64 (0 + 1) = 1 from wrap64_id (by omega) (by omega), show ((u : Int)).toNat = u by omega, seenOf_set (by omega), wrap64_id (by omega) (by omega), show (j : Int) + 1 = ((j + 1 : Nat) : Int) by omega]
      rw [← ihj]
      congr 1
      apply seenOf_congr
      intro z hz
      rw [Bool.or_assoc]
      congr 1
      by_cases e : z = u
      · subst e; simp
      · have e' : (z == u) = false := by simpa using e
        rw [e', Bool.or_false]
        have : ((z : Int) ∈ List.take j (verts n w x) ++ [(u : Int)]) ↔ ((z : Int) ∈ List.take j (verts n w x)) := by
          rw [List.mem_append, List.mem_singleton]
          constructor
          · rintro (h | h)
            · exact h
            · exact absurd h (by omega)
          · exact .inl
        simp only [this]
    have key2 : modillionlaw06_PartAll.j4 (k + 1) n w (seenOf n.toNat fun v => decide (own v w < x) || decide ((v : Int) ∈ (verts n w x).take j)) x (verts n w x) (j : Int) (own (u : Int) w != x) = modillionlaw06_PartAll.l1 (k - 2 * d - 1) n w (seenOf n.toNat fun v => decide (own v w < x + 1)) (x + 1) := by
      rw [show (own (u : Int) w != x) = false from bne_eq_false_iff_eq.mpr hv.2.2]; exact key
    simp only [modillionlaw06_PartAll.l2]
    rw [if_pos (by omega), if_pos (by omega), hr, if_neg (by omega), if_neg (by omega), owner_f]
    simp only [Option.bind_some]
    have fin : modillionlaw06_PartAll.l1 (k - 2 * d - 1) n w (seenOf n.toNat fun v => decide (own v w < x + 1)) (x + 1) = modillionlaw06_PartAll.l1 (k + 2 - 2 * (d + 1) - 1) n w (seenOf n.toNat fun v => decide (own v w < x + 1)) (x + 1) := by congr 1; omega
    by_cases h0 : (j : Int) > 0
    · have hp := hprev (by omega)
      rw [if_pos h0, wrap64_id (by omega) (by omega), if_pos (by omega), if_pos (by omega), show (j : Int) - 1 = ((j - 1 : Nat) : Int) by omega, rd_eq rfl]
      rw [if_neg (by simp only [List.getD_eq_getElem?_getD, List.getElem?_eq_getElem (show j - 1 < (verts n w x).length by omega), Option.getD_some]; omega)]
      rw [key2, fin]
    · rw [if_neg h0, key2, fin]

theorem l1_all (n w : Int) (hok : Ok n w) : ∀ (d k : Nat) (x : Int), 0 ≤ x → x + d = w → 200 * d + 200 < k → modillionlaw06_PartAll.l1 k n w (seenOf n.toNat fun v => decide (own v w < x)) x = some true := by
  have hok' := hok
  unfold Ok at hok'
  intro d
  induction d with
  | zero =>
    intro k x h0 h1 hk
    obtain ⟨k, rfl⟩ : ∃ m, k = m + 1 := ⟨k - 1, by omega⟩
    simp only [modillionlaw06_PartAll.l1]; rw [if_neg (by omega)]
    have := l3_ones n (by omega) (fun v => decide (own v w < x)) (fun v hv => decide_eq_true (by have := own_range (v := v) (w := w) (by omega) (by omega) (by omega); omega)) n.toNat k 0 (by omega) (by omega)
    simpa using this
  | succ d ih =>
    intro k x h0 h1 hk
    obtain ⟨k, rfl⟩ : ∃ m, k = m + 1 := ⟨k - 1, by omega⟩
    simp only [modillionlaw06_PartAll.l1]; rw [if_pos (by omega), of_f, if_pos ⟨hok, by omega, by omega⟩]; simp only [Option.bind_some, if_true]
    have hlen := verts_length n w x (by omega)
    have e := l2_row n w x hok h0 (by omega) (verts n w x).length k 0 (by omega) (by omega)
    have e0 : (seenOf n.toNat fun v => decide (own v w < x) || decide ((v : Int) ∈ (verts n w x).take 0)) = seenOf n.toNat fun v => decide (own v w < x) := seenOf_congr fun v _ => by simp
    rw [e0] at e
    rw [show ((0 : Nat) : Int) = 0 from rfl] at e
    rw [e]
    exact ih _ (x + 1) (by omega) (by omega) (by omega)

theorem PartAll : modillionlaw06_PartAll.Pure := by
  intro n w hn hw
  refine ⟨20001, ?_⟩
  unfold modillionlaw06_PartAll.f
  rw [awake06 20001 (by omega), refright_f]; simp only [Option.bind_some, if_true]
  by_cases h : Ok n w
  · rw [decide_eq_true h]
    have hok' := h
    unfold Ok at hok'
    simp only [modillionlaw06_PartAll.j0, Bool.not_true, Bool.false_eq_true, if_false]
    have e := l0_zeros n w (by omega) n.toNat 20000 0 (by omega) (by omega)
    have e0 : (List.replicate n.toNat 0 : List Int) = seenOf n.toNat fun v => decide (own v w < 0) := by
      apply List.ext_getElem
      · simp [seenOf]
      · intro i h1 h2
        have := own_range (v := i) (w := w) (by omega) (by omega) (by omega)
        simp only [seenOf, List.getElem_map, List.getElem_range, List.getElem_replicate]
        rw [decide_eq_false (by omega)]; rfl
    rw [e0] at e
    have e1 := l1_all n w h w.toNat (20000 - n.toNat - 1) 0 (by omega) (by omega) (by omega)
    rw [e1] at e
    simpa using e
  · rw [decide_eq_false h]
    simp only [modillionlaw06_PartAll.j0, Bool.not_false, if_true]
    rw [awake06 20000 (by omega)]; rfl
end Go.Proofs.Yteifhpjoldljoaa.Pure
