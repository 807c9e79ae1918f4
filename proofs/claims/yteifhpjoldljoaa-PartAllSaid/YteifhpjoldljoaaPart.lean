/- What the functions of package part, and the reference of layer 6, compute, in plain words. Lemmas, no condition. -/
import Derived.Test.YteifhpjoldljoaaMix
import Derived.Test.YteifhpjoldljoaaPx2
namespace Go.Proofs.Yteifhpjoldljoaa.PL
open Go Go.RowKit Go.Proofs.Yteifhpjoldljoaa.P Go.Proofs.YteifhpjoldljoaaW.PrintWords
set_option linter.unusedVariables false
set_option linter.unusedSimpArgs false
set_option maxRecDepth 20000

theorem wrap_u64 (n : Nat) (h : n < 18446744073709551616) : IntKind.u64.wrap (n : Int) = (n : Int) := by
  simp only [IntKind.wrap, IntKind.bits, IntKind.signed]
  simp
  omega
theorem wrap64_id {x : Int} (h0 : -9223372036854775808 ≤ x) (h1 : x ≤ 9223372036854775807) : wrap64 x = x := by unfold wrap64; omega
theorem u32_wf {a : Int} (h : (Lit.int .u32 a).wf = true) : 0 ≤ a ∧ a < 4294967296 := by
  simp only [Lit.wf, IntKind.min, IntKind.max, IntKind.bits, IntKind.signed] at h
  simp at h
  omega
theorem i64_wf {a : Int} (h : (Lit.int .i64 a).wf = true) : -9223372036854775808 ≤ a ∧ a ≤ 9223372036854775807 := by
  simp only [Lit.wf, IntKind.min, IntKind.max, IntKind.bits, IntKind.signed] at h
  simp at h
  omega
theorem nat_of {a : Int} (h : 0 ≤ a) : ∃ n : Nat, a = n := ⟨a.toNat, by omega⟩

theorem mixN_eq (v : Nat) : mixN v = ((v * 2654435761 % 4294967296 ^^^ v * 2654435761 % 4294967296 / 32768) * 2246822519 % 4294967296) ^^^ ((v * 2654435761 % 4294967296 ^^^ v * 2654435761 % 4294967296 / 32768) * 2246822519 % 4294967296) / 8192 := rfl
/-- The last two steps of a mix, of whole numbers of 32 bits. -/
def g3 (r : Int) : Int := Go.bits .xor .u32 r (r / 8192)
def g2 (q : Int) : Int := g3 ((q * 2246822519) % 4294967296)
def g1 (p : Int) : Int := g2 (Go.bits .xor .u32 p (p / 32768))
theorem part_mix_g (a : Int) : part_Mix.f a = some (g1 ((a * 2654435761) % 4294967296)) := rfl
theorem g3_nat (z : Nat) (h : z < 4294967296) : g3 z = ((z ^^^ z / 8192 : Nat) : Int) := by
  unfold g3
  rw [show ((z : Int) / 8192) = ((z / 8192 : Nat) : Int) by omega, bits_xor_u32 z (z / 8192) h (by omega)]
theorem g2_nat (q : Nat) : g2 q = ((q * 2246822519 % 4294967296 ^^^ q * 2246822519 % 4294967296 / 8192 : Nat) : Int) := by
  unfold g2
  rw [show ((q : Int) * 2246822519) % 4294967296 = ((q * 2246822519 % 4294967296 : Nat) : Int) by omega]
  exact g3_nat _ (Nat.mod_lt _ (by decide))
theorem g1_nat (x : Nat) (h : x < 4294967296) : g1 x = g2 ((x ^^^ x / 32768 : Nat) : Int) := by
  unfold g1
  rw [show ((x : Int) / 32768) = ((x / 32768 : Nat) : Int) by omega, bits_xor_u32 x (x / 32768) h (by omega)]
theorem mix_f (a : Nat) (h : a < 4294967296) : part_Mix.f (a : Int) = some (mixN a : Int) := by
  rw [part_mix_g, show ((a : Int) * 2654435761) % 4294967296 = ((a * 2654435761 % 4294967296 : Nat) : Int) by omega, g1_nat _ (Nat.mod_lt _ (by decide)), g2_nat, mixN_eq]

theorem tmod_nat (x c : Nat) : Int.tmod (x : Int) (c : Int) = ((x % c : Nat) : Int) := by
  rw [Int.tmod_eq_emod_of_nonneg (by omega), Int.natCast_emod]
theorem tdiv_nat (x c : Nat) : Int.tdiv (x : Int) (c : Int) = ((x / c : Nat) : Int) := by
  rw [Int.tdiv_eq_ediv_of_nonneg (by omega), Int.natCast_ediv]

def h3 (r : Int) : Int := (Go.bits .xor .u64 r (IntKind.u64.wrap (Int.tdiv r 8192))) % 4294967296
def h2 (q : Int) : Int := h3 (Int.tmod (IntKind.u64.wrap (q * 2246822519)) 4294967296)
def h1 (p : Int) : Int := h2 (Go.bits .xor .u64 p (IntKind.u64.wrap (Int.tdiv p 32768)))
theorem ref_mix_h (a : Int) : modillionref06_Mix.f a = some (h1 (Int.tmod (IntKind.u64.wrap ((IntKind.u64.wrap a) * 2654435761)) 4294967296)) := rfl
theorem h3_nat (z : Nat) (h : z < 4294967296) : h3 z = ((z ^^^ z / 8192 : Nat) : Int) := by
  unfold h3
  have hw' := xor_lt32 h (show z / 8192 < 4294967296 by omega)
  rw [show (8192 : Int) = ((8192 : Nat) : Int) from rfl, tdiv_nat, wrap_u64 (z / 8192) (by omega), bits_xor_u64 z (z / 8192) (by omega) (by omega)]
  omega
theorem h2_nat (q : Nat) (h : q < 4294967296) : h2 q = ((q * 2246822519 % 4294967296 ^^^ q * 2246822519 % 4294967296 / 8192 : Nat) : Int) := by
  unfold h2
  rw [show ((q : Int) * 2246822519) = ((q * 2246822519 : Nat) : Int) by omega, wrap_u64 _ (by omega), show (4294967296 : Int) = ((4294967296 : Nat) : Int) from rfl, tmod_nat]
  exact h3_nat _ (Nat.mod_lt _ (by decide))
theorem h1_nat (x : Nat) (h : x < 4294967296) : h1 x = h2 ((x ^^^ x / 32768 : Nat) : Int) := by
  unfold h1
  rw [show (32768 : Int) = ((32768 : Nat) : Int) from rfl, tdiv_nat, wrap_u64 (x / 32768) (by omega), bits_xor_u64 x (x / 32768) (by omega) (by omega)]
theorem refmix_f (a : Nat) (h : a < 4294967296) : modillionref06_Mix.f (a : Int) = some (mixN a : Int) := by
  rw [ref_mix_h, wrap_u64 a (by omega), show ((a : Int) * 2654435761) = ((a * 2654435761 : Nat) : Int) by omega, wrap_u64 _ (by omega), show (4294967296 : Int) = ((4294967296 : Nat) : Int) from rfl, tmod_nat, h1_nat _ (Nat.mod_lt _ (by decide)), h2_nat _ (xor_lt32 (Nat.mod_lt _ (by decide)) (Nat.lt_of_le_of_lt (Nat.div_le_self _ _) (Nat.mod_lt _ (by decide)))), mixN_eq]

/-- Whose a vertex is. -/
def own (v w : Int) : Int := if v < 0 then -1 else if w < 1 then -1 else if w > 64 then -1 else ((mixN (v.toNat % 4294967296) % w.toNat : Nat) : Int)
theorem own_range {v w : Int} (hv : 0 ≤ v) (h1 : 1 ≤ w) (h2 : w ≤ 64) : 0 ≤ own v w ∧ own v w < w := by
  unfold own
  rw [if_neg (by omega), if_neg (by omega), if_neg (by omega)]
  have := Nat.mod_lt (mixN (v.toNat % 4294967296)) (show 0 < w.toNat by omega)
  omega

theorem owner_f (v w : Int) : part_Owner.f v w = some (own v w) := by
  unfold part_Owner.f own
  by_cases h1 : v < 0
  · rw [if_pos h1, if_pos h1]
  · rw [if_neg h1, if_neg h1]
    by_cases h2 : w < 1
    · rw [if_pos h2, if_pos h2]
    · rw [if_neg h2, if_neg h2]
      by_cases h3 : w > 64
      · rw [if_pos h3, if_pos h3]
      · rw [if_neg h3, if_neg h3]
        obtain ⟨n, rfl⟩ := nat_of (show 0 ≤ v by omega)
        obtain ⟨m, rfl⟩ := nat_of (show 0 ≤ w by omega)
        rw [show (n : Int) % 4294967296 = ((n % 4294967296 : Nat) : Int) by omega, mix_f _ (by omega)]
        simp only [Option.bind_some]
        rw [if_neg (by omega), show (m : Int) % 4294967296 = (m : Int) by omega, tmod_nat]
        have := Nat.mod_lt (mixN (n % 4294967296)) (show 0 < m by omega)
        rw [wrap64_id (by omega) (by omega)]
        simp

theorem refowner_f (v w : Int) (hv : v ≤ 9223372036854775807) : modillionref06_Owner.f v w = some (own v w) := by
  unfold modillionref06_Owner.f own
  by_cases h1 : v < 0
  · rw [if_pos h1, if_pos h1]
  · rw [if_neg h1, if_neg h1]
    by_cases h2 : w < 1
    · rw [if_pos h2, if_pos h2]
    · rw [if_neg h2, if_neg h2]
      by_cases h3 : w > 64
      · rw [if_pos h3, if_pos h3]
      · rw [if_neg h3, if_neg h3]
        obtain ⟨n, rfl⟩ := nat_of (show 0 ≤ v by omega)
        obtain ⟨m, rfl⟩ := nat_of (show 0 ≤ w by omega)
        rw [wrap_u64 n (by omega), show (4294967296 : Int) = ((4294967296 : Nat) : Int) from rfl, tmod_nat, show ((n % 4294967296 : Nat) : Int) % ((4294967296 : Nat) : Int) = ((n % 4294967296 : Nat) : Int) by omega, refmix_f _ (by omega)]
        simp only [Option.bind_some]
        rw [if_neg (by omega), show (m : Int) % ((4294967296 : Nat) : Int) = (m : Int) by omega, tmod_nat]
        have := Nat.mod_lt (mixN (n % 4294967296)) (show 0 < m by omega)
        rw [wrap64_id (by omega) (by omega)]
        simp

/-- The vertices from i on, of so many more, whose owner is x. -/
def vertsFrom (w x : Int) : Nat → Int → List Int
  | 0, _ => []
  | d + 1, i => if own i w = x then i :: vertsFrom w x d (i + 1) else vertsFrom w x d (i + 1)
/-- The vertices of a worker. -/
def verts (n w x : Int) : List Int := vertsFrom w x n.toNat 0
theorem vertsFrom_length (w x : Int) : ∀ d i, (vertsFrom w x d i).length ≤ d
  | 0, _ => by simp [vertsFrom]
  | d + 1, i => by
    have := vertsFrom_length w x d (i + 1)
    simp only [vertsFrom]
    split <;> simp <;> omega
theorem vertsFrom_mem (w x v : Int) : ∀ d i, v ∈ vertsFrom w x d i ↔ i ≤ v ∧ v < i + d ∧ own v w = x
  | 0, i => by simp [vertsFrom]; omega
  | d + 1, i => by
    have ih := vertsFrom_mem w x v d (i + 1)
    simp only [vertsFrom]
    split
    · rename_i h
      rw [List.mem_cons, ih]
      constructor
      · rintro (rfl | ⟨a, b, c⟩)
        · exact ⟨by omega, by omega, h⟩
        · exact ⟨by omega, by omega, c⟩
      · rintro ⟨a, b, c⟩
        by_cases e : v = i
        · exact .inl e
        · exact .inr ⟨by omega, by omega, c⟩
    · rename_i h
      rw [ih]
      constructor
      · rintro ⟨a, b, c⟩; exact ⟨by omega, by omega, c⟩
      · rintro ⟨a, b, c⟩
        have : v ≠ i := fun e => h (e ▸ c)
        exact ⟨by omega, by omega, c⟩
theorem vertsFrom_sorted (w x : Int) : ∀ d i, (vertsFrom w x d i).Pairwise (· < ·)
  | 0, _ => by simp [vertsFrom]
  | d + 1, i => by
    have ih := vertsFrom_sorted w x d (i + 1)
    simp only [vertsFrom]
    split
    · refine List.pairwise_cons.2 ⟨fun a ha => ?_, ih⟩
      have := (vertsFrom_mem w x a d (i + 1)).1 ha
      omega
    · exact ih

theorem of_l0 (n w x : Int) (hn : n ≤ 64) : ∀ (d k : Nat) (l : List Int) (i : Int), 0 ≤ i → i + d = n → l.length ≤ i → d < k → part_Of.l0 k n w x l i = some (l ++ vertsFrom w x d i) := by
  intro d
  induction d with
  | zero =>
    intro k l i h0 h1 hl hk
    obtain ⟨k, rfl⟩ : ∃ m, k = m + 1 := ⟨k - 1, by omega⟩
    simp only [part_Of.l0]; rw [if_neg (by omega)]; simp [vertsFrom]
  | succ d ih =>
    intro k l i h0 h1 hl hk
    obtain ⟨k, rfl⟩ : ∃ m, k = m + 1 := ⟨k - 1, by omega⟩
    simp only [part_Of.l0]; rw [if_pos (by omega), owner_f]; simp only [Option.bind_some, vertsFrom]
    rw [wrap64_id (by omega) (by omega)]
    by_cases e : own i w = x
    · rw [if_pos e, if_pos e, if_pos (by omega), ih k _ (i + 1) (by omega) (by omega) (by simp; omega) (by omega)]; simp
    · rw [if_neg e, if_neg e, ih k _ (i + 1) (by omega) (by omega) (by omega) (by omega)]
theorem refof_l0 (n w x : Int) (hn : n ≤ 64) : ∀ (d k : Nat) (l : List Int) (i : Int), 0 ≤ i → i + d = n → l.length ≤ i → d < k → modillionref06_Of.l0 k n w x l i = some (l ++ vertsFrom w x d i) := by
  intro d
  induction d with
  | zero =>
    intro k l i h0 h1 hl hk
    obtain ⟨k, rfl⟩ : ∃ m, k = m + 1 := ⟨k - 1, by omega⟩
    simp only [modillionref06_Of.l0]; rw [if_neg (by omega)]; simp [vertsFrom]
  | succ d ih =>
    intro k l i h0 h1 hl hk
    obtain ⟨k, rfl⟩ : ∃ m, k = m + 1 := ⟨k - 1, by omega⟩
    simp only [modillionref06_Of.l0]; rw [if_pos (by omega), refowner_f _ _ (by omega)]; simp only [Option.bind_some, vertsFrom]
    rw [wrap64_id (by omega) (by omega)]
    by_cases e : own i w = x
    · rw [if_pos e, if_pos e, if_pos (by omega), ih k _ (i + 1) (by omega) (by omega) (by simp; omega) (by omega)]; simp
    · rw [if_neg e, if_neg e, ih k _ (i + 1) (by omega) (by omega) (by omega) (by omega)]

/-- May there be so many? -/
def Ok (n w : Int) : Prop := 1 ≤ n ∧ n ≤ 64 ∧ 1 ≤ w ∧ w ≤ 64
instance (n w : Int) : Decidable (Ok n w) := by unfold Ok; infer_instance
theorem right_f (n w : Int) : part_right.f n w = some (decide (Ok n w)) := by
  unfold part_right.f
  by_cases h1 : n ≥ 1
  · rw [if_pos h1]
    by_cases h2 : n ≤ 64
    · rw [if_pos h2]
      by_cases h3 : w ≥ 1
      · rw [if_pos h3]
        by_cases h4 : w ≤ 64
        · rw [decide_eq_true h4, decide_eq_true (show Ok n w from ⟨h1, h2, h3, h4⟩)]
        · rw [decide_eq_false h4, decide_eq_false (show ¬ Ok n w from fun z => h4 z.2.2.2)]
      · rw [if_neg h3, decide_eq_false (show ¬ Ok n w from fun z => h3 z.2.2.1)]
    · rw [if_neg h2, decide_eq_false (show ¬ Ok n w from fun z => h2 z.2.1)]
  · rw [if_neg h1, decide_eq_false (show ¬ Ok n w from fun z => h1 z.1)]
theorem refright_f (n w : Int) : modillionref06_Right.f n w = some (decide (Ok n w)) := right_f n w

theorem of_f (n w x : Int) : part_Of.f n w x = some (if Ok n w ∧ 0 ≤ x ∧ x < w then (verts n w x, 0) else ([], 60)) := by
  unfold part_Of.f
  rw [right_f]; simp only [Option.bind_some, decide_eq_true_eq]
  by_cases h : Ok n w
  · rw [if_pos h]
    by_cases h1 : x < 0
    · rw [if_pos h1, if_neg (by omega)]
    · rw [if_neg h1]
      by_cases h2 : x ≥ w
      · rw [if_pos h2, if_neg (by omega)]
      · rw [if_neg h2, if_pos ⟨h, by omega, by omega⟩]
        unfold Ok at h
        rw [of_l0 n w x (by omega) n.toNat 65 [] 0 (by omega) (by omega) (by simp) (by omega)]
        simp [verts]
  · rw [if_neg h, if_neg (by intro z; exact h z.1)]
theorem refof_f (n w x : Int) (h : Ok n w) (k : Nat) (hk : 65 ≤ k) : modillionref06_Of.f k n w x = some (verts n w x) := by
  unfold Ok at h
  unfold modillionref06_Of.f
  rw [refof_l0 n w x (by omega) n.toNat k [] 0 (by omega) (by omega) (by simp) (by omega)]
  simp [verts]

theorem rd_eq {l : List Int} {i : Int} {n : Nat} (h : i = n) : rd l i = l.getD n 0 := by subst h; simp [rd]

theorem row_l0 (a b : List Int) (hl : a.length = b.length) (hb : a.length ≤ 9223372036854775806) : ∀ (d k i : Nat), i + d = a.length → d < k → modillionref06_Row.l0 k a b (i : Int) = some (decide (a.drop i = b.drop i)) := by
  intro d
  induction d with
  | zero =>
    intro k i hi hk
    obtain ⟨k, rfl⟩ : ∃ m, k = m + 1 := ⟨k - 1, by omega⟩
    simp only [modillionref06_Row.l0]; rw [if_neg (by omega)]
    rw [List.drop_of_length_le (by omega), List.drop_of_length_le (by omega)]; simp
  | succ d ih =>
    intro k i hi hk
    obtain ⟨k, rfl⟩ : ∃ m, k = m + 1 := ⟨k - 1, by omega⟩
    have ha : i < a.length := by omega
    have hbl : i < b.length := by omega
    simp only [modillionref06_Row.l0]; rw [if_pos (by omega), if_pos (by omega), if_pos (by omega), rd_eq rfl, rd_eq rfl]
    rw [List.drop_eq_getElem_cons ha, List.drop_eq_getElem_cons hbl]
    simp only [List.getD_eq_getElem?_getD, List.getElem?_eq_getElem ha, List.getElem?_eq_getElem hbl, Option.getD_some]
    by_cases e : a[i] = b[i]
    · rw [if_pos e, wrap64_id (by omega) (by omega), show ((i : Int) + 1) = ((i + 1 : Nat) : Int) by omega, ih k (i + 1) (by omega) (by omega)]
      simp only [List.cons.injEq, e, true_and]
    · rw [if_neg e]; simp only [List.cons.injEq, e, false_and, decide_false]
theorem row_f (a b : List Int) (hb : a.length ≤ 9223372036854775806) (k : Nat) (hk : a.length < k) : modillionref06_Row.f k a b = some (decide (a = b)) := by
  unfold modillionref06_Row.f
  by_cases e : a.length = b.length
  · rw [if_pos (by omega)]
    have := row_l0 a b e hb a.length k 0 (by omega) hk
    simpa using this
  · rw [if_neg (by omega)]
    have : ¬ a = b := fun h => e (by rw [h])
    simp [this]

/-- Where in a list something is, or -1. -/
def idx (l : List Int) (v : Int) : Int := match l.findIdx? (· == v) with | some i => i | none => -1
theorem index_l0 (l : List Int) (v : Int) (hb : l.length ≤ 9223372036854775806) : ∀ (d k i : Nat), i + d = l.length → d < k → slices_Index_int_int.l0 k l v (l.length : Int) (i : Int) = some (match (l.drop i).findIdx? (· == v) with | some j => ((i + j : Nat) : Int) | none => -1) := by
  intro d
  induction d with
  | zero =>
    intro k i hi hk
    obtain ⟨k, rfl⟩ : ∃ m, k = m + 1 := ⟨k - 1, by omega⟩
    simp only [slices_Index_int_int.l0]; rw [if_neg (by omega), List.drop_of_length_le (by omega)]; simp
  | succ d ih =>
    intro k i hi hk
    obtain ⟨k, rfl⟩ : ∃ m, k = m + 1 := ⟨k - 1, by omega⟩
    have ha : i < l.length := by omega
    simp only [slices_Index_int_int.l0]; rw [if_pos (by omega), if_pos (by omega), if_pos (by omega), rd_eq rfl]
    rw [List.drop_eq_getElem_cons ha]
    simp only [List.getD_eq_getElem?_getD, List.getElem?_eq_getElem ha, Option.getD_some, List.findIdx?_cons]
    by_cases e : v = l[i]
    · rw [if_pos e]; simp [e]
    · have e' : ¬ l[i] = v := fun h => e h.symm
      rw [if_neg e, wrap64_id (by omega) (by omega), show ((i : Int) + 1) = ((i + 1 : Nat) : Int) by omega, ih k (i + 1) (by omega) (by omega)]
      cases h : (l.drop (i + 1)).findIdx? (fun x => x == v) with
      | none => simp [e']
      | some j => simp only [e', beq_iff_eq, if_false, Option.map_some]; exact congrArg some (show ((i + 1 + j : Nat) : Int) = ((i + (j + 1) : Nat) : Int) by omega)
theorem index_f (l : List Int) (v : Int) (hb : l.length ≤ 9223372036854775806) (k : Nat) (hk : l.length < k) : slices_Index_int_int.f k l v = some (idx l v) := by
  unfold slices_Index_int_int.f idx
  have := index_l0 l v hb l.length k 0 (by omega) hk
  simpa using this

theorem idx_at {l : List Int} (hp : l.Pairwise (· < ·)) {i : Nat} (h : i < l.length) : idx l l[i] = i := by
  unfold idx
  have : l.findIdx? (· == l[i]) = some i := by
    rw [List.findIdx?_eq_some_iff_getElem]
    refine ⟨h, by simp, fun j hj => ?_⟩
    have := List.pairwise_iff_getElem.1 hp j i (by omega) h hj
    simp; omega
  rw [this]
theorem idx_mem {l : List Int} {v : Int} (h : v ∈ l) : ∃ i : Nat, idx l v = i ∧ ∃ hi : i < l.length, l[i] = v := by
  unfold idx
  cases e : l.findIdx? (· == v) with
  | none =>
    rw [List.findIdx?_eq_none_iff] at e
    exact absurd (e v h) (by simp)
  | some i =>
    obtain ⟨hi, h1, _⟩ := List.findIdx?_eq_some_iff_getElem.1 e
    exact ⟨i, rfl, hi, by simpa using h1⟩

theorem verts_length (n w x : Int) (h : n ≤ 64) : (verts n w x).length ≤ 64 := by
  have := vertsFrom_length w x n.toNat 0
  unfold verts
  omega
theorem place_f (n w v : Int) (k : Nat) (hk : 66 ≤ k) : part_Place.f k n w v = some (if Ok n w ∧ 0 ≤ v ∧ v < n then (own v w, idx (verts n w (own v w)) v, 0) else (0, 0, 60)) := by
  obtain ⟨k, rfl⟩ : ∃ m, k = m + 1 := ⟨k - 1, by omega⟩
  unfold part_Place.f
  rw [right_f]; simp only [Option.bind_some, decide_eq_true_eq]
  by_cases h : Ok n w
  · rw [if_pos h]
    by_cases h1 : v < 0
    · rw [if_pos h1, if_neg (by omega)]; simp [part_Place.j0]
    · rw [if_neg h1]
      by_cases h2 : v ≥ n
      · rw [if_neg (by omega)]; simp [part_Place.j0, h2]
      · have hw := h
        unfold Ok at hw
        have ho := own_range (v := v) (w := w) (by omega) (by omega) (by omega)
        simp only [part_Place.j0, decide_eq_true_eq]
        rw [if_neg h2, owner_f]; simp only [Option.bind_some]
        rw [of_f]; simp only [Option.bind_some]
        rw [if_pos ⟨h, by omega, by omega⟩, if_pos ⟨h, by omega, by omega⟩]
        have hl := verts_length n w (own v w) (by omega)
        simp only
        rw [index_f _ _ (by omega) k (by omega)]; simp
  · rw [if_neg h, if_neg (by intro z; exact h z.1)]; simp [part_Place.j0]

theorem awake06 (k : Nat) (hk : 70 ≤ k) : modillionlaw06_awake.f k = some true := by
  have e1 : mixN 1 ≠ 1 := by decide
  have m0 : mixN 0 = 0 := by decide
  unfold modillionlaw06_awake.f
  have hv : verts 3 1 0 = [0, 1, 2] := by decide
  have ho : own 2 1 = 0 := by decide
  have hi : idx [0, 1, 2] 2 = 2 := by decide
  have h5 : own 5 1 = 0 := by decide
  rw [of_f]; simp only [Option.bind_some]
  rw [place_f _ _ _ k (by omega)]; simp only [Option.bind_some]
  rw [show (1 : Int) = ((1 : Nat) : Int) from rfl, mix_f 1 (by omega), refmix_f 1 (by omega)]
  simp only [Option.bind_some, if_true]
  rw [if_neg (by omega)]
  rw [if_pos (show Ok 3 ((1 : Nat) : Int) ∧ (0 : Int) ≤ 0 ∧ (0 : Int) < ((1 : Nat) : Int) by unfold Ok; omega), if_pos (show Ok 3 ((1 : Nat) : Int) ∧ (0 : Int) ≤ 2 ∧ (2 : Int) < 3 by unfold Ok; omega)]
  simp only [show (((1 : Nat) : Int)) = 1 from rfl, hv, ho, hi]
  rw [row_f _ _ (by simp) k (by simp; omega), owner_f, h5]
  simp
end Go.Proofs.Yteifhpjoldljoaa.PL
