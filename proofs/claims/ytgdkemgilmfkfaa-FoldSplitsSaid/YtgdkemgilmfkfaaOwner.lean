/- Whose a vertex is: the program's answer and the reference's, in plain words. Lemmas, no condition. -/
import Derived.Test.YtgdkemgilmfkfaaMix
import Derived.Test.YtgdkemgilmfkfaaPx
namespace Go.Proofs.Ytgdkemgilmfkfaa.PL
open Go Go.RowKit Go.Proofs.Ytgdkemgilmfkfaa.P Go.Proofs.YtgdkemgilmfkfaaW.PrintWords
set_option linter.unusedVariables false
set_option linter.unusedSimpArgs false
set_option maxRecDepth 20000

theorem wrap_u64 (n : Nat) (h : n < 18446744073709551616) : IntKind.u64.wrap (n : Int) = (n : Int) := by
  simp only [IntKind.wrap, IntKind.bits, IntKind.signed]
  simp
  omega
theorem wrap64_id {x : Int} (h0 : -9223372036854775808 ≤ x) (h1 : x ≤ 9223372036854775807) : wrap64 x = x := by unfold wrap64; omega
theorem u32_wf {a : Int} (h : (Lit.int .u32 a).wf = true) : 0 ≤ a ∧ a < 4294967296 := by
  simp only [Lit.wf, IntKind.min, IntKind.max, IntKind.bits, IntKind.signed] at h
  simp at h
  omega
theorem i64_wf {a : Int} (h : (Lit.int .i64 a).wf = true) : -9223372036854775808 ≤ a ∧ a ≤ 9223372036854775807 := by
  simp only [Lit.wf, IntKind.min, IntKind.max, IntKind.bits, IntKind.signed] at h
  simp at h
  omega
theorem nat_of {a : Int} (h : 0 ≤ a) : ∃ n : Nat, a = n := ⟨a.toNat, by omega⟩

theorem mixN_eq (v : Nat) : mixN v = ((v * 2654435761 % 4294967296 ^^^ v * 2654435761 % 4294967296 / 32768) * 2246822519 % 4294967296) ^^^ ((v * 2654435761 % 4294967296 ^^^ v * 2654435761 % 4294967296 / 32768) * 2246822519 % 4294967296) / 8192 := rfl
/-- The last two steps of a mix, of whole numbers of 32 bits. -/
def g3 (r : Int) : Int := Go.bits .xor .u32 r (r / 8192)
def g2 (q : Int) : Int := g3 ((q * 2246822519) % 4294967296)
def g1 (p : Int) : Int := g2 (Go.bits .xor .u32 p (p / 32768))
theorem part_mix_g (a : Int) : part_Mix.f a = some (g1 ((a * 2654435761) % 4294967296)) := rfl
theorem g3_nat (z : Nat) (h : z < 4294967296) : g3 z = ((z ^^^ z / 8192 : Nat) : Int) := by
  unfold g3
  rw [show ((z : Int) / 8192) = ((z / 8192 : Nat) : Int) by omega, bits_xor_u32 z (z / 8192) h (by omega)]
theorem g2_nat (q : Nat) : g2 q = ((q * 2246822519 % 4294967296 ^^^ q * 2246822519 % 4294967296 / 8192 : Nat) : Int) := by
  unfold g2
  rw [show ((q : Int) * 2246822519) % 4294967296 = ((q * 2246822519 % 4294967296 : Nat) : Int) by omega]
  exact g3_nat _ (Nat.mod_lt _ (by decide))
theorem g1_nat (x : Nat) (h : x < 4294967296) : g1 x = g2 ((x ^^^ x / 32768 : Nat) : Int) := by
  unfold g1
  rw [show ((x : Int) / 32768) = ((x / 32768 : Nat) : Int) by omega, bits_xor_u32 x (x / 32768) h (by omega)]
theorem mix_f (a : Nat) (h : a < 4294967296) : part_Mix.f (a : Int) = some (mixN a : Int) := by
  rw [part_mix_g, show ((a : Int) * 2654435761) % 4294967296 = ((a * 2654435761 % 4294967296 : Nat) : Int) by omega, g1_nat _ (Nat.mod_lt _ (by decide)), g2_nat, mixN_eq]

theorem tmod_nat (x c : Nat) : Int.tmod (x : Int) (c : Int) = ((x % c : Nat) : Int) := by
  rw [Int.tmod_eq_emod_of_nonneg (by omega), Int.natCast_emod]
theorem tdiv_nat (x c : Nat) : Int.tdiv (x : Int) (c : Int) = ((x / c : Nat) : Int) := by
  rw [Int.tdiv_eq_ediv_of_nonneg (by omega), Int.natCast_ediv]

def h3 (r : Int) : Int := (Go.bits .xor .u64 r (IntKind.u64.wrap (Int.tdiv r 8192))) % 4294967296
def h2 (q : Int) : Int := h3 (Int.tmod (IntKind.u64.wrap (q * 2246822519)) 4294967296)
def h1 (p : Int) : Int := h2 (Go.bits .xor .u64 p (IntKind.u64.wrap (Int.tdiv p 32768)))
theorem ref_mix_h (a : Int) : modillionref06_Mix.f a = some (h1 (Int.tmod (IntKind.u64.wrap ((IntKind.u64.wrap a) * 2654435761)) 4294967296)) := rfl
theorem h3_nat (z : Nat) (h : z < 4294967296) : h3 z = ((z ^^^ z / 8192 : Nat) : Int) := by
  unfold h3
  have hw' := xor_lt32 h (show z / 8192 < 4294967296 by omega)
  rw [show (8192 : Int) = ((8192 : Nat) : Int) from rfl, tdiv_nat, wrap_u64 (z / 8192) (by omega), bits_xor_u64 z (z / 8192) (by omega) (by omega)]
  omega
theorem h2_nat (q : Nat) (h : q < 4294967296) : h2 q = ((q * 2246822519 % 4294967296 ^^^ q * 2246822519 % 4294967296 / 8192 : Nat) : Int) := by
  unfold h2
  rw [show ((q : Int) * 2246822519) = ((q * 2246822519 : Nat) : Int) by omega, wrap_u64 _ (by omega), show (4294967296 : Int) = ((4294967296 : Nat) : Int) from rfl, tmod_nat]
  exact h3_nat _ (Nat.mod_lt _ (by decide))
theorem h1_nat (x : Nat) (h : x < 4294967296) : h1 x = h2 ((x ^^^ x / 32768 : Nat) : Int) := by
  unfold h1
  rw [show (32768 : Int) = ((32768 : Nat) : Int) from rfl, tdiv_nat, wrap_u64 (x / 32768) (by omega), bits_xor_u64 x (x / 32768) (by omega) (by omega)]
theorem refmix_f (a : Nat) (h : a < 4294967296) : modillionref06_Mix.f (a : Int) = some (mixN a : Int) := by
  rw [ref_mix_h, wrap_u64 a (by omega), show ((a : Int) * 2654435761) = ((a * 2654435761 : Nat) : Int) by omega, wrap_u64 _ (by omega), show (4294967296 : Int) = ((4294967296 : Nat) : Int) from rfl, tmod_nat, h1_nat _ (Nat.mod_lt _ (by decide)), h2_nat _ (xor_lt32 (Nat.mod_lt _ (by decide)) (Nat.lt_of_le_of_lt (Nat.div_le_self _ _) (Nat.mod_lt _ (by decide)))), mixN_eq]

/-- Whose a vertex is. -/
def own (v w : Int) : Int := if v < 0 then -1 else if w < 1 then -1 else if w > 64 then -1 else ((mixN (v.toNat % 4294967296) % w.toNat : Nat) : Int)
theorem own_range {v w : Int} (hv : 0 ≤ v) (h1 : 1 ≤ w) (h2 : w ≤ 64) : 0 ≤ own v w ∧ own v w < w := by
  unfold own
  rw [if_neg (by omega), if_neg (by omega), if_neg (by omega)]
  have := Nat.mod_lt (mixN (v.toNat % 4294967296)) (show 0 < w.toNat by omega)
  omega

theorem owner_f (v w : Int) : part_Owner.f v w = some (own v w) := by
  unfold part_Owner.f own
  by_cases h1 : v < 0
  · rw [if_pos h1, if_pos h1]
  · rw [if_neg h1, if_neg h1]
    by_cases h2 : w < 1
    · rw [if_pos h2, if_pos h2]
    · rw [if_neg h2, if_neg h2]
      by_cases h3 : w > 64
      · rw [if_pos h3, if_pos h3]
      · rw [if_neg h3, if_neg h3]
        obtain ⟨n, rfl⟩ := nat_of (show 0 ≤ v by omega)
        obtain ⟨m, rfl⟩ := nat_of (show 0 ≤ w by omega)
        rw [show (n : Int) % 4294967296 = ((n % 4294967296 : Nat) : Int) by omega, mix_f _ (by omega)]
        simp only [Option.bind_some]
        rw [if_neg (by omega), show (m : Int) % 4294967296 = (m : Int) by omega, tmod_nat]
        have := Nat.mod_lt (mixN (n % 4294967296)) (show 0 < m by omega)
        rw [wrap64_id (by omega) (by omega)]
        simp

theorem refowner_f (v w : Int) (hv : v ≤ 9223372036854775807) : modillionref06_Owner.f v w = some (own v w) := by
  unfold modillionref06_Owner.f own
  by_cases h1 : v < 0
  · rw [if_pos h1, if_pos h1]
  · rw [if_neg h1, if_neg h1]
    by_cases h2 : w < 1
    · rw [if_pos h2, if_pos h2]
    · rw [if_neg h2, if_neg h2]
      by_cases h3 : w > 64
      · rw [if_pos h3, if_pos h3]
      · rw [if_neg h3, if_neg h3]
        obtain ⟨n, rfl⟩ := nat_of (show 0 ≤ v by omega)
        obtain ⟨m, rfl⟩ := nat_of (show 0 ≤ w by omega)
        rw [wrap_u64 n (by omega), show (4294967296 : Int) = ((4294967296 : Nat) : Int) from rfl, tmod_nat, show ((n % 4294967296 : Nat) : Int) % ((4294967296 : Nat) : Int) = ((n % 4294967296 : Nat) : Int) by omega, refmix_f _ (by omega)]
        simp only [Option.bind_some]
        rw [if_neg (by omega), show (m : Int) % ((4294967296 : Nat) : Int) = (m : Int) by omega, tmod_nat]
        have := Nat.mod_lt (mixN (n % 4294967296)) (show 0 < m by omega)
        rw [wrap64_id (by omega) (by omega)]
        simp

end Go.Proofs.Ytgdkemgilmfkfaa.PL
