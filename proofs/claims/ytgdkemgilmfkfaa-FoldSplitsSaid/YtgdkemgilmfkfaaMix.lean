/- The mix of the document, of natural numbers, is one to one. Plain lemmas, no condition. -/
import Derived.RowKit
import Derived.Laws.Entries
namespace Go.Proofs.Ytgdkemgilmfkfaa.PL
open Go Go.RowKit

/-- The mixed number, of natural numbers. -/
def mixN (v : Nat) : Nat :=
  let m1 := v * 2654435761 % 4294967296
  let m2 := m1 ^^^ (m1 / 32768)
  let m3 := m2 * 2246822519 % 4294967296
  m3 ^^^ (m3 / 8192)

theorem bits_xor_u32 (x y : Nat) (hx : x < 4294967296) (hy : y < 4294967296) : Go.bits .xor .u32 (x : Int) (y : Int) = ((x ^^^ y : Nat) : Int) := by
  have h : x ^^^ y < 2 ^ 32 := Nat.xor_lt_two_pow (by simpa using hx) (by simpa using hy)
  have h' : x ^^^ y < 4294967296 := by simpa using h
  show IntKind.wrap .u32 ((BitVec.ofInt 32 (x : Int) ^^^ BitVec.ofInt 32 (y : Int)).toNat : Int) = _
  rw [BitVec.toNat_xor, BitVec.ofInt_natCast, BitVec.ofInt_natCast, BitVec.toNat_ofNat, BitVec.toNat_ofNat, Nat.mod_eq_of_lt (by simpa using hx), Nat.mod_eq_of_lt (by simpa using hy)]
  simp only [IntKind.wrap, IntKind.bits, IntKind.signed]
  simp
  omega

theorem bits_xor_u64 (x y : Nat) (hx : x < 18446744073709551616) (hy : y < 18446744073709551616) : Go.bits .xor .u64 (x : Int) (y : Int) = ((x ^^^ y : Nat) : Int) := by
  have h : x ^^^ y < 2 ^ 64 := Nat.xor_lt_two_pow (by simpa using hx) (by simpa using hy)
  have h' : x ^^^ y < 18446744073709551616 := by simpa using h
  show IntKind.wrap .u64 ((BitVec.ofInt 64 (x : Int) ^^^ BitVec.ofInt 64 (y : Int)).toNat : Int) = _
  rw [BitVec.toNat_xor, BitVec.ofInt_natCast, BitVec.ofInt_natCast, BitVec.toNat_ofNat, BitVec.toNat_ofNat, Nat.mod_eq_of_lt (by simpa using hx), Nat.mod_eq_of_lt (by simpa using hy)]
  simp only [IntKind.wrap, IntKind.bits, IntKind.signed]
  simp
  omega

theorem xor_lt32 {x y : Nat} (hx : x < 4294967296) (hy : y < 4294967296) : x ^^^ y < 4294967296 := by
  have h : x ^^^ y < 2 ^ 32 := Nat.xor_lt_two_pow (by simpa using hx) (by simpa using hy)
  simpa using h

theorem mixN_lt (v : Nat) : mixN v < 4294967296 := by
  unfold mixN
  apply xor_lt32
  · exact Nat.mod_lt _ (by decide)
  · exact Nat.lt_of_le_of_lt (Nat.div_le_self _ _) (Nat.mod_lt _ (by decide))

theorem mul_back (c i q : Nat) (h : c * i = 1 + q * 4294967296) (x y : Nat) (hx : x < 4294967296) (hy : y < 4294967296) (e : x * c % 4294967296 = y * c % 4294967296) : x = y := by
  have go : ∀ z, z < 4294967296 → (z * c % 4294967296) * i % 4294967296 = z := by
    intro z hz
    rw [Nat.mod_mul_mod, Nat.mul_assoc, h, Nat.mul_add, Nat.mul_one, ← Nat.mul_assoc, Nat.add_mul_mod_self_right, Nat.mod_eq_of_lt hz]
  rw [← go x hx, e, go y hy]

theorem xs15_back (x : Nat) (hx : x < 4294967296) : let z := x ^^^ (x / 32768); (z ^^^ (z / 32768)) ^^^ (z / 1073741824) = x := by
  intro z
  have e1 : ∀ n : Nat, n / 32768 = n >>> 15 := fun n => by rw [Nat.shiftRight_eq_div_pow]
  have e2 : ∀ n : Nat, n / 1073741824 = n >>> 30 := fun n => by rw [Nat.shiftRight_eq_div_pow]
  have h0 : x >>> 45 = 0 := by rw [Nat.shiftRight_eq_div_pow]; omega
  show ((x ^^^ (x / 32768)) ^^^ ((x ^^^ (x / 32768)) / 32768)) ^^^ ((x ^^^ (x / 32768)) / 1073741824) = x
  rw [e2]; simp only [e1]
  rw [Nat.shiftRight_xor_distrib, Nat.shiftRight_xor_distrib, ← Nat.shiftRight_add, ← Nat.shiftRight_add, h0]
  apply Nat.eq_of_testBit_eq
  intro i
  simp only [Nat.testBit_xor, Nat.zero_testBit]
  generalize Nat.testBit x i = a
  generalize Nat.testBit (x >>> 15) i = b
  generalize Nat.testBit (x >>> (15 + 15)) i = c
  generalize Nat.testBit (x >>> 30) i = d
  revert a b c d
  first | decide | skip
theorem xs15_inj (x y : Nat) (hx : x < 4294967296) (hy : y < 4294967296) (e : x ^^^ (x / 32768) = y ^^^ (y / 32768)) : x = y := by
  have a := xs15_back x hx
  have b := xs15_back y hy
  simp only at a b
  rw [e] at a
  exact a.symm.trans b
theorem xs13_back (x : Nat) (hx : x < 4294967296) : let z := x ^^^ (x / 8192); (z ^^^ (z / 8192)) ^^^ (z / 67108864) = x := by
  intro z
  have e1 : ∀ n : Nat, n / 8192 = n >>> 13 := fun n => by rw [Nat.shiftRight_eq_div_pow]
  have e2 : ∀ n : Nat, n / 67108864 = n >>> 26 := fun n => by rw [Nat.shiftRight_eq_div_pow]
  have h0 : x >>> 39 = 0 := by rw [Nat.shiftRight_eq_div_pow]; omega
  show ((x ^^^ (x / 8192)) ^^^ ((x ^^^ (x / 8192)) / 8192)) ^^^ ((x ^^^ (x / 8192)) / 67108864) = x
  rw [e2]; simp only [e1]
  rw [Nat.shiftRight_xor_distrib, Nat.shiftRight_xor_distrib, ← Nat.shiftRight_add, ← Nat.shiftRight_add, h0]
  apply Nat.eq_of_testBit_eq
  intro i
  simp only [Nat.testBit_xor, Nat.zero_testBit]
  generalize Nat.testBit x i = a
  generalize Nat.testBit (x >>> 13) i = b
  generalize Nat.testBit (x >>> (13 + 13)) i = c
  generalize Nat.testBit (x >>> 26) i = d
  revert a b c d
  first | decide | skip
theorem xs13_inj (x y : Nat) (hx : x < 4294967296) (hy : y < 4294967296) (e : x ^^^ (x / 8192) = y ^^^ (y / 8192)) : x = y := by
  have a := xs13_back x hx
  have b := xs13_back y hy
  simp only at a b
  rw [e] at a
  exact a.symm.trans b

theorem mixN_inj (x y : Nat) (hx : x < 4294967296) (hy : y < 4294967296) (e : mixN x = mixN y) : x = y := by
  unfold mixN at e
  simp only at e
  have e1 := xs13_inj _ _ (Nat.mod_lt _ (by decide)) (Nat.mod_lt _ (by decide)) e
  have lt : ∀ z, z * 2654435761 % 4294967296 ^^^ z * 2654435761 % 4294967296 / 32768 < 4294967296 := fun z =>
    xor_lt32 (Nat.mod_lt _ (by decide)) (Nat.lt_of_le_of_lt (Nat.div_le_self _ _) (Nat.mod_lt _ (by decide)))
  have e2 := mul_back 2246822519 3066638151 1604247758 (by decide) _ _ (lt x) (lt y) e1
  have e3 := xs15_inj _ _ (Nat.mod_lt _ (by decide)) (Nat.mod_lt _ (by decide)) e2
  exact mul_back 2654435761 244002641 150801925 (by decide) _ _ hx hy e3
end Go.Proofs.Ytgdkemgilmfkfaa.PL
