/- Plain lemmas about programs' names: which are known; two values as one. -/
import Derived.Test.YtpndhkeoljoapaaGreatPx
import Derived.Laws.Strings
namespace Go.Proofs.YtpndhkeoljoapaaGreat.Pure
open Go Go.RowKit Go.Proofs.YtpndhkeoljoapaaGreat.P Go.Proofs.YtpndhkeoljoapaaGreatW.PrintWords Go.Proofs.YtpndhkeoljoapaaGreatW.PrintLast Go.Proofs.YtpndhkeoljoapaaGreatW.PrintMore
abbrev tMax : List UInt8 := [109, 97, 120]
abbrev tLabel : List UInt8 := [108, 97, 98, 101, 108]
abbrev tSssp : List UInt8 := [115, 115, 115, 112]
abbrev tBfs : List UInt8 := [98, 102, 115]
abbrev tDegree : List UInt8 := [100, 101, 103, 114, 101, 101]
abbrev tRank : List UInt8 := [114, 97, 110, 107]
abbrev tWalks : List UInt8 := [119, 97, 108, 107, 115]
/-- Is a name known? -/
def knownB (t : List UInt8) : Bool := t == tMax || (t == tLabel || (t == tSssp || (t == tBfs || (t == tDegree || (t == tRank || t == tWalks)))))
theorem wrapt {n : Int} (h1 : -9223372036854775808 ≤ n) (h2 : n < 9223372036854775808) : wrap64 n = n := by unfold wrap64; omega
theorem rd_str (L : List ByteArray) (i : Nat) (h : i < L.length) : rdOf ByteArray.empty L (i : Int) = L[i] := by
  unfold rdOf
  simp [List.getD_eq_getElem?_getD, List.getElem?_eq_getElem h]
theorem index_str (L : List ByteArray) (hL : L.length ≤ 1000) (s : ByteArray) (k : Nat) : ∀ (d i : Nat), L.length - i = d → i ≤ L.length → ∃ r, slices_Index_string_string.l0 (k + d + 1) L s (L.length : Int) (i : Int) = some r ∧ decide (r ≥ 0) = (L.drop i).any fun y => s.toList == y.toList
  | 0, i, hd, hi => by
    refine ⟨-1, ?_, ?_⟩
    · rw [slices_Index_string_string.l0, if_neg (by omega)]
    · rw [List.drop_of_length_le (by omega)]
      rfl
  | d + 1, i, hd, hi => by
    have hlt : i < L.length := by omega
    rw [show k + (d + 1) + 1 = (k + d + 1) + 1 by omega, slices_Index_string_string.l0, if_pos (by omega), if_pos (by omega), if_pos (by omega), rd_str L i hlt, wrapt (by omega) (by omega), List.drop_eq_getElem_cons hlt, List.any_cons]
    by_cases he : s.toList = L[i].toList
    · rw [if_pos he, he]
      exact ⟨_, rfl, by simp⟩
    · rw [if_neg he, beq_eq_false_iff_ne.mpr he, Bool.false_or]
      exact index_str L hL s k d (i + 1) (by omega) (by omega)
theorem known_f (s : ByteArray) (k : Nat) : prog_Known.f (k + 8) s = some (knownB s.toList) := by
  unfold prog_Known.f slices_Contains_string_string.f slices_Index_string_string.f
  obtain ⟨r, h1, h2⟩ := index_str [(⟨#[109, 97, 120]⟩ : ByteArray), (⟨#[108, 97, 98, 101, 108]⟩ : ByteArray), (⟨#[115, 115, 115, 112]⟩ : ByteArray), (⟨#[98, 102, 115]⟩ : ByteArray), (⟨#[100, 101, 103, 114, 101, 101]⟩ : ByteArray), (⟨#[114, 97, 110, 107]⟩ : ByteArray), (⟨#[119, 97, 108, 107, 115]⟩ : ByteArray)] (by decide) s k 7 0 (by decide) (by decide)
  have h1' : slices_Index_string_string.l0 (k + 8) [(⟨#[109, 97, 120]⟩ : ByteArray), (⟨#[108, 97, 98, 101, 108]⟩ : ByteArray), (⟨#[115, 115, 115, 112]⟩ : ByteArray), (⟨#[98, 102, 115]⟩ : ByteArray), (⟨#[100, 101, 103, 114, 101, 101]⟩ : ByteArray), (⟨#[114, 97, 110, 107]⟩ : ByteArray), (⟨#[119, 97, 108, 107, 115]⟩ : ByteArray)] s (7 : Nat) 0 = some r := h1
  simp only [List.length_cons, List.length_nil] at h1' ⊢
  rw [h1', Option.bind_some, Option.bind_some, h2]
  unfold knownB
  simp only [List.drop_zero, List.any_cons, List.any_nil, Bool.or_false, ByteArray.toList_eq]
/-- Is a value too great? -/
def bigB (v : Int) : Bool := decide (v > 1125899906842624) || decide (v < -1125899906842624)
theorem great_f (v : Int) : prog_great.f v = some (bigB v) := by
  unfold prog_great.f bigB
  by_cases h : v > 1125899906842624
  · rw [if_pos h, decide_eq_true h]
    rfl
  · rw [if_neg h, decide_eq_false h]
    rfl
theorem big_not {v : Int} (h : bigB v = false) : -1125899906842624 ≤ v ∧ v ≤ 1125899906842624 := by
  unfold bigB at h
  simp only [Bool.or_eq_false_iff, decide_eq_false_iff_not] at h
  omega
/-- Two values as one, of a program that is known. -/
def foldV (t : List UInt8) (a b : Int) : Int := if t = tMax then mx a b else if (t == tLabel || (t == tSssp || t == tBfs)) = true then mn a b else a + b
def foldP (t : List UInt8) (a b : Int) : Int × Int := if (bigB a || bigB b) = true then (0, 71) else if bigB (foldV t a b) = true then (0, 71) else (foldV t a b, 0)
theorem fold_j1 (k : Nat) (a b n : Int) (q : Bool) : prog_Fold.j1 (k + 1) a b n q = some (if bigB (if q = true then mn a b else n) = true then (0, 71) else (if q = true then mn a b else n, 0)) := by
  rw [prog_Fold.j1]
  cases q with
  | true =>
    simp only [great_f, Option.bind_some, if_true]
    cases bigB (mn a b) <;> rfl
  | false =>
    simp only [great_f, Option.bind_some, Bool.false_eq_true, if_false]
    cases bigB n <;> rfl
theorem fold_f (s : ByteArray) (hs : knownB s.toList = true) (a b : Int) (k : Nat) : prog_Fold.f (k + 8) s a b = some (foldP s.toList a b) := by
  unfold prog_Fold.f foldP
  rw [known_f, Option.bind_some, hs, if_pos rfl, great_f, Option.bind_some]
  cases ha : bigB a with
  | true =>
    rw [if_pos rfl, prog_Fold.j0, if_pos rfl]
    rfl
  | false =>
    rw [if_neg (by decide), great_f, Option.bind_some]
    cases hb : bigB b with
    | true =>
      rw [prog_Fold.j0, if_pos rfl]
      rfl
    | false =>
      have h1 := big_not ha
      have h2 := big_not hb
      simp only [prog_Fold.j0, Bool.false_or, Bool.or_self, Bool.false_eq_true, if_false]
      rw [wrapt (by omega) (by omega)]
      unfold foldV
      by_cases c1 : s.toList = tMax
      · rw [if_pos c1, if_pos c1, great_f, Option.bind_some]
        cases bigB (mx a b) <;> rfl
      · rw [if_neg c1, if_neg c1]
        by_cases c2 : s.toList = tLabel
        · rw [if_pos c2, c2, fold_j1]
          rfl
        · rw [if_neg c2]
          by_cases c3 : s.toList = tSssp
          · rw [if_pos c3, c3, fold_j1]
            rfl
          · rw [if_neg c3, fold_j1, beq_eq_false_iff_ne.mpr c2, beq_eq_false_iff_ne.mpr c3, Bool.false_or, Bool.false_or]
theorem fold_unknown (s : ByteArray) (hs : knownB s.toList = false) (a b : Int) (k : Nat) : prog_Fold.f (k + 8) s a b = some (0, 70) := by
  unfold prog_Fold.f
  rw [known_f, Option.bind_some, hs, if_neg (by decide)]
end Go.Proofs.YtpndhkeoljoapaaGreat.Pure
