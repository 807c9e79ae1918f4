/- What these Go functions compute, as Lean functions, and that they do. No condition. -/
import Derived.Test.YtpndhkeoljoapaaGreatPx0
import Derived.Test.YtpndhkeoljoapaaGreatPx11
import Derived.Test.YtpndhkeoljoapaaGreatPx14
namespace Go.Proofs.YtpndhkeoljoapaaGreat.P
open Go.RowKit Go.Proofs.YtpndhkeoljoapaaGreatW.PrintWords Go.Proofs.YtpndhkeoljoapaaGreatW.PrintLast Go.Proofs.YtpndhkeoljoapaaGreatW.PrintMore
attribute [local go_sem] max2_int min2_int max_two min_two max_three min_three max_four min_four   -- for this text's walks alone
set_option linter.unusedVariables false
set_option linter.unusedSimpArgs false
set_option linter.unnecessarySimpa false
theorem iteS22 {α : Type} {c : Prop} [Decidable c] {a : Option α} {r : α} (h : (if c then a else none) = some r) : c ∧ a = some r := by
 by_cases hc : c
 ·rw [if_pos hc] at h; exact ⟨hc, h⟩
 ·rw [if_neg hc] at h; cases h

/-! ### modillionref07_First: function 38 (given) -/
def modillionref07_First.f (a0_0 : ByteArray) (a0_1 a0_2 a1 : Int) : Option (Int × Int × Bool × Bool × Int) := if 0 ≤ a1 ∧ a1 ≤ 1048576 then (modillionref07_Known.f a0_0).bind fun b => if b = true then some (a1, firstV a0_0.toList a0_1 a1, true, false, 0) else some (0, 0, false, false, 0) else none
section
open Go.Shelf Go.Proofs.YtpndhkeoljoapaaGreat.Bridge
theorem modillionref07_First.alloc3 (w : World) (A B C : Obj) : (((w.alloc A).alloc B).alloc C).heap[w.heap.size]? = some A ∧ (((w.alloc A).alloc B).alloc C).heap[w.heap.size + 1]? = some B ∧ (((w.alloc A).alloc B).alloc C).heap[w.heap.size + 1 + 1]? = some C := by
 refine ⟨blk_alloc (blk_alloc (heap_alloc_new w A) B) C, blk_alloc ?_ C, ?_⟩
 ·have h := heap_alloc_new (w.alloc A) B
  rwa [show (w.alloc A).heap.size = w.heap.size + 1 by simp] at h
 ·have h := heap_alloc_new ((w.alloc A).alloc B) C
  rwa [show ((w.alloc A).alloc B).heap.size = w.heap.size + 1 + 1 by simp] at h
set_option maxHeartbeats 8000000 in
set_option maxRecDepth 100000 in
theorem modillionref07_First.w_unknown (tag : ByteArray) (source steps v : Int) (w : World) (HK : ∀ W, Calls Tryz.prog 37 #[.string tag] W fun e w' => e = .returned (.bool false) ∧ Below W.heap.size W w')  :
  Calls Tryz.prog 38 #[.agg #[.string tag, .int .i64 source, .int .i64 steps], .int .i64 v] w fun e w' => e = .returned (.agg #[.int .i64 0, .int .i64 0, .bool false, .bool false, .int .i64 0]) ∧ Below w.heap.size w w' := by
 have hu1 := Tryz.underlying50
 have hu2 := Tryz.underlying26
 have hn : w.heap.size + 1 ≠ w.heap.size + 1 + 1 := by omega
 have hn' : w.heap.size + 1 + 1 ≠ w.heap.size + 1 := by omega
 go_enter Tryz.func38, Tryz.ntmps38
 go_wp2_with (fail)
 refine (HK _).mono ?_
 rintro e w2 ⟨rfl, hb⟩
 have B4 : Aside0 (w2.heap[w.heap.size + 1]? = some (.cells #[.int .i64 0, .int .i64 0, .bool false, .bool false, .int .i64 0] 50 (0, 0))) := ⟨blk_below (modillionref07_First.alloc3 w _ _ _).2.1 hb⟩
 have B5 : Aside0 (w2.heap[w.heap.size + 1 + 1]? = some (.cells #[.int .i64 v, .int .i64 0, .bool true, .bool false, .int .i64 0] 50 (0, 0))) := ⟨blk_below (modillionref07_First.alloc3 w _ _ _).2.2 hb⟩
 have B3 : Aside0 (w2.heap[w.heap.size]? = some (.cells #[.string tag, .int .i64 source, .int .i64 steps] 26 (0, 0))) := ⟨blk_below (modillionref07_First.alloc3 w _ _ _).1 hb⟩
 have HB2 : Aside0 (Below w.heap.size w w2) := ⟨by
  refine Below.trans (below_alloc (below_alloc (below_alloc (Below.refl _ _) _) _) _) (hb.mono ?_)
  simp; omega⟩
 obtain ⟨j0, j1, _⟩ := c3z w2 B3.out
 obtain ⟨s0, s1, s2, s3, s4, f0, f1, f2, f3, f4⟩ := q5z w2 B4.out
 obtain ⟨x0, x1, x2, x3, x4, g0, g1, g2, g3, g4⟩ := q5z w2 B5.out
 clear hb HK
 go_wp2
 refine bodyPost_ret (results_cell_row rfl _ _ (w.heap.size + 1) 50 #[.int .i64 0, .int .i64 0, .bool false, .bool false, .int .i64 0] (0, 0) _ rfl ?hg Tryz.underlying50 rfl (by kernel_rfl)) rfl ?_
 case hg => exact (blk_put (blk_put (blk_put (blk_put (blk_put B4.out 0 _ rfl) 1 _ rfl) 2 _ rfl) 3 _ rfl) 4 _ rfl)
 exact ⟨rfl, (below_set (below_set (below_set (below_set (below_set HB2.out (Nat.le_succ _)) (Nat.le_succ _)) (Nat.le_succ _)) (Nat.le_succ _)) (Nat.le_succ _))⟩
set_option maxHeartbeats 8000000 in
set_option maxRecDepth 100000 in
theorem modillionref07_First.w_max (tag : ByteArray) (source steps v : Int) (w : World) (HK : ∀ W, Calls Tryz.prog 37 #[.string tag] W fun e w' => e = .returned (.bool true) ∧ Below W.heap.size W w') (ht : tag.toList = [109, 97, 120]) (h0 : 0 ≤ v ∧ v ≤ 1048576) :
  Calls Tryz.prog 38 #[.agg #[.string tag, .int .i64 source, .int .i64 steps], .int .i64 v] w fun e w' => e = .returned (.agg #[.int .i64 v, .int .i64 ((37 * v + 11) % 64), .bool true, .bool false, .int .i64 0]) ∧ Below w.heap.size w w' := by
 have hu1 := Tryz.underlying50
 have hu2 := Tryz.underlying26
 have e1 : wrap64 (37 * v) = 37 * v := by unfold wrap64; omega
 have e2 : wrap64 (37 * v + 11) = 37 * v + 11 := by unfold wrap64; omega
 have e3 : Int.tmod (37 * v + 11) 64 = (37 * v + 11) % 64 := Int.tmod_eq_emod_of_nonneg (by omega)
 have q0 : 0 ≤ 37 * v + 11 := by omega
 clear h0
 have t_max : (tag.toList == ([109, 97, 120] : List UInt8)) = true := by rw [ht]; rfl
 have t_label : (tag.toList == ([108, 97, 98, 101, 108] : List UInt8)) = false := by rw [ht]; rfl
 have t_sssp : (tag.toList == ([115, 115, 115, 112] : List UInt8)) = false := by rw [ht]; rfl
 have t_bfs : (tag.toList == ([98, 102, 115] : List UInt8)) = false := by rw [ht]; rfl
 have t_rank : (tag.toList == ([114, 97, 110, 107] : List UInt8)) = false := by rw [ht]; rfl
 have t_walks : (tag.toList == ([119, 97, 108, 107, 115] : List UInt8)) = false := by rw [ht]; rfl
 clear ht
 have hn : w.heap.size + 1 ≠ w.heap.size + 1 + 1 := by omega
 have hn' : w.heap.size + 1 + 1 ≠ w.heap.size + 1 := by omega
 go_enter Tryz.func38, Tryz.ntmps38
 go_wp2_with (fail)
 refine (HK _).mono ?_
 rintro e w2 ⟨rfl, hb⟩
 have B4 : Aside0 (w2.heap[w.heap.size + 1]? = some (.cells #[.int .i64 0, .int .i64 0, .bool false, .bool false, .int .i64 0] 50 (0, 0))) := ⟨blk_below (modillionref07_First.alloc3 w _ _ _).2.1 hb⟩
 have B5 : Aside0 (w2.heap[w.heap.size + 1 + 1]? = some (.cells #[.int .i64 v, .int .i64 0, .bool true, .bool false, .int .i64 0] 50 (0, 0))) := ⟨blk_below (modillionref07_First.alloc3 w _ _ _).2.2 hb⟩
 have B3 : Aside0 (w2.heap[w.heap.size]? = some (.cells #[.string tag, .int .i64 source, .int .i64 steps] 26 (0, 0))) := ⟨blk_below (modillionref07_First.alloc3 w _ _ _).1 hb⟩
 have HB2 : Aside0 (Below w.heap.size w w2) := ⟨by
  refine Below.trans (below_alloc (below_alloc (below_alloc (Below.refl _ _) _) _) _) (hb.mono ?_)
  simp; omega⟩
 obtain ⟨j0, j1, _⟩ := c3z w2 B3.out
 obtain ⟨s0, s1, s2, s3, s4, f0, f1, f2, f3, f4⟩ := q5z w2 B4.out
 obtain ⟨x0, x1, x2, x3, x4, g0, g1, g2, g3, g4⟩ := q5z w2 B5.out
 clear hb HK
 go_wp2
 refine bodyPost_ret (results_cell_row rfl _ _ (w.heap.size + 1) 50 #[.int .i64 v, .int .i64 ((37 * v + 11) % 64), .bool true, .bool false, .int .i64 0] (0, 0) _ rfl ?hg Tryz.underlying50 rfl (by kernel_rfl)) rfl ?_
 case hg => exact (blk_put (blk_put (blk_put (blk_put (blk_put (blk_far B4.out hn _) 0 _ rfl) 1 _ rfl) 2 _ rfl) 3 _ rfl) 4 _ rfl)
 exact ⟨rfl, (below_set (below_set (below_set (below_set (below_set (below_set HB2.out (by omega)) (Nat.le_succ _)) (Nat.le_succ _)) (Nat.le_succ _)) (Nat.le_succ _)) (Nat.le_succ _))⟩
set_option maxHeartbeats 8000000 in
set_option maxRecDepth 100000 in
theorem modillionref07_First.w_label (tag : ByteArray) (source steps v : Int) (w : World) (HK : ∀ W, Calls Tryz.prog 37 #[.string tag] W fun e w' => e = .returned (.bool true) ∧ Below W.heap.size W w') (ht : tag.toList = [108, 97, 98, 101, 108]) :
  Calls Tryz.prog 38 #[.agg #[.string tag, .int .i64 source, .int .i64 steps], .int .i64 v] w fun e w' => e = .returned (.agg #[.int .i64 v, .int .i64 v, .bool true, .bool false, .int .i64 0]) ∧ Below w.heap.size w w' := by
 have hu1 := Tryz.underlying50
 have hu2 := Tryz.underlying26
 have t_max : (tag.toList == ([109, 97, 120] : List UInt8)) = false := by rw [ht]; rfl
 have t_label : (tag.toList == ([108, 97, 98, 101, 108] : List UInt8)) = true := by rw [ht]; rfl
 have t_sssp : (tag.toList == ([115, 115, 115, 112] : List UInt8)) = false := by rw [ht]; rfl
 have t_bfs : (tag.toList == ([98, 102, 115] : List UInt8)) = false := by rw [ht]; rfl
 have t_rank : (tag.toList == ([114, 97, 110, 107] : List UInt8)) = false := by rw [ht]; rfl
 have t_walks : (tag.toList == ([119, 97, 108, 107, 115] : List UInt8)) = false := by rw [ht]; rfl
 clear ht
 have hn : w.heap.size + 1 ≠ w.heap.size + 1 + 1 := by omega
 have hn' : w.heap.size + 1 + 1 ≠ w.heap.size + 1 := by omega
 go_enter Tryz.func38, Tryz.ntmps38
 go_wp2_with (fail)
 refine (HK _).mono ?_
 rintro e w2 ⟨rfl, hb⟩
 have B4 : Aside0 (w2.heap[w.heap.size + 1]? = some (.cells #[.int .i64 0, .int .i64 0, .bool false, .bool false, .int .i64 0] 50 (0, 0))) := ⟨blk_below (modillionref07_First.alloc3 w _ _ _).2.1 hb⟩
 have B5 : Aside0 (w2.heap[w.heap.size + 1 + 1]? = some (.cells #[.int .i64 v, .int .i64 0, .bool true, .bool false, .int .i64 0] 50 (0, 0))) := ⟨blk_below (modillionref07_First.alloc3 w _ _ _).2.2 hb⟩
 have B3 : Aside0 (w2.heap[w.heap.size]? = some (.cells #[.string tag, .int .i64 source, .int .i64 steps] 26 (0, 0))) := ⟨blk_below (modillionref07_First.alloc3 w _ _ _).1 hb⟩
 have HB2 : Aside0 (Below w.heap.size w w2) := ⟨by
  refine Below.trans (below_alloc (below_alloc (below_alloc (Below.refl _ _) _) _) _) (hb.mono ?_)
  simp; omega⟩
 obtain ⟨j0, j1, _⟩ := c3z w2 B3.out
 obtain ⟨s0, s1, s2, s3, s4, f0, f1, f2, f3, f4⟩ := q5z w2 B4.out
 obtain ⟨x0, x1, x2, x3, x4, g0, g1, g2, g3, g4⟩ := q5z w2 B5.out
 clear hb HK
 go_wp2
 refine bodyPost_ret (results_cell_row rfl _ _ (w.heap.size + 1) 50 #[.int .i64 v, .int .i64 v, .bool true, .bool false, .int .i64 0] (0, 0) _ rfl ?hg Tryz.underlying50 rfl (by kernel_rfl)) rfl ?_
 case hg => exact (blk_put (blk_put (blk_put (blk_put (blk_put (blk_far B4.out hn _) 0 _ rfl) 1 _ rfl) 2 _ rfl) 3 _ rfl) 4 _ rfl)
 exact ⟨rfl, (below_set (below_set (below_set (below_set (below_set (below_set HB2.out (by omega)) (Nat.le_succ _)) (Nat.le_succ _)) (Nat.le_succ _)) (Nat.le_succ _)) (Nat.le_succ _))⟩
set_option maxHeartbeats 8000000 in
set_option maxRecDepth 100000 in
theorem modillionref07_First.w_sssp_at (tag : ByteArray) (source steps v : Int) (w : World) (HK : ∀ W, Calls Tryz.prog 37 #[.string tag] W fun e w' => e = .returned (.bool true) ∧ Below W.heap.size W w') (ht : tag.toList = [115, 115, 115, 112]) (hs : v = source) :
  Calls Tryz.prog 38 #[.agg #[.string tag, .int .i64 source, .int .i64 steps], .int .i64 v] w fun e w' => e = .returned (.agg #[.int .i64 v, .int .i64 0, .bool true, .bool false, .int .i64 0]) ∧ Below w.heap.size w w' := by
 have hu1 := Tryz.underlying50
 have hu2 := Tryz.underlying26
 have z : (v != source) = false := bne_eq_false_iff_eq.mpr hs
 clear hs
 have t_max : (tag.toList == ([109, 97, 120] : List UInt8)) = false := by rw [ht]; rfl
 have t_label : (tag.toList == ([108, 97, 98, 101, 108] : List UInt8)) = false := by rw [ht]; rfl
 have t_sssp : (tag.toList == ([115, 115, 115, 112] : List UInt8)) = true := by rw [ht]; rfl
 have t_bfs : (tag.toList == ([98, 102, 115] : List UInt8)) = false := by rw [ht]; rfl
 have t_rank : (tag.toList == ([114, 97, 110, 107] : List UInt8)) = false := by rw [ht]; rfl
 have t_walks : (tag.toList == ([119, 97, 108, 107, 115] : List UInt8)) = false := by rw [ht]; rfl
 clear ht
 have hn : w.heap.size + 1 ≠ w.heap.size + 1 + 1 := by omega
 have hn' : w.heap.size + 1 + 1 ≠ w.heap.size + 1 := by omega
 go_enter Tryz.func38, Tryz.ntmps38
 go_wp2_with (fail)
 refine (HK _).mono ?_
 rintro e w2 ⟨rfl, hb⟩
 have B4 : Aside0 (w2.heap[w.heap.size + 1]? = some (.cells #[.int .i64 0, .int .i64 0, .bool false, .bool false, .int .i64 0] 50 (0, 0))) := ⟨blk_below (modillionref07_First.alloc3 w _ _ _).2.1 hb⟩
 have B5 : Aside0 (w2.heap[w.heap.size + 1 + 1]? = some (.cells #[.int .i64 v, .int .i64 0, .bool true, .bool false, .int .i64 0] 50 (0, 0))) := ⟨blk_below (modillionref07_First.alloc3 w _ _ _).2.2 hb⟩
 have B3 : Aside0 (w2.heap[w.heap.size]? = some (.cells #[.string tag, .int .i64 source, .int .i64 steps] 26 (0, 0))) := ⟨blk_below (modillionref07_First.alloc3 w _ _ _).1 hb⟩
 have HB2 : Aside0 (Below w.heap.size w w2) := ⟨by
  refine Below.trans (below_alloc (below_alloc (below_alloc (Below.refl _ _) _) _) _) (hb.mono ?_)
  simp; omega⟩
 obtain ⟨j0, j1, _⟩ := c3z w2 B3.out
 obtain ⟨s0, s1, s2, s3, s4, f0, f1, f2, f3, f4⟩ := q5z w2 B4.out
 obtain ⟨x0, x1, x2, x3, x4, g0, g1, g2, g3, g4⟩ := q5z w2 B5.out
 clear hb HK
 go_wp2
 refine bodyPost_ret (results_cell_row rfl _ _ (w.heap.size + 1) 50 #[.int .i64 v, .int .i64 0, .bool true, .bool false, .int .i64 0] (0, 0) _ rfl ?hg Tryz.underlying50 rfl (by kernel_rfl)) rfl ?_
 case hg => exact (blk_put (blk_put (blk_put (blk_put (blk_put B4.out 0 _ rfl) 1 _ rfl) 2 _ rfl) 3 _ rfl) 4 _ rfl)
 exact ⟨rfl, (below_set (below_set (below_set (below_set (below_set HB2.out (Nat.le_succ _)) (Nat.le_succ _)) (Nat.le_succ _)) (Nat.le_succ _)) (Nat.le_succ _))⟩
set_option maxHeartbeats 8000000 in
set_option maxRecDepth 100000 in
theorem modillionref07_First.w_sssp (tag : ByteArray) (source steps v : Int) (w : World) (HK : ∀ W, Calls Tryz.prog 37 #[.string tag] W fun e w' => e = .returned (.bool true) ∧ Below W.heap.size W w') (ht : tag.toList = [115, 115, 115, 112]) (hs : ¬ v = source) :
  Calls Tryz.prog 38 #[.agg #[.string tag, .int .i64 source, .int .i64 steps], .int .i64 v] w fun e w' => e = .returned (.agg #[.int .i64 v, .int .i64 (-1), .bool true, .bool false, .int .i64 0]) ∧ Below w.heap.size w w' := by
 have hu1 := Tryz.underlying50
 have hu2 := Tryz.underlying26
 have z : (v != source) = true := bne_iff_ne.mpr hs
 clear hs
 have t_max : (tag.toList == ([109, 97, 120] : List UInt8)) = false := by rw [ht]; rfl
 have t_label : (tag.toList == ([108, 97, 98, 101, 108] : List UInt8)) = false := by rw [ht]; rfl
 have t_sssp : (tag.toList == ([115, 115, 115, 112] : List UInt8)) = true := by rw [ht]; rfl
 have t_bfs : (tag.toList == ([98, 102, 115] : List UInt8)) = false := by rw [ht]; rfl
 have t_rank : (tag.toList == ([114, 97, 110, 107] : List UInt8)) = false := by rw [ht]; rfl
 have t_walks : (tag.toList == ([119, 97, 108, 107, 115] : List UInt8)) = false := by rw [ht]; rfl
 clear ht
 have hn : w.heap.size + 1 ≠ w.heap.size + 1 + 1 := by omega
 have hn' : w.heap.size + 1 + 1 ≠ w.heap.size + 1 := by omega
 go_enter Tryz.func38, Tryz.ntmps38
 go_wp2_with (fail)
 refine (HK _).mono ?_
 rintro e w2 ⟨rfl, hb⟩
 have B4 : Aside0 (w2.heap[w.heap.size + 1]? = some (.cells #[.int .i64 0, .int .i64 0, .bool false, .bool false, .int .i64 0] 50 (0, 0))) := ⟨blk_below (modillionref07_First.alloc3 w _ _ _).2.1 hb⟩
 have B5 : Aside0 (w2.heap[w.heap.size + 1 + 1]? = some (.cells #[.int .i64 v, .int .i64 0, .bool true, .bool false, .int .i64 0] 50 (0, 0))) := ⟨blk_below (modillionref07_First.alloc3 w _ _ _).2.2 hb⟩
 have B3 : Aside0 (w2.heap[w.heap.size]? = some (.cells #[.string tag, .int .i64 source, .int .i64 steps] 26 (0, 0))) := ⟨blk_below (modillionref07_First.alloc3 w _ _ _).1 hb⟩
 have HB2 : Aside0 (Below w.heap.size w w2) := ⟨by
  refine Below.trans (below_alloc (below_alloc (below_alloc (Below.refl _ _) _) _) _) (hb.mono ?_)
  simp; omega⟩
 obtain ⟨j0, j1, _⟩ := c3z w2 B3.out
 obtain ⟨s0, s1, s2, s3, s4, f0, f1, f2, f3, f4⟩ := q5z w2 B4.out
 obtain ⟨x0, x1, x2, x3, x4, g0, g1, g2, g3, g4⟩ := q5z w2 B5.out
 clear hb HK
 go_wp2
 refine bodyPost_ret (results_cell_row rfl _ _ (w.heap.size + 1) 50 #[.int .i64 v, .int .i64 (-1), .bool true, .bool false, .int .i64 0] (0, 0) _ rfl ?hg Tryz.underlying50 rfl (by kernel_rfl)) rfl ?_
 case hg => exact (blk_put (blk_put (blk_put (blk_put (blk_put (blk_far B4.out hn _) 0 _ rfl) 1 _ rfl) 2 _ rfl) 3 _ rfl) 4 _ rfl)
 exact ⟨rfl, (below_set (below_set (below_set (below_set (below_set (below_set HB2.out (by omega)) (Nat.le_succ _)) (Nat.le_succ _)) (Nat.le_succ _)) (Nat.le_succ _)) (Nat.le_succ _))⟩
set_option maxHeartbeats 8000000 in
set_option maxRecDepth 100000 in
theorem modillionref07_First.w_bfs_at (tag : ByteArray) (source steps v : Int) (w : World) (HK : ∀ W, Calls Tryz.prog 37 #[.string tag] W fun e w' => e = .returned (.bool true) ∧ Below W.heap.size W w') (ht : tag.toList = [98, 102, 115]) (hs : v = source) :
  Calls Tryz.prog 38 #[.agg #[.string tag, .int .i64 source, .int .i64 steps], .int .i64 v] w fun e w' => e = .returned (.agg #[.int .i64 v, .int .i64 0, .bool true, .bool false, .int .i64 0]) ∧ Below w.heap.size w w' := by
 have hu1 := Tryz.underlying50
 have hu2 := Tryz.underlying26
 have z : (v != source) = false := bne_eq_false_iff_eq.mpr hs
 clear hs
 have t_max : (tag.toList == ([109, 97, 120] : List UInt8)) = false := by rw [ht]; rfl
 have t_label : (tag.toList == ([108, 97, 98, 101, 108] : List UInt8)) = false := by rw [ht]; rfl
 have t_sssp : (tag.toList == ([115, 115, 115, 112] : List UInt8)) = false := by rw [ht]; rfl
 have t_bfs : (tag.toList == ([98, 102, 115] : List UInt8)) = true := by rw [ht]; rfl
 have t_rank : (tag.toList == ([114, 97, 110, 107] : List UInt8)) = false := by rw [ht]; rfl
 have t_walks : (tag.toList == ([119, 97, 108, 107, 115] : List UInt8)) = false := by rw [ht]; rfl
 clear ht
 have hn : w.heap.size + 1 ≠ w.heap.size + 1 + 1 := by omega
 have hn' : w.heap.size + 1 + 1 ≠ w.heap.size + 1 := by omega
 go_enter Tryz.func38, Tryz.ntmps38
 go_wp2_with (fail)
 refine (HK _).mono ?_
 rintro e w2 ⟨rfl, hb⟩
 have B4 : Aside0 (w2.heap[w.heap.size + 1]? = some (.cells #[.int .i64 0, .int .i64 0, .bool false, .bool false, .int .i64 0] 50 (0, 0))) := ⟨blk_below (modillionref07_First.alloc3 w _ _ _).2.1 hb⟩
 have B5 : Aside0 (w2.heap[w.heap.size + 1 + 1]? = some (.cells #[.int .i64 v, .int .i64 0, .bool true, .bool false, .int .i64 0] 50 (0, 0))) := ⟨blk_below (modillionref07_First.alloc3 w _ _ _).2.2 hb⟩
 have B3 : Aside0 (w2.heap[w.heap.size]? = some (.cells #[.string tag, .int .i64 source, .int .i64 steps] 26 (0, 0))) := ⟨blk_below (modillionref07_First.alloc3 w _ _ _).1 hb⟩
 have HB2 : Aside0 (Below w.heap.size w w2) := ⟨by
  refine Below.trans (below_alloc (below_alloc (below_alloc (Below.refl _ _) _) _) _) (hb.mono ?_)
  simp; omega⟩
 obtain ⟨j0, j1, _⟩ := c3z w2 B3.out
 obtain ⟨s0, s1, s2, s3, s4, f0, f1, f2, f3, f4⟩ := q5z w2 B4.out
 obtain ⟨x0, x1, x2, x3, x4, g0, g1, g2, g3, g4⟩ := q5z w2 B5.out
 clear hb HK
 go_wp2
 refine bodyPost_ret (results_cell_row rfl _ _ (w.heap.size + 1) 50 #[.int .i64 v, .int .i64 0, .bool true, .bool false, .int .i64 0] (0, 0) _ rfl ?hg Tryz.underlying50 rfl (by kernel_rfl)) rfl ?_
 case hg => exact (blk_put (blk_put (blk_put (blk_put (blk_put B4.out 0 _ rfl) 1 _ rfl) 2 _ rfl) 3 _ rfl) 4 _ rfl)
 exact ⟨rfl, (below_set (below_set (below_set (below_set (below_set HB2.out (Nat.le_succ _)) (Nat.le_succ _)) (Nat.le_succ _)) (Nat.le_succ _)) (Nat.le_succ _))⟩
set_option maxHeartbeats 8000000 in
set_option maxRecDepth 100000 in
theorem modillionref07_First.w_bfs (tag : ByteArray) (source steps v : Int) (w : World) (HK : ∀ W, Calls Tryz.prog 37 #[.string tag] W fun e w' => e = .returned (.bool true) ∧ Below W.heap.size W w') (ht : tag.toList = [98, 102, 115]) (hs : ¬ v = source) :
  Calls Tryz.prog 38 #[.agg #[.string tag, .int .i64 source, .int .i64 steps], .int .i64 v] w fun e w' => e = .returned (.agg #[.int .i64 v, .int .i64 (-1), .bool true, .bool false, .int .i64 0]) ∧ Below w.heap.size w w' := by
 have hu1 := Tryz.underlying50
 have hu2 := Tryz.underlying26
 have z : (v != source) = true := bne_iff_ne.mpr hs
 clear hs
 have t_max : (tag.toList == ([109, 97, 120] : List UInt8)) = false := by rw [ht]; rfl
 have t_label : (tag.toList == ([108, 97, 98, 101, 108] : List UInt8)) = false := by rw [ht]; rfl
 have t_sssp : (tag.toList == ([115, 115, 115, 112] : List UInt8)) = false := by rw [ht]; rfl
 have t_bfs : (tag.toList == ([98, 102, 115] : List UInt8)) = true := by rw [ht]; rfl
 have t_rank : (tag.toList == ([114, 97, 110, 107] : List UInt8)) = false := by rw [ht]; rfl
 have t_walks : (tag.toList == ([119, 97, 108, 107, 115] : List UInt8)) = false := by rw [ht]; rfl
 clear ht
 have hn : w.heap.size + 1 ≠ w.heap.size + 1 + 1 := by omega
 have hn' : w.heap.size + 1 + 1 ≠ w.heap.size + 1 := by omega
 go_enter Tryz.func38, Tryz.ntmps38
 go_wp2_with (fail)
 refine (HK _).mono ?_
 rintro e w2 ⟨rfl, hb⟩
 have B4 : Aside0 (w2.heap[w.heap.size + 1]? = some (.cells #[.int .i64 0, .int .i64 0, .bool false, .bool false, .int .i64 0] 50 (0, 0))) := ⟨blk_below (modillionref07_First.alloc3 w _ _ _).2.1 hb⟩
 have B5 : Aside0 (w2.heap[w.heap.size + 1 + 1]? = some (.cells #[.int .i64 v, .int .i64 0, .bool true, .bool false, .int .i64 0] 50 (0, 0))) := ⟨blk_below (modillionref07_First.alloc3 w _ _ _).2.2 hb⟩
 have B3 : Aside0 (w2.heap[w.heap.size]? = some (.cells #[.string tag, .int .i64 source, .int .i64 steps] 26 (0, 0))) := ⟨blk_below (modillionref07_First.alloc3 w _ _ _).1 hb⟩
 have HB2 : Aside0 (Below w.heap.size w w2) := ⟨by
  refine Below.trans (below_alloc (below_alloc (below_alloc (Below.refl _ _) _) _) _) (hb.mono ?_)
  simp; omega⟩
 obtain ⟨j0, j1, _⟩ := c3z w2 B3.out
 obtain ⟨s0, s1, s2, s3, s4, f0, f1, f2, f3, f4⟩ := q5z w2 B4.out
 obtain ⟨x0, x1, x2, x3, x4, g0, g1, g2, g3, g4⟩ := q5z w2 B5.out
 clear hb HK
 go_wp2
 refine bodyPost_ret (results_cell_row rfl _ _ (w.heap.size + 1) 50 #[.int .i64 v, .int .i64 (-1), .bool true, .bool false, .int .i64 0] (0, 0) _ rfl ?hg Tryz.underlying50 rfl (by kernel_rfl)) rfl ?_
 case hg => exact (blk_put (blk_put (blk_put (blk_put (blk_put (blk_far B4.out hn _) 0 _ rfl) 1 _ rfl) 2 _ rfl) 3 _ rfl) 4 _ rfl)
 exact ⟨rfl, (below_set (below_set (below_set (below_set (below_set (below_set HB2.out (by omega)) (Nat.le_succ _)) (Nat.le_succ _)) (Nat.le_succ _)) (Nat.le_succ _)) (Nat.le_succ _))⟩
set_option maxHeartbeats 8000000 in
set_option maxRecDepth 100000 in
theorem modillionref07_First.w_rank (tag : ByteArray) (source steps v : Int) (w : World) (HK : ∀ W, Calls Tryz.prog 37 #[.string tag] W fun e w' => e = .returned (.bool true) ∧ Below W.heap.size W w') (ht : tag.toList = [114, 97, 110, 107]) :
  Calls Tryz.prog 38 #[.agg #[.string tag, .int .i64 source, .int .i64 steps], .int .i64 v] w fun e w' => e = .returned (.agg #[.int .i64 v, .int .i64 65536, .bool true, .bool false, .int .i64 0]) ∧ Below w.heap.size w w' := by
 have hu1 := Tryz.underlying50
 have hu2 := Tryz.underlying26
 have t_max : (tag.toList == ([109, 97, 120] : List UInt8)) = false := by rw [ht]; rfl
 have t_label : (tag.toList == ([108, 97, 98, 101, 108] : List UInt8)) = false := by rw [ht]; rfl
 have t_sssp : (tag.toList == ([115, 115, 115, 112] : List UInt8)) = false := by rw [ht]; rfl
 have t_bfs : (tag.toList == ([98, 102, 115] : List UInt8)) = false := by rw [ht]; rfl
 have t_rank : (tag.toList == ([114, 97, 110, 107] : List UInt8)) = true := by rw [ht]; rfl
 have t_walks : (tag.toList == ([119, 97, 108, 107, 115] : List UInt8)) = false := by rw [ht]; rfl
 clear ht
 have hn : w.heap.size + 1 ≠ w.heap.size + 1 + 1 := by omega
 have hn' : w.heap.size + 1 + 1 ≠ w.heap.size + 1 := by omega
 go_enter Tryz.func38, Tryz.ntmps38
 go_wp2_with (fail)
 refine (HK _).mono ?_
 rintro e w2 ⟨rfl, hb⟩
 have B4 : Aside0 (w2.heap[w.heap.size + 1]? = some (.cells #[.int .i64 0, .int .i64 0, .bool false, .bool false, .int .i64 0] 50 (0, 0))) := ⟨blk_below (modillionref07_First.alloc3 w _ _ _).2.1 hb⟩
 have B5 : Aside0 (w2.heap[w.heap.size + 1 + 1]? = some (.cells #[.int .i64 v, .int .i64 0, .bool true, .bool false, .int .i64 0] 50 (0, 0))) := ⟨blk_below (modillionref07_First.alloc3 w _ _ _).2.2 hb⟩
 have B3 : Aside0 (w2.heap[w.heap.size]? = some (.cells #[.string tag, .int .i64 source, .int .i64 steps] 26 (0, 0))) := ⟨blk_below (modillionref07_First.alloc3 w _ _ _).1 hb⟩
 have HB2 : Aside0 (Below w.heap.size w w2) := ⟨by
  refine Below.trans (below_alloc (below_alloc (below_alloc (Below.refl _ _) _) _) _) (hb.mono ?_)
  simp; omega⟩
 obtain ⟨j0, j1, _⟩ := c3z w2 B3.out
 obtain ⟨s0, s1, s2, s3, s4, f0, f1, f2, f3, f4⟩ := q5z w2 B4.out
 obtain ⟨x0, x1, x2, x3, x4, g0, g1, g2, g3, g4⟩ := q5z w2 B5.out
 clear hb HK
 go_wp2
 refine bodyPost_ret (results_cell_row rfl _ _ (w.heap.size + 1) 50 #[.int .i64 v, .int .i64 65536, .bool true, .bool false, .int .i64 0] (0, 0) _ rfl ?hg Tryz.underlying50 rfl (by kernel_rfl)) rfl ?_
 case hg => exact (blk_put (blk_put (blk_put (blk_put (blk_put (blk_far B4.out hn _) 0 _ rfl) 1 _ rfl) 2 _ rfl) 3 _ rfl) 4 _ rfl)
 exact ⟨rfl, (below_set (below_set (below_set (below_set (below_set (below_set HB2.out (by omega)) (Nat.le_succ _)) (Nat.le_succ _)) (Nat.le_succ _)) (Nat.le_succ _)) (Nat.le_succ _))⟩
set_option maxHeartbeats 8000000 in
set_option maxRecDepth 100000 in
theorem modillionref07_First.w_walks (tag : ByteArray) (source steps v : Int) (w : World) (HK : ∀ W, Calls Tryz.prog 37 #[.string tag] W fun e w' => e = .returned (.bool true) ∧ Below W.heap.size W w') (ht : tag.toList = [119, 97, 108, 107, 115]) :
  Calls Tryz.prog 38 #[.agg #[.string tag, .int .i64 source, .int .i64 steps], .int .i64 v] w fun e w' => e = .returned (.agg #[.int .i64 v, .int .i64 1, .bool true, .bool false, .int .i64 0]) ∧ Below w.heap.size w w' := by
 have hu1 := Tryz.underlying50
 have hu2 := Tryz.underlying26
 have t_max : (tag.toList == ([109, 97, 120] : List UInt8)) = false := by rw [ht]; rfl
 have t_label : (tag.toList == ([108, 97, 98, 101, 108] : List UInt8)) = false := by rw [ht]; rfl
 have t_sssp : (tag.toList == ([115, 115, 115, 112] : List UInt8)) = false := by rw [ht]; rfl
 have t_bfs : (tag.toList == ([98, 102, 115] : List UInt8)) = false := by rw [ht]; rfl
 have t_rank : (tag.toList == ([114, 97, 110, 107] : List UInt8)) = false := by rw [ht]; rfl
 have t_walks : (tag.toList == ([119, 97, 108, 107, 115] : List UInt8)) = true := by rw [ht]; rfl
 clear ht
 have hn : w.heap.size + 1 ≠ w.heap.size + 1 + 1 := by omega
 have hn' : w.heap.size + 1 + 1 ≠ w.heap.size + 1 := by omega
 go_enter Tryz.func38, Tryz.ntmps38
 go_wp2_with (fail)
 refine (HK _).mono ?_
 rintro e w2 ⟨rfl, hb⟩
 have B4 : Aside0 (w2.heap[w.heap.size + 1]? = some (.cells #[.int .i64 0, .int .i64 0, .bool false, .bool false, .int .i64 0] 50 (0, 0))) := ⟨blk_below (modillionref07_First.alloc3 w _ _ _).2.1 hb⟩
 have B5 : Aside0 (w2.heap[w.heap.size + 1 + 1]? = some (.cells #[.int .i64 v, .int .i64 0, .bool true, .bool false, .int .i64 0] 50 (0, 0))) := ⟨blk_below (modillionref07_First.alloc3 w _ _ _).2.2 hb⟩
 have B3 : Aside0 (w2.heap[w.heap.size]? = some (.cells #[.string tag, .int .i64 source, .int .i64 steps] 26 (0, 0))) := ⟨blk_below (modillionref07_First.alloc3 w _ _ _).1 hb⟩
 have HB2 : Aside0 (Below w.heap.size w w2) := ⟨by
  refine Below.trans (below_alloc (below_alloc (below_alloc (Below.refl _ _) _) _) _) (hb.mono ?_)
  simp; omega⟩
 obtain ⟨j0, j1, _⟩ := c3z w2 B3.out
 obtain ⟨s0, s1, s2, s3, s4, f0, f1, f2, f3, f4⟩ := q5z w2 B4.out
 obtain ⟨x0, x1, x2, x3, x4, g0, g1, g2, g3, g4⟩ := q5z w2 B5.out
 clear hb HK
 go_wp2
 refine bodyPost_ret (results_cell_row rfl _ _ (w.heap.size + 1) 50 #[.int .i64 v, .int .i64 1, .bool true, .bool false, .int .i64 0] (0, 0) _ rfl ?hg Tryz.underlying50 rfl (by kernel_rfl)) rfl ?_
 case hg => exact (blk_put (blk_put (blk_put (blk_put (blk_put (blk_far B4.out hn _) 0 _ rfl) 1 _ rfl) 2 _ rfl) 3 _ rfl) 4 _ rfl)
 exact ⟨rfl, (below_set (below_set (below_set (below_set (below_set (below_set HB2.out (by omega)) (Nat.le_succ _)) (Nat.le_succ _)) (Nat.le_succ _)) (Nat.le_succ _)) (Nat.le_succ _))⟩
set_option maxHeartbeats 8000000 in
set_option maxRecDepth 100000 in
theorem modillionref07_First.w_else (tag : ByteArray) (source steps v : Int) (w : World) (HK : ∀ W, Calls Tryz.prog 37 #[.string tag] W fun e w' => e = .returned (.bool true) ∧ Below W.heap.size W w') (n0 : ¬ tag.toList = [109, 97, 120]) (n1 : ¬ tag.toList = [108, 97, 98, 101, 108]) (n2 : ¬ tag.toList = [115, 115, 115, 112]) (n3 : ¬ tag.toList = [98, 102, 115]) (n4 : ¬ tag.toList = [114, 97, 110, 107]) (n5 : ¬ tag.toList = [119, 97, 108, 107, 115]) :
  Calls Tryz.prog 38 #[.agg #[.string tag, .int .i64 source, .int .i64 steps], .int .i64 v] w fun e w' => e = .returned (.agg #[.int .i64 v, .int .i64 0, .bool true, .bool false, .int .i64 0]) ∧ Below w.heap.size w w' := by
 have hu1 := Tryz.underlying50
 have hu2 := Tryz.underlying26
 have t_max : (tag.toList == ([109, 97, 120] : List UInt8)) = false := beq_eq_false_iff_ne.mpr n0
 have t_label : (tag.toList == ([108, 97, 98, 101, 108] : List UInt8)) = false := beq_eq_false_iff_ne.mpr n1
 have t_sssp : (tag.toList == ([115, 115, 115, 112] : List UInt8)) = false := beq_eq_false_iff_ne.mpr n2
 have t_bfs : (tag.toList == ([98, 102, 115] : List UInt8)) = false := beq_eq_false_iff_ne.mpr n3
 have t_rank : (tag.toList == ([114, 97, 110, 107] : List UInt8)) = false := beq_eq_false_iff_ne.mpr n4
 have t_walks : (tag.toList == ([119, 97, 108, 107, 115] : List UInt8)) = false := beq_eq_false_iff_ne.mpr n5
 clear n0 n1 n2 n3 n4 n5
 have hn : w.heap.size + 1 ≠ w.heap.size + 1 + 1 := by omega
 have hn' : w.heap.size + 1 + 1 ≠ w.heap.size + 1 := by omega
 go_enter Tryz.func38, Tryz.ntmps38
 go_wp2_with (fail)
 refine (HK _).mono ?_
 rintro e w2 ⟨rfl, hb⟩
 have B4 : Aside0 (w2.heap[w.heap.size + 1]? = some (.cells #[.int .i64 0, .int .i64 0, .bool false, .bool false, .int .i64 0] 50 (0, 0))) := ⟨blk_below (modillionref07_First.alloc3 w _ _ _).2.1 hb⟩
 have B5 : Aside0 (w2.heap[w.heap.size + 1 + 1]? = some (.cells #[.int .i64 v, .int .i64 0, .bool true, .bool false, .int .i64 0] 50 (0, 0))) := ⟨blk_below (modillionref07_First.alloc3 w _ _ _).2.2 hb⟩
 have B3 : Aside0 (w2.heap[w.heap.size]? = some (.cells #[.string tag, .int .i64 source, .int .i64 steps] 26 (0, 0))) := ⟨blk_below (modillionref07_First.alloc3 w _ _ _).1 hb⟩
 have HB2 : Aside0 (Below w.heap.size w w2) := ⟨by
  refine Below.trans (below_alloc (below_alloc (below_alloc (Below.refl _ _) _) _) _) (hb.mono ?_)
  simp; omega⟩
 obtain ⟨j0, j1, _⟩ := c3z w2 B3.out
 obtain ⟨s0, s1, s2, s3, s4, f0, f1, f2, f3, f4⟩ := q5z w2 B4.out
 obtain ⟨x0, x1, x2, x3, x4, g0, g1, g2, g3, g4⟩ := q5z w2 B5.out
 clear hb HK
 go_wp2
 refine bodyPost_ret (results_cell_row rfl _ _ (w.heap.size + 1) 50 #[.int .i64 v, .int .i64 0, .bool true, .bool false, .int .i64 0] (0, 0) _ rfl ?hg Tryz.underlying50 rfl (by kernel_rfl)) rfl ?_
 case hg => exact (blk_put (blk_put (blk_put (blk_put (blk_put B4.out 0 _ rfl) 1 _ rfl) 2 _ rfl) 3 _ rfl) 4 _ rfl)
 exact ⟨rfl, (below_set (below_set (below_set (below_set (below_set HB2.out (Nat.le_succ _)) (Nat.le_succ _)) (Nat.le_succ _)) (Nat.le_succ _)) (Nat.le_succ _))⟩
theorem modillionref07_First.calls (a0_0 : ByteArray) (a0_1 : Int) (a0_2 : Int) (a1 : Int) (r1 : Int) (r2 : Int) (r3 : Bool) (r4 : Bool) (r5 : Int) (w : World) (h : modillionref07_First.f a0_0 a0_1 a0_2 a1 = some (r1, r2, r3, r4, r5)) :
  Calls Tryz.prog 38 #[.agg #[.string a0_0, .int .i64 a0_1, .int .i64 a0_2], .int .i64 a1] w fun e w' => e = .returned (.agg #[.int .i64 r1, .int .i64 r2, .bool r3, .bool r4, .int .i64 r5]) ∧ Below w.heap.size w w' := by
 unfold modillionref07_First.f at h
 by_cases hr : 0 ≤ a1 ∧ a1 ≤ 1048576
 ·rw [if_pos hr] at h
  obtain ⟨b, hk, h⟩ := Option.bind_eq_some_iff.mp h
  have HK : ∀ W, Calls Tryz.prog 37 #[.string a0_0] W fun e w' => e = .returned (.bool b) ∧ Below W.heap.size W w' := fun W => (modillionref07_Known.calls a0_0 b W hk).mono fun e w' hq => ⟨hq.1, by obtain ⟨nd, h2⟩ := hq.2; rw [h2]; exact pw_below_drewN (Below.refl _ _) nd⟩
  cases b with
  | false =>
   rw [if_neg (by decide)] at h
   simp only [Option.some.injEq, Prod.mk.injEq] at h
   obtain ⟨rfl, rfl, rfl, rfl, rfl⟩ := h
   exact modillionref07_First.w_unknown a0_0 a0_1 a0_2 a1 w HK
  | true =>
   rw [if_pos rfl] at h
   simp only [Option.some.injEq, Prod.mk.injEq] at h
   obtain ⟨rfl, rfl, rfl, rfl, rfl⟩ := h
   unfold firstV
   by_cases n0 : a0_0.toList = [109, 97, 120]
   ·rw [if_pos n0]; exact modillionref07_First.w_max a0_0 a0_1 a0_2 a1 w HK n0 hr
   rw [if_neg n0]
   by_cases n1 : a0_0.toList = [108, 97, 98, 101, 108]
   ·rw [if_pos n1]; exact modillionref07_First.w_label a0_0 a0_1 a0_2 a1 w HK n1
   rw [if_neg n1]
   by_cases n2 : a0_0.toList = [115, 115, 115, 112]
   ·rw [if_pos (by rw [n2]; rfl)]
    by_cases hs : a1 = a0_1
    ·rw [if_pos hs]; exact modillionref07_First.w_sssp_at a0_0 a0_1 a0_2 a1 w HK n2 hs
    ·rw [if_neg hs]; exact modillionref07_First.w_sssp a0_0 a0_1 a0_2 a1 w HK n2 hs
   by_cases n3 : a0_0.toList = [98, 102, 115]
   ·rw [if_pos (by rw [n3]; rfl)]
    by_cases hs : a1 = a0_1
    ·rw [if_pos hs]; exact modillionref07_First.w_bfs_at a0_0 a0_1 a0_2 a1 w HK n3 hs
    ·rw [if_neg hs]; exact modillionref07_First.w_bfs a0_0 a0_1 a0_2 a1 w HK n3 hs
   rw [if_neg (by simp [beq_eq_false_iff_ne.mpr n2, beq_eq_false_iff_ne.mpr n3])]
   by_cases n4 : a0_0.toList = [114, 97, 110, 107]
   ·rw [if_pos n4]; exact modillionref07_First.w_rank a0_0 a0_1 a0_2 a1 w HK n4
   rw [if_neg n4]
   by_cases n5 : a0_0.toList = [119, 97, 108, 107, 115]
   ·rw [if_pos n5]; exact modillionref07_First.w_walks a0_0 a0_1 a0_2 a1 w HK n5
   rw [if_neg n5]
   exact modillionref07_First.w_else a0_0 a0_1 a0_2 a1 w HK n0 n1 n2 n3 n4 n5
 ·rw [if_neg hr] at h
  cases h
end

/-! ### modillionref09_Start: function 20 -/
def modillionref09_Start.l0 : Nat → List (S50) → Int → Int → List (S48) → ByteArray → Int → Int → Option ((List (S50)))
 | 0, _, _, _, _, _, _, _ => none
 | k + 1, x5, x6, x293000, x293001, x294000, x294001, x294002 => if x6 < x293000 then ((modillionref07_First.f x294000 x294001 x294002 x6).bind fun bt297 => (if x5.length < 4398046511104 then (modillionref09_Start.l0 k (x5 ++ [(⟨bt297.1, bt297.2.1, bt297.2.2.1, bt297.2.2.2.1, bt297.2.2.2.2⟩ : S50)]) (wrap64 (x6 + 1)) x293000 x293001 x294000 x294001 x294002) else (none))) else (some x5)
def modillionref09_Start.f (k : Nat) (a0_0 : Int) (l0_1 : List (S48)) (a1_0 : ByteArray) (a1_1 : Int) (a1_2 : Int) : Option ((List (S50))) := modillionref09_Start.l0 k (([] : List (S50))) 0 a0_0 l0_1 a1_0 a1_1 a1_2
theorem modillionref09_Start.mono_l : ∀ k, (∀ y0 y1 y2 y3 y4 y5 y6, LeO (modillionref09_Start.l0 k y0 y1 y2 y3 y4 y5 y6) (modillionref09_Start.l0 (k + 1) y0 y1 y2 y3 y4 y5 y6))
 | 0 => fun _ _ _ _ _ _ _ r h => by simp [modillionref09_Start.l0] at h
 | k + 1 => by
  have ih0 := modillionref09_Start.mono_l k
  ·intro y0 y1 y2 y3 y4 y5 y6
   unfold modillionref09_Start.l0
   repeat' first
   | (with_reducible exact ih0 _ _ _ _ _ _ _)
   | (with_reducible exact LeO.refl _)
   | (with_reducible exact LeO.none _)
   | (with_reducible refine LeO.ite ?_ ?_)
   | (with_reducible refine LeO.bind ?_ (fun _ => ?_))
   | exact ih0 _ _ _ _ _ _ _
   | exact LeO.none _
   | refine LeO.ite ?_ ?_
   | refine LeO.bind ?_ (fun _ => ?_)
theorem modillionref09_Start.mono : ∀ a0 a1 a2 a3 a4 k, LeO (modillionref09_Start.f k a0 a1 a2 a3 a4) (modillionref09_Start.f (k + 1) a0 a1 a2 a3 a4) := by
 intro a0 a1 a2 a3 a4 k
 have ih0 := modillionref09_Start.mono_l k
 unfold modillionref09_Start.f
 repeat' first
   | (with_reducible exact ih0 _ _ _ _ _ _ _)
   | (with_reducible exact LeO.refl _)
   | (with_reducible exact LeO.none _)
   | (with_reducible refine LeO.ite ?_ ?_)
   | (with_reducible refine LeO.bind ?_ (fun _ => ?_))
   | exact ih0 _ _ _ _ _ _ _
   | exact LeO.none _
   | refine LeO.ite ?_ ?_
   | refine LeO.bind ?_ (fun _ => ?_)
set_option maxHeartbeats 8000000 in
set_option maxRecDepth 100000 in
theorem modillionref09_Start.calls (k : Nat) (a0_0 : Int) (A0_1 : Option Addr) (c0_1 : Nat) (l0_1 : List (S48)) (a1_0 : ByteArray) (a1_1 : Int) (a1_2 : Int) (r : List (S50)) (w : World) (hr0_1 : Kd.C k48 w A0_1 l0_1.length l0_1) (hc0_1 : l0_1.length ≤ c0_1) (h : modillionref09_Start.f k a0_0 l0_1 a1_0 a1_1 a1_2 = some r) :
  Calls Tryz.prog 20 #[.agg #[.int .i64 a0_0, .slice A0_1 l0_1.length c0_1], .agg #[.string a1_0, .int .i64 a1_1, .int .i64 a1_2]] w fun e w' => ∃ v0_ : Value, e = .returned (v0_) ∧ Kd.R k50 50 w' w.heap.size (fun _ => True) v0_ r ∧ Below w.heap.size w w' := by
 have hu24 := Tryz.underlying24
 have hu26 := Tryz.underlying26
 have HR0_1 := Aside0.mk hr0_1
 have HC0_1 := Aside0.mk hc0_1
 clear hr0_1 hc0_1
 have HB := Aside0.mk (Below.refl w.heap.size w)
 have H : (modillionref09_Start.l0 k (([] : List (S50))) 0 a0_0 l0_1 a1_0 a1_1 a1_2) = some r := h
 clear h
 obtain ⟨y294, hy294⟩ : ∃ y_ : List (S50), y_ = (([] : List (S50))) := ⟨_, rfl⟩
 replace H : (modillionref09_Start.l0 k y294 0 a0_0 l0_1 a1_0 a1_1 a1_2) = some r := by first | (rw [hy294]; with_reducible exact H) | (have H2_ := (Option.bind_some _ _).symm.trans H; rw [hy294]; with_reducible exact H2_) | (have H2_ := (Option.bind_some _ _).symm.trans H; with_reducible exact H2_) | with_reducible exact H | (rw [hy294]; exact H) | exact H
 have Ny294 := Aside0.mk hy294
 clear hy294
 have H' := Aside0.mk H
 clear H
 go_enter Tryz.func20, Tryz.ntmps20
 go_wp2_with (first | ((with_reducible refine gate_dst (N := 2) rfl ?_); refine bE_ #[.int .i64 a0_0, .slice A0_1 l0_1.length c0_1] 24 ?_; intro gb292 hg w3 hbox hb; have BK292 := Aside0.mk hbox; have GW292 := gS hg HB; have GE292 := gS hg HB; replace HB := bS HB hb; clear hb hbox hg) | ((with_reducible refine gate_dst (N := 3) rfl ?_); refine bE_ #[.string a1_0, .int .i64 a1_1, .int .i64 a1_2] 26 ?_; intro gb293 hg w4 hbox hb; have BK293 := Aside0.mk hbox; have GW293 := gS hg HB; have GE293 := gS hg HB; have NB292_293 := nL hg BK292; have NB293_292 := nG hg BK292; replace BK292 := aS BK292 hb; replace HB := bS HB hb; clear hb hbox hg) | ((with_reducible refine gate_dst (N := 7) rfl ?_); refine Kd.R_lit k50 _ 50 ?hg (N := 7) ?hd (xs := ([] : List (S50))) (inner := []) (ok := fun _ => True) (okp := fun _ => True) ?hr ?hp (fun _ hk => hk) trivial (Below.refl _ _) (Nat.le_refl _) (by simp) ?_; (case hd => rfl); (case hg => rfl); (case hr => first | (go_simp; done) | (go_simp; rfl)); (case hp => exact (Reps.none _ _)); intro v295 w5 ho6 hb hg_ hnew_; clear hg_ hnew_; (first | rw [← Ny294.out] at ho6 | (simp only [Int.reduceToNat] at ho6; rw [← Ny294.out] at ho6)); have HO296 := lS ho6 HB; replace BK292 := aS BK292 hb; replace BK293 := aS BK293 hb; replace HB := bS HB hb; clear hb ho6))
 go_loopg [5, 6] k (fun kq v5 v6 w' => ∃ (x5_1 : List (S50)) (x6_1 : Int), v6 = .int .i64 x6_1 ∧ Aside0 (modillionref09_Start.l0 kq x5_1 x6_1 a0_0 l0_1 a1_0 a1_1 a1_2 = some r) ∧ Aside0 (kq ≤ k) ∧ Aside0 (Kd.R k50 50 w' w.heap.size (fun _ => True) v5 x5_1) ∧ Aside0 (w'.heap[gb292]? = some (.cells #[.int .i64 a0_0, (.slice A0_1 l0_1.length c0_1)] 24 (0, 0))) ∧ Aside0 (w'.heap[gb293]? = some (.cells #[.string a1_0, .int .i64 a1_1, .int .i64 a1_2] 26 (0, 0))) ∧ Aside0 (Below w.heap.size w w'))
 case atStart => exact ⟨(y294), (0), (by first | rfl | (simp; done) | (simp [*]; done)), H', ⟨Nat.le_refl _⟩, ⟨kR HO296.out⟩, ⟨kA BK292.out⟩, ⟨kA BK293.out⟩, ⟨kB HB.out⟩⟩
 case round =>
  clear H'
  try clear c2
  try clear p2
  obtain ⟨x5_1, x6_1, rfl, HA, HK1, HO_5, BK292, BK293, HB⟩ := hrel
  cases gk with
  | zero => exact absurd HA.out (by simp [modillionref09_Start.l0])
  | succ k1 =>
   have H := HA.out
   clear HA
   simp only [modillionref09_Start.l0] at H
   by_cases c7 : x6_1 < a0_0
   ·rw [if_pos c7] at H
    have c7b0 := decide_eq_true c7
    clear c7
    replace H := Option.bind_eq_some_iff.mp H
    obtain ⟨⟨t297, t298, t299, t300, t301⟩, A80, H⟩ := H
    replace H : (if x5_1.length < 4398046511104 then (modillionref09_Start.l0 k1 (x5_1 ++ [(⟨t297, t298, t299, t300, t301⟩ : S50)]) (wrap64 (x6_1 + 1)) a0_0 l0_1 a1_0 a1_1 a1_2) else (none)) = some r := H
    have A8 := Aside0.mk A80
    clear A80
    obtain ⟨c9, H⟩ := iteS22 H
    have LMc9 := Aside0.mk c9
    clear c9
    obtain ⟨y302, hy302⟩ : ∃ y_ : List (S50), y_ = (x5_1 ++ [(⟨t297, t298, t299, t300, t301⟩ : S50)]) := ⟨_, rfl⟩
    replace H : (modillionref09_Start.l0 k1 y302 (wrap64 (x6_1 + 1)) a0_0 l0_1 a1_0 a1_1 a1_2) = some r := by first | (rw [hy302]; with_reducible exact H) | (have H2_ := (Option.bind_some _ _).symm.trans H; rw [hy302]; with_reducible exact H2_) | (have H2_ := (Option.bind_some _ _).symm.trans H; with_reducible exact H2_) | with_reducible exact H | (rw [hy302]; exact H) | exact H
    have Ny302 := Aside0.mk hy302
    clear hy302
    have H' := Aside0.mk H
    clear H
    have := NB292_293.out
    have := NB293_292.out
    obtain ⟨_, _, _, _⟩ := q2z wr BK292.out
    obtain ⟨_, _, _, _, _, _⟩ := q3z wr BK293.out
    go_wp2_with (first | ((with_reducible refine gate_callee (f := 38) rfl ?_); refine gL_ (some 17) Tryz.func38 #[.agg #[.string a1_0, .int .i64 a1_1, .int .i64 a1_2], .int .i64 x6_1] ?_; (with_reducible refine (modillionref07_First.calls a1_0 a1_1 a1_2 x6_1 t297 t298 t299 t300 t301 _ A8.out).mono ?_); rintro e w13 ⟨rfl, hb⟩; refine ⟨_, rfl, ?_⟩; replace HO_5 := rS HO_5 hb; replace BK292 := aS BK292 hb; replace BK293 := aS BK293 hb; replace HB := bS HB hb; clear hb) | ((with_reducible refine gate_builtin (b := .append) (xs := #[.tmp 14, .tmp 18]) rfl ?_); at_builtin; refine Kd.R_append k50 (w0 := w) w.heap.size rfl (.tmp 14) (.tmp 18) 27 50 (.agg #[(.int .i64 0), (.int .i64 0), (.bool false), (.bool false), (.int .i64 0)]) 32 rfl Tryz.underlying27 info50 rfl (by decide) (by omega) u5 x5_1 (⟨t297, t298, t299, t300, t301⟩ : S50) [.int .i64 t297, .int .i64 t298, .bool t299, .bool t300, .int .i64 t301] (fun _ => True) (fun _ => False) rfl rfl ?aP (fun _ hk => hk.elim) ?aF ?aO ?aB ?aS ?aL ?_; (case aP => exact k50_mkM _ _ _ (⟨t297, t298, t299, t300, t301⟩ : S50)); (case aB => exact (kB HB.out)); (case aF => exact (fun _ _ => trivial)); (case aO => exact (kR HO_5.out)); (case aS => exact (below_size (kB HB.out))); (case aL => have := LMc9.out; omega); intro v303 w14 ho hb hg hat; rw [← Ny302.out] at ho; have n0_ := Aside0.mk (blk_grown (g := gb292) (o := .cells #[.int .i64 a0_0, .slice A0_1 l0_1.length c0_1] 24 (0, 0)) (kA BK292.out) hg (Kd.R_ne HO_5.out BK292.out (by decide))); have n1_ := Aside0.mk (blk_grown (g := gb293) (o := .cells #[.string a1_0, .int .i64 a1_1, .int .i64 a1_2] 26 (0, 0)) (kA BK293.out) hg (Kd.R_ne HO_5.out BK293.out (by decide))); have n2_ := Aside0.mk (hb); have n3_ := Aside0.mk (ho); clear BK292; clear BK293; clear HB; clear HO_5; have BK292 := n0_; have BK293 := n1_; have HB := n2_; have HO304 := n3_; clear n0_ n1_ n2_ n3_; clear ho hb hg hat))
    go_roundg k1
    case measure => have := HK1.out; omega
    case rel => exact ⟨(y302), (wrap64 (x6_1 + 1)), (by first | rfl | (simp; done) | (simp [*]; done)), H', ⟨by have := HK1.out; omega⟩, ⟨kR HO304.out⟩, ⟨kA BK292.out⟩, ⟨kA BK293.out⟩, ⟨kB HB.out⟩⟩
   ·rw [if_neg c7] at H
    have c7b0 := decide_eq_false c7
    clear c7
    obtain rfl := Option.some.inj H
    have := NB292_293.out
    have := NB293_292.out
    obtain ⟨_, _, _, _⟩ := q2z wr BK292.out
    go_wp2
    go_ret
    exact ⟨_, by first | rfl | (simp [errW_none, errW_some] <;> rfl) | (simp [*, errW_none, errW_some] <;> rfl), by exact kR HO_5.out, by exact kB HB.out⟩

end Go.Proofs.YtpndhkeoljoapaaGreat.P
