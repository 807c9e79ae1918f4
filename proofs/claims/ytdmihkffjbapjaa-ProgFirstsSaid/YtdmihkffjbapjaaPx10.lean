/- Printed by a program of this session (wip/myprint.py) over the print of the kit: what the Go functions of this seat compute, as Lean functions, and that they do; for the functions that take or make function values the contracts are by hand. No condition. -/
import Derived.Test.YtdmihkffjbapjaaPx0
import Derived.Test.YtdmihkffjbapjaaPx7
import Derived.Test.YtdmihkffjbapjaaPx9
namespace Go.Proofs.Ytdmihkffjbapjaa.P
open Go.RowKit Go.Proofs.YtdmihkffjbapjaaW.PrintWords Go.Proofs.YtdmihkffjbapjaaW.PrintLast Go.Proofs.YtdmihkffjbapjaaW.PrintMore
attribute [local go_sem] max2_int min2_int max_two min_two max_three min_three max_four min_four   -- for this text's walks alone
set_option linter.unusedVariables false
set_option linter.unusedSimpArgs false
set_option linter.unnecessarySimpa false

/-! ### modillionref07_First: function 18 (given) -/
def modillionref07_First.f (a0_0 : ByteArray) (a0_1 a0_2 a1 : Int) : Option (Int × Int × Bool × Bool × Int) := if 0 ≤ a1 ∧ a1 ≤ 1048576 then (modillionref07_Known.f a0_0).bind fun b => if b = true then some (a1, firstV a0_0.toList a0_1 a1, true, false, 0) else some (0, 0, false, false, 0) else none
section
open Go.Shelf Go.Proofs.Ytdmihkffjbapjaa.Bridge
theorem modillionref07_First.alloc3 (w : World) (A B C : Obj) : (((w.alloc A).alloc B).alloc C).heap[w.heap.size]? = some A ∧ (((w.alloc A).alloc B).alloc C).heap[w.heap.size + 1]? = some B ∧ (((w.alloc A).alloc B).alloc C).heap[w.heap.size + 1 + 1]? = some C := by
  refine ⟨blk_alloc (blk_alloc (heap_alloc_new w A) B) C, blk_alloc ?_ C, ?_⟩
  · have h := heap_alloc_new (w.alloc A) B
    rwa [show (w.alloc A).heap.size = w.heap.size + 1 by simp] at h
  · have h := heap_alloc_new ((w.alloc A).alloc B) C
    rwa [show ((w.alloc A).alloc B).heap.size = w.heap.size + 1 + 1 by simp] at h
set_option maxHeartbeats 8000000 in
set_option maxRecDepth 100000 in
theorem modillionref07_First.w_unknown (tag : ByteArray) (source steps v : Int) (w : World) (HK : ∀ W, Calls Try.prog 20 #[.string tag] W fun e w' => e = .returned (.bool false) ∧ Below W.heap.size W w')  :
    Calls Try.prog 18 #[.agg #[.string tag, .int .i64 source, .int .i64 steps], .int .i64 v] w fun e w' => e = .returned (.agg #[.int .i64 0, .int .i64 0, .bool false, .bool false, .int .i64 0]) ∧ Below w.heap.size w w' := by
  have hu1 := Try.underlying28
  have hu2 := Try.underlying26
  have hn : w.heap.size + 1 ≠ w.heap.size + 1 + 1 := by omega
  have hn' : w.heap.size + 1 + 1 ≠ w.heap.size + 1 := by omega
  go_enter Try.func18, Try.ntmps18
  go_wp2_with (fail)
  refine (HK _).mono ?_
  rintro e w2 ⟨rfl, hb⟩
  have B4 : Aside0 (w2.heap[w.heap.size + 1]? = some (.cells #[.int .i64 0, .int .i64 0, .bool false, .bool false, .int .i64 0] 28 (0, 0))) := ⟨blk_below (modillionref07_First.alloc3 w _ _ _).2.1 hb⟩
  have B5 : Aside0 (w2.heap[w.heap.size + 1 + 1]? = some (.cells #[.int .i64 v, .int .i64 0, .bool true, .bool false, .int .i64 0] 28 (0, 0))) := ⟨blk_below (modillionref07_First.alloc3 w _ _ _).2.2 hb⟩
  have B3 : Aside0 (w2.heap[w.heap.size]? = some (.cells #[.string tag, .int .i64 source, .int .i64 steps] 26 (0, 0))) := ⟨blk_below (modillionref07_First.alloc3 w _ _ _).1 hb⟩
  have HB2 : Aside0 (Below w.heap.size w w2) := ⟨by
    refine Below.trans (below_alloc (below_alloc (below_alloc (Below.refl _ _) _) _) _) (hb.mono ?_)
    simp; omega⟩
  have j0 : w2.cell? ⟨w.heap.size, 0, none⟩ = some (.string tag) := (blk_cell B3.out 0).trans rfl
  have j1 : w2.cell? ⟨w.heap.size, 1, none⟩ = some (.int .i64 source) := (blk_cell B3.out 1).trans rfl
  have s0 : w2.cell? ⟨w.heap.size + 1, 0, none⟩ = some (.int .i64 0) := (blk_cell B4.out 0).trans rfl
  have f0 := blk_frozen B4.out 0
  have s1 : w2.cell? ⟨w.heap.size + 1, 1, none⟩ = some (.int .i64 0) := (blk_cell B4.out 1).trans rfl
  have f1 := blk_frozen B4.out 1
  have s2 : w2.cell? ⟨w.heap.size + 1, 2, none⟩ = some (.bool false) := (blk_cell B4.out 2).trans rfl
  have f2 := blk_frozen B4.out 2
  have s3 : w2.cell? ⟨w.heap.size + 1, 3, none⟩ = some (.bool false) := (blk_cell B4.out 3).trans rfl
  have f3 := blk_frozen B4.out 3
  have s4 : w2.cell? ⟨w.heap.size + 1, 4, none⟩ = some (.int .i64 0) := (blk_cell B4.out 4).trans rfl
  have f4 := blk_frozen B4.out 4
  have x0 : w2.cell? ⟨w.heap.size + 1 + 1, 0, none⟩ = some (.int .i64 v) := (blk_cell B5.out 0).trans rfl
  have g0 := blk_frozen B5.out 0
  have x1 : w2.cell? ⟨w.heap.size + 1 + 1, 1, none⟩ = some (.int .i64 0) := (blk_cell B5.out 1).trans rfl
  have g1 := blk_frozen B5.out 1
  have x2 : w2.cell? ⟨w.heap.size + 1 + 1, 2, none⟩ = some (.bool true) := (blk_cell B5.out 2).trans rfl
  have g2 := blk_frozen B5.out 2
  have x3 : w2.cell? ⟨w.heap.size + 1 + 1, 3, none⟩ = some (.bool false) := (blk_cell B5.out 3).trans rfl
  have g3 := blk_frozen B5.out 3
  have x4 : w2.cell? ⟨w.heap.size + 1 + 1, 4, none⟩ = some (.int .i64 0) := (blk_cell B5.out 4).trans rfl
  have g4 := blk_frozen B5.out 4
  clear hb HK
  go_wp2
  refine bodyPost_ret (results_cell_row rfl _ _ (w.heap.size + 1) 28 #[.int .i64 0, .int .i64 0, .bool false, .bool false, .int .i64 0] (0, 0) _ rfl ?hg Try.underlying28 rfl (by kernel_rfl)) rfl ?_
  case hg => exact (blk_put (blk_put (blk_put (blk_put (blk_put B4.out 0 _ rfl) 1 _ rfl) 2 _ rfl) 3 _ rfl) 4 _ rfl)
  exact ⟨rfl, (below_set (below_set (below_set (below_set (below_set HB2.out (Nat.le_succ _)) (Nat.le_succ _)) (Nat.le_succ _)) (Nat.le_succ _)) (Nat.le_succ _))⟩
set_option maxHeartbeats 8000000 in
set_option maxRecDepth 100000 in
theorem modillionref07_First.w_max (tag : ByteArray) (source steps v : Int) (w : World) (HK : ∀ W, Calls Try.prog 20 #[.string tag] W fun e w' => e = .returned (.bool true) ∧ Below W.heap.size W w') (ht : tag.toList = [109, 97, 120]) (h0 : 0 ≤ v ∧ v ≤ 1048576) :
    Calls Try.prog 18 #[.agg #[.string tag, .int .i64 source, .int .i64 steps], .int .i64 v] w fun e w' => e = .returned (.agg #[.int .i64 v, .int .i64 ((37 * v + 11) % 64), .bool true, .bool false, .int .i64 0]) ∧ Below w.heap.size w w' := by
  have hu1 := Try.underlying28
  have hu2 := Try.underlying26
  have e1 : wrap64 (37 * v) = 37 * v := by unfold wrap64; omega
  have e2 : wrap64 (37 * v + 11) = 37 * v + 11 := by unfold wrap64; omega
  have e3 : Int.tmod (37 * v + 11) 64 = (37 * v + 11) % 64 := Int.tmod_eq_emod_of_nonneg (by omega)
  have q0 : 0 ≤ 37 * v + 11 := by omega
  clear h0
  have t_max : (tag.toList == ([109, 97, 120] : List UInt8)) = true := by rw [ht]; rfl
  have t_label : (tag.toList == ([108, 97, 98, 101, 108] : List UInt8)) = false := by rw [ht]; rfl
  have t_sssp : (tag.toList == ([115, 115, 115, 112] : List UInt8)) = false := by rw [ht]; rfl
  have t_bfs : (tag.toList == ([98, 102, 115] : List UInt8)) = false := by rw [ht]; rfl
  have t_rank : (tag.toList == ([114, 97, 110, 107] : List UInt8)) = false := by rw [ht]; rfl
  have t_walks : (tag.toList == ([119, 97, 108, 107, 115] : List UInt8)) = false := by rw [ht]; rfl
  clear ht
  have hn : w.heap.size + 1 ≠ w.heap.size + 1 + 1 := by omega
  have hn' : w.heap.size + 1 + 1 ≠ w.heap.size + 1 := by omega
  go_enter Try.func18, Try.ntmps18
  go_wp2_with (fail)
  refine (HK _).mono ?_
  rintro e w2 ⟨rfl, hb⟩
  have B4 : Aside0 (w2.heap[w.heap.size + 1]? = some (.cells #[.int .i64 0, .int .i64 0, .bool false, .bool false, .int .i64 0] 28 (0, 0))) := ⟨blk_below (modillionref07_First.alloc3 w _ _ _).2.1 hb⟩
  have B5 : Aside0 (w2.heap[w.heap.size + 1 + 1]? = some (.cells #[.int .i64 v, .int .i64 0, .bool true, .bool false, .int .i64 0] 28 (0, 0))) := ⟨blk_below (modillionref07_First.alloc3 w _ _ _).2.2 hb⟩
  have B3 : Aside0 (w2.heap[w.heap.size]? = some (.cells #[.string tag, .int .i64 source, .int .i64 steps] 26 (0, 0))) := ⟨blk_below (modillionref07_First.alloc3 w _ _ _).1 hb⟩
  have HB2 : Aside0 (Below w.heap.size w w2) := ⟨by
    refine Below.trans (below_alloc (below_alloc (below_alloc (Below.refl _ _) _) _) _) (hb.mono ?_)
    simp; omega⟩
  have j0 : w2.cell? ⟨w.heap.size, 0, none⟩ = some (.string tag) := (blk_cell B3.out 0).trans rfl
  have j1 : w2.cell? ⟨w.heap.size, 1, none⟩ = some (.int .i64 source) := (blk_cell B3.out 1).trans rfl
  have s0 : w2.cell? ⟨w.heap.size + 1, 0, none⟩ = some (.int .i64 0) := (blk_cell B4.out 0).trans rfl
  have f0 := blk_frozen B4.out 0
  have s1 : w2.cell? ⟨w.heap.size + 1, 1, none⟩ = some (.int .i64 0) := (blk_cell B4.out 1).trans rfl
  have f1 := blk_frozen B4.out 1
  have s2 : w2.cell? ⟨w.heap.size + 1, 2, none⟩ = some (.bool false) := (blk_cell B4.out 2).trans rfl
  have f2 := blk_frozen B4.out 2
  have s3 : w2.cell? ⟨w.heap.size + 1, 3, none⟩ = some (.bool false) := (blk_cell B4.out 3).trans rfl
  have f3 := blk_frozen B4.out 3
  have s4 : w2.cell? ⟨w.heap.size + 1, 4, none⟩ = some (.int .i64 0) := (blk_cell B4.out 4).trans rfl
  have f4 := blk_frozen B4.out 4
  have x0 : w2.cell? ⟨w.heap.size + 1 + 1, 0, none⟩ = some (.int .i64 v) := (blk_cell B5.out 0).trans rfl
  have g0 := blk_frozen B5.out 0
  have x1 : w2.cell? ⟨w.heap.size + 1 + 1, 1, none⟩ = some (.int .i64 0) := (blk_cell B5.out 1).trans rfl
  have g1 := blk_frozen B5.out 1
  have x2 : w2.cell? ⟨w.heap.size + 1 + 1, 2, none⟩ = some (.bool true) := (blk_cell B5.out 2).trans rfl
  have g2 := blk_frozen B5.out 2
  have x3 : w2.cell? ⟨w.heap.size + 1 + 1, 3, none⟩ = some (.bool false) := (blk_cell B5.out 3).trans rfl
  have g3 := blk_frozen B5.out 3
  have x4 : w2.cell? ⟨w.heap.size + 1 + 1, 4, none⟩ = some (.int .i64 0) := (blk_cell B5.out 4).trans rfl
  have g4 := blk_frozen B5.out 4
  clear hb HK
  go_wp2
  refine bodyPost_ret (results_cell_row rfl _ _ (w.heap.size + 1) 28 #[.int .i64 v, .int .i64 ((37 * v + 11) % 64), .bool true, .bool false, .int .i64 0] (0, 0) _ rfl ?hg Try.underlying28 rfl (by kernel_rfl)) rfl ?_
  case hg => exact (blk_put (blk_put (blk_put (blk_put (blk_put (blk_far B4.out hn _) 0 _ rfl) 1 _ rfl) 2 _ rfl) 3 _ rfl) 4 _ rfl)
  exact ⟨rfl, (below_set (below_set (below_set (below_set (below_set (below_set HB2.out (by omega)) (Nat.le_succ _)) (Nat.le_succ _)) (Nat.le_succ _)) (Nat.le_succ _)) (Nat.le_succ _))⟩
set_option maxHeartbeats 8000000 in
set_option maxRecDepth 100000 in
theorem modillionref07_First.w_label (tag : ByteArray) (source steps v : Int) (w : World) (HK : ∀ W, Calls Try.prog 20 #[.string tag] W fun e w' => e = .returned (.bool true) ∧ Below W.heap.size W w') (ht : tag.toList = [108, 97, 98, 101, 108]) :
    Calls Try.prog 18 #[.agg #[.string tag, .int .i64 source, .int .i64 steps], .int .i64 v] w fun e w' => e = .returned (.agg #[.int .i64 v, .int .i64 v, .bool true, .bool false, .int .i64 0]) ∧ Below w.heap.size w w' := by
  have hu1 := Try.underlying28
  have hu2 := Try.underlying26
  have t_max : (tag.toList == ([109, 97, 120] : List UInt8)) = false := by rw [ht]; rfl
  have t_label : (tag.toList == ([108, 97, 98, 101, 108] : List UInt8)) = true := by rw [ht]; rfl
  have t_sssp : (tag.toList == ([115, 115, 115, 112] : List UInt8)) = false := by rw [ht]; rfl
  have t_bfs : (tag.toList == ([98, 102, 115] : List UInt8)) = false := by rw [ht]; rfl
  have t_rank : (tag.toList == ([114, 97, 110, 107] : List UInt8)) = false := by rw [ht]; rfl
  have t_walks : (tag.toList == ([119, 97, 108, 107, 115] : List UInt8)) = false := by rw [ht]; rfl
  clear ht
  have hn : w.heap.size + 1 ≠ w.heap.size + 1 + 1 := by omega
  have hn' : w.heap.size + 1 + 1 ≠ w.heap.size + 1 := by omega
  go_enter Try.func18, Try.ntmps18
  go_wp2_with (fail)
  refine (HK _).mono ?_
  rintro e w2 ⟨rfl, hb⟩
  have B4 : Aside0 (w2.heap[w.heap.size + 1]? = some (.cells #[.int .i64 0, .int .i64 0, .bool false, .bool false, .int .i64 0] 28 (0, 0))) := ⟨blk_below (modillionref07_First.alloc3 w _ _ _).2.1 hb⟩
  have B5 : Aside0 (w2.heap[w.heap.size + 1 + 1]? = some (.cells #[.int .i64 v, .int .i64 0, .bool true, .bool false, .int .i64 0] 28 (0, 0))) := ⟨blk_below (modillionref07_First.alloc3 w _ _ _).2.2 hb⟩
  have B3 : Aside0 (w2.heap[w.heap.size]? = some (.cells #[.string tag, .int .i64 source, .int .i64 steps] 26 (0, 0))) := ⟨blk_below (modillionref07_First.alloc3 w _ _ _).1 hb⟩
  have HB2 : Aside0 (Below w.heap.size w w2) := ⟨by
    refine Below.trans (below_alloc (below_alloc (below_alloc (Below.refl _ _) _) _) _) (hb.mono ?_)
    simp; omega⟩
  have j0 : w2.cell? ⟨w.heap.size, 0, none⟩ = some (.string tag) := (blk_cell B3.out 0).trans rfl
  have j1 : w2.cell? ⟨w.heap.size, 1, none⟩ = some (.int .i64 source) := (blk_cell B3.out 1).trans rfl
  have s0 : w2.cell? ⟨w.heap.size + 1, 0, none⟩ = some (.int .i64 0) := (blk_cell B4.out 0).trans rfl
  have f0 := blk_frozen B4.out 0
  have s1 : w2.cell? ⟨w.heap.size + 1, 1, none⟩ = some (.int .i64 0) := (blk_cell B4.out 1).trans rfl
  have f1 := blk_frozen B4.out 1
  have s2 : w2.cell? ⟨w.heap.size + 1, 2, none⟩ = some (.bool false) := (blk_cell B4.out 2).trans rfl
  have f2 := blk_frozen B4.out 2
  have s3 : w2.cell? ⟨w.heap.size + 1, 3, none⟩ = some (.bool false) := (blk_cell B4.out 3).trans rfl
  have f3 := blk_frozen B4.out 3
  have s4 : w2.cell? ⟨w.heap.size + 1, 4, none⟩ = some (.int .i64 0) := (blk_cell B4.out 4).trans rfl
  have f4 := blk_frozen B4.out 4
  have x0 : w2.cell? ⟨w.heap.size + 1 + 1, 0, none⟩ = some (.int .i64 v) := (blk_cell B5.out 0).trans rfl
  have g0 := blk_frozen B5.out 0
  have x1 : w2.cell? ⟨w.heap.size + 1 + 1, 1, none⟩ = some (.int .i64 0) := (blk_cell B5.out 1).trans rfl
  have g1 := blk_frozen B5.out 1
  have x2 : w2.cell? ⟨w.heap.size + 1 + 1, 2, none⟩ = some (.bool true) := (blk_cell B5.out 2).trans rfl
  have g2 := blk_frozen B5.out 2
  have x3 : w2.cell? ⟨w.heap.size + 1 + 1, 3, none⟩ = some (.bool false) := (blk_cell B5.out 3).trans rfl
  have g3 := blk_frozen B5.out 3
  have x4 : w2.cell? ⟨w.heap.size + 1 + 1, 4, none⟩ = some (.int .i64 0) := (blk_cell B5.out 4).trans rfl
  have g4 := blk_frozen B5.out 4
  clear hb HK
  go_wp2
  refine bodyPost_ret (results_cell_row rfl _ _ (w.heap.size + 1) 28 #[.int .i64 v, .int .i64 v, .bool true, .bool false, .int .i64 0] (0, 0) _ rfl ?hg Try.underlying28 rfl (by kernel_rfl)) rfl ?_
  case hg => exact (blk_put (blk_put (blk_put (blk_put (blk_put (blk_far B4.out hn _) 0 _ rfl) 1 _ rfl) 2 _ rfl) 3 _ rfl) 4 _ rfl)
  exact ⟨rfl, (below_set (below_set (below_set (below_set (below_set (below_set HB2.out (by omega)) (Nat.le_succ _)) (Nat.le_succ _)) (Nat.le_succ _)) (Nat.le_succ _)) (Nat.le_succ _))⟩
set_option maxHeartbeats 8000000 in
set_option maxRecDepth 100000 in
theorem modillionref07_First.w_sssp_at (tag : ByteArray) (source steps v : Int) (w : World) (HK : ∀ W, Calls Try.prog 20 #[.string tag] W fun e w' => e = .returned (.bool true) ∧ Below W.heap.size W w') (ht : tag.toList = [115, 115, 115, 112]) (hs : v = source) :
    Calls Try.prog 18 #[.agg #[.string tag, .int .i64 source, .int .i64 steps], .int .i64 v] w fun e w' => e = .returned (.agg #[.int .i64 v, .int .i64 0, .bool true, .bool false, .int .i64 0]) ∧ Below w.heap.size w w' := by
  have hu1 := Try.underlying28
  have hu2 := Try.underlying26
  have z : (v != source) = false := bne_eq_false_iff_eq.mpr hs
  clear hs
  have t_max : (tag.toList == ([109, 97, 120] : List UInt8)) = false := by rw [ht]; rfl
  have t_label : (tag.toList == ([108, 97, 98, 101, 108] : List UInt8)) = false := by rw [ht]; rfl
  have t_sssp : (tag.toList == ([115, 115, 115, 112] : List UInt8)) = true := by rw [ht]; rfl
  have t_bfs : (tag.toList == ([98, 102, 115] : List UInt8)) = false := by rw [ht]; rfl
  have t_rank : (tag.toList == ([114, 97, 110, 107] : List UInt8)) = false := by rw [ht]; rfl
  have t_walks : (tag.toList == ([119, 97, 108, 107, 115] : List UInt8)) = false := by rw [ht]; rfl
  clear ht
  have hn : w.heap.size + 1 ≠ w.heap.size + 1 + 1 := by omega
  have hn' : w.heap.size + 1 + 1 ≠ w.heap.size + 1 := by omega
  go_enter Try.func18, Try.ntmps18
  go_wp2_with (fail)
  refine (HK _).mono ?_
  rintro e w2 ⟨rfl, hb⟩
  have B4 : Aside0 (w2.heap[w.heap.size + 1]? = some (.cells #[.int .i64 0, .int .i64 0, .bool false, .bool false, .int .i64 0] 28 (0, 0))) := ⟨blk_below (modillionref07_First.alloc3 w _ _ _).2.1 hb⟩
  have B5 : Aside0 (w2.heap[w.heap.size + 1 + 1]? = some (.cells #[.int .i64 v, .int .i64 0, .bool true, .bool false, .int .i64 0] 28 (0, 0))) := ⟨blk_below (modillionref07_First.alloc3 w _ _ _).2.2 hb⟩
  have B3 : Aside0 (w2.heap[w.heap.size]? = some (.cells #[.string tag, .int .i64 source, .int .i64 steps] 26 (0, 0))) := ⟨blk_below (modillionref07_First.alloc3 w _ _ _).1 hb⟩
  have HB2 : Aside0 (Below w.heap.size w w2) := ⟨by
    refine Below.trans (below_alloc (below_alloc (below_alloc (Below.refl _ _) _) _) _) (hb.mono ?_)
    simp; omega⟩
  have j0 : w2.cell? ⟨w.heap.size, 0, none⟩ = some (.string tag) := (blk_cell B3.out 0).trans rfl
  have j1 : w2.cell? ⟨w.heap.size, 1, none⟩ = some (.int .i64 source) := (blk_cell B3.out 1).trans rfl
  have s0 : w2.cell? ⟨w.heap.size + 1, 0, none⟩ = some (.int .i64 0) := (blk_cell B4.out 0).trans rfl
  have f0 := blk_frozen B4.out 0
  have s1 : w2.cell? ⟨w.heap.size + 1, 1, none⟩ = some (.int .i64 0) := (blk_cell B4.out 1).trans rfl
  have f1 := blk_frozen B4.out 1
  have s2 : w2.cell? ⟨w.heap.size + 1, 2, none⟩ = some (.bool false) := (blk_cell B4.out 2).trans rfl
  have f2 := blk_frozen B4.out 2
  have s3 : w2.cell? ⟨w.heap.size + 1, 3, none⟩ = some (.bool false) := (blk_cell B4.out 3).trans rfl
  have f3 := blk_frozen B4.out 3
  have s4 : w2.cell? ⟨w.heap.size + 1, 4, none⟩ = some (.int .i64 0) := (blk_cell B4.out 4).trans rfl
  have f4 := blk_frozen B4.out 4
  have x0 : w2.cell? ⟨w.heap.size + 1 + 1, 0, none⟩ = some (.int .i64 v) := (blk_cell B5.out 0).trans rfl
  have g0 := blk_frozen B5.out 0
  have x1 : w2.cell? ⟨w.heap.size + 1 + 1, 1, none⟩ = some (.int .i64 0) := (blk_cell B5.out 1).trans rfl
  have g1 := blk_frozen B5.out 1
  have x2 : w2.cell? ⟨w.heap.size + 1 + 1, 2, none⟩ = some (.bool true) := (blk_cell B5.out 2).trans rfl
  have g2 := blk_frozen B5.out 2
  have x3 : w2.cell? ⟨w.heap.size + 1 + 1, 3, none⟩ = some (.bool false) := (blk_cell B5.out 3).trans rfl
  have g3 := blk_frozen B5.out 3
  have x4 : w2.cell? ⟨w.heap.size + 1 + 1, 4, none⟩ = some (.int .i64 0) := (blk_cell B5.out 4).trans rfl
  have g4 := blk_frozen B5.out 4
  clear hb HK
  go_wp2
  refine bodyPost_ret (results_cell_row rfl _ _ (w.heap.size + 1) 28 #[.int .i64 v, .int .i64 0, .bool true, .bool false, .int .i64 0] (0, 0) _ rfl ?hg Try.underlying28 rfl (by kernel_rfl)) rfl ?_
  case hg => exact (blk_put (blk_put (blk_put (blk_put (blk_put B4.out 0 _ rfl) 1 _ rfl) 2 _ rfl) 3 _ rfl) 4 _ rfl)
  exact ⟨rfl, (below_set (below_set (below_set (below_set (below_set HB2.out (Nat.le_succ _)) (Nat.le_succ _)) (Nat.le_succ _)) (Nat.le_succ _)) (Nat.le_succ _))⟩
set_option maxHeartbeats 8000000 in
set_option maxRecDepth 100000 in
theorem modillionref07_First.w_sssp (tag : ByteArray) (source steps v : Int) (w : World) (HK : ∀ W, Calls Try.prog 20 #[.string tag] W fun e w' => e = .returned (.bool true) ∧ Below W.heap.size W w') (ht : tag.toList = [115, 115, 115, 112]) (hs : ¬ v = source) :
    Calls Try.prog 18 #[.agg #[.string tag, .int .i64 source, .int .i64 steps], .int .i64 v] w fun e w' => e = .returned (.agg #[.int .i64 v, .int .i64 (-1), .bool true, .bool false, .int .i64 0]) ∧ Below w.heap.size w w' := by
  have hu1 := Try.underlying28
  have hu2 := Try.underlying26
  have z : (v != source) = true := bne_iff_ne.mpr hs
  clear hs
  have t_max : (tag.toList == ([109, 97, 120] : List UInt8)) = false := by rw [ht]; rfl
  have t_label : (tag.toList == ([108, 97, 98, 101, 108] : List UInt8)) = false := by rw [ht]; rfl
  have t_sssp : (tag.toList == ([115, 115, 115, 112] : List UInt8)) = true := by rw [ht]; rfl
  have t_bfs : (tag.toList == ([98, 102, 115] : List UInt8)) = false := by rw [ht]; rfl
  have t_rank : (tag.toList == ([114, 97, 110, 107] : List UInt8)) = false := by rw [ht]; rfl
  have t_walks : (tag.toList == ([119, 97, 108, 107, 115] : List UInt8)) = false := by rw [ht]; rfl
  clear ht
  have hn : w.heap.size + 1 ≠ w.heap.size + 1 + 1 := by omega
  have hn' : w.heap.size + 1 + 1 ≠ w.heap.size + 1 := by omega
  go_enter Try.func18, Try.ntmps18
  go_wp2_with (fail)
  refine (HK _).mono ?_
  rintro e w2 ⟨rfl, hb⟩
  have B4 : Aside0 (w2.heap[w.heap.size + 1]? = some (.cells #[.int .i64 0, .int .i64 0, .bool false, .bool false, .int .i64 0] 28 (0, 0))) := ⟨blk_below (modillionref07_First.alloc3 w _ _ _).2.1 hb⟩
  have B5 : Aside0 (w2.heap[w.heap.size + 1 + 1]? = some (.cells #[.int .i64 v, .int .i64 0, .bool true, .bool false, .int .i64 0] 28 (0, 0))) := ⟨blk_below (modillionref07_First.alloc3 w _ _ _).2.2 hb⟩
  have B3 : Aside0 (w2.heap[w.heap.size]? = some (.cells #[.string tag, .int .i64 source, .int .i64 steps] 26 (0, 0))) := ⟨blk_below (modillionref07_First.alloc3 w _ _ _).1 hb⟩
  have HB2 : Aside0 (Below w.heap.size w w2) := ⟨by
    refine Below.trans (below_alloc (below_alloc (below_alloc (Below.refl _ _) _) _) _) (hb.mono ?_)
    simp; omega⟩
  have j0 : w2.cell? ⟨w.heap.size, 0, none⟩ = some (.string tag) := (blk_cell B3.out 0).trans rfl
  have j1 : w2.cell? ⟨w.heap.size, 1, none⟩ = some (.int .i64 source) := (blk_cell B3.out 1).trans rfl
  have s0 : w2.cell? ⟨w.heap.size + 1, 0, none⟩ = some (.int .i64 0) := (blk_cell B4.out 0).trans rfl
  have f0 := blk_frozen B4.out 0
  have s1 : w2.cell? ⟨w.heap.size + 1, 1, none⟩ = some (.int .i64 0) := (blk_cell B4.out 1).trans rfl
  have f1 := blk_frozen B4.out 1
  have s2 : w2.cell? ⟨w.heap.size + 1, 2, none⟩ = some (.bool false) := (blk_cell B4.out 2).trans rfl
  have f2 := blk_frozen B4.out 2
  have s3 : w2.cell? ⟨w.heap.size + 1, 3, none⟩ = some (.bool false) := (blk_cell B4.out 3).trans rfl
  have f3 := blk_frozen B4.out 3
  have s4 : w2.cell? ⟨w.heap.size + 1, 4, none⟩ = some (.int .i64 0) := (blk_cell B4.out 4).trans rfl
  have f4 := blk_frozen B4.out 4
  have x0 : w2.cell? ⟨w.heap.size + 1 + 1, 0, none⟩ = some (.int .i64 v) := (blk_cell B5.out 0).trans rfl
  have g0 := blk_frozen B5.out 0
  have x1 : w2.cell? ⟨w.heap.size + 1 + 1, 1, none⟩ = some (.int .i64 0) := (blk_cell B5.out 1).trans rfl
  have g1 := blk_frozen B5.out 1
  have x2 : w2.cell? ⟨w.heap.size + 1 + 1, 2, none⟩ = some (.bool true) := (blk_cell B5.out 2).trans rfl
  have g2 := blk_frozen B5.out 2
  have x3 : w2.cell? ⟨w.heap.size + 1 + 1, 3, none⟩ = some (.bool false) := (blk_cell B5.out 3).trans rfl
  have g3 := blk_frozen B5.out 3
  have x4 : w2.cell? ⟨w.heap.size + 1 + 1, 4, none⟩ = some (.int .i64 0) := (blk_cell B5.out 4).trans rfl
  have g4 := blk_frozen B5.out 4
  clear hb HK
  go_wp2
  refine bodyPost_ret (results_cell_row rfl _ _ (w.heap.size + 1) 28 #[.int .i64 v, .int .i64 (-1), .bool true, .bool false, .int .i64 0] (0, 0) _ rfl ?hg Try.underlying28 rfl (by kernel_rfl)) rfl ?_
  case hg => exact (blk_put (blk_put (blk_put (blk_put (blk_put (blk_far B4.out hn _) 0 _ rfl) 1 _ rfl) 2 _ rfl) 3 _ rfl) 4 _ rfl)
  exact ⟨rfl, (below_set (below_set (below_set (below_set (below_set (below_set HB2.out (by omega)) (Nat.le_succ _)) (Nat.le_succ _)) (Nat.le_succ _)) (Nat.le_succ _)) (Nat.le_succ _))⟩
set_option maxHeartbeats 8000000 in
set_option maxRecDepth 100000 in
theorem modillionref07_First.w_bfs_at (tag : ByteArray) (source steps v : Int) (w : World) (HK : ∀ W, Calls Try.prog 20 #[.string tag] W fun e w' => e = .returned (.bool true) ∧ Below W.heap.size W w') (ht : tag.toList = [98, 102, 115]) (hs : v = source) :
    Calls Try.prog 18 #[.agg #[.string tag, .int .i64 source, .int .i64 steps], .int .i64 v] w fun e w' => e = .returned (.agg #[.int .i64 v, .int .i64 0, .bool true, .bool false, .int .i64 0]) ∧ Below w.heap.size w w' := by
  have hu1 := Try.underlying28
  have hu2 := Try.underlying26
  have z : (v != source) = false := bne_eq_false_iff_eq.mpr hs
  clear hs
  have t_max : (tag.toList == ([109, 97, 120] : List UInt8)) = false := by rw [ht]; rfl
  have t_label : (tag.toList == ([108, 97, 98, 101, 108] : List UInt8)) = false := by rw [ht]; rfl
  have t_sssp : (tag.toList == ([115, 115, 115, 112] : List UInt8)) = false := by rw [ht]; rfl
  have t_bfs : (tag.toList == ([98, 102, 115] : List UInt8)) = true := by rw [ht]; rfl
  have t_rank : (tag.toList == ([114, 97, 110, 107] : List UInt8)) = false := by rw [ht]; rfl
  have t_walks : (tag.toList == ([119, 97, 108, 107, 115] : List UInt8)) = false := by rw [ht]; rfl
  clear ht
  have hn : w.heap.size + 1 ≠ w.heap.size + 1 + 1 := by omega
  have hn' : w.heap.size + 1 + 1 ≠ w.heap.size + 1 := by omega
  go_enter Try.func18, Try.ntmps18
  go_wp2_with (fail)
  refine (HK _).mono ?_
  rintro e w2 ⟨rfl, hb⟩
  have B4 : Aside0 (w2.heap[w.heap.size + 1]? = some (.cells #[.int .i64 0, .int .i64 0, .bool false, .bool false, .int .i64 0] 28 (0, 0))) := ⟨blk_below (modillionref07_First.alloc3 w _ _ _).2.1 hb⟩
  have B5 : Aside0 (w2.heap[w.heap.size + 1 + 1]? = some (.cells #[.int .i64 v, .int .i64 0, .bool true, .bool false, .int .i64 0] 28 (0, 0))) := ⟨blk_below (modillionref07_First.alloc3 w _ _ _).2.2 hb⟩
  have B3 : Aside0 (w2.heap[w.heap.size]? = some (.cells #[.string tag, .int .i64 source, .int .i64 steps] 26 (0, 0))) := ⟨blk_below (modillionref07_First.alloc3 w _ _ _).1 hb⟩
  have HB2 : Aside0 (Below w.heap.size w w2) := ⟨by
    refine Below.trans (below_alloc (below_alloc (below_alloc (Below.refl _ _) _) _) _) (hb.mono ?_)
    simp; omega⟩
  have j0 : w2.cell? ⟨w.heap.size, 0, none⟩ = some (.string tag) := (blk_cell B3.out 0).trans rfl
  have j1 : w2.cell? ⟨w.heap.size, 1, none⟩ = some (.int .i64 source) := (blk_cell B3.out 1).trans rfl
  have s0 : w2.cell? ⟨w.heap.size + 1, 0, none⟩ = some (.int .i64 0) := (blk_cell B4.out 0).trans rfl
  have f0 := blk_frozen B4.out 0
  have s1 : w2.cell? ⟨w.heap.size + 1, 1, none⟩ = some (.int .i64 0) := (blk_cell B4.out 1).trans rfl
  have f1 := blk_frozen B4.out 1
  have s2 : w2.cell? ⟨w.heap.size + 1, 2, none⟩ = some (.bool false) := (blk_cell B4.out 2).trans rfl
  have f2 := blk_frozen B4.out 2
  have s3 : w2.cell? ⟨w.heap.size + 1, 3, none⟩ = some (.bool false) := (blk_cell B4.out 3).trans rfl
  have f3 := blk_frozen B4.out 3
  have s4 : w2.cell? ⟨w.heap.size + 1, 4, none⟩ = some (.int .i64 0) := (blk_cell B4.out 4).trans rfl
  have f4 := blk_frozen B4.out 4
  have x0 : w2.cell? ⟨w.heap.size + 1 + 1, 0, none⟩ = some (.int .i64 v) := (blk_cell B5.out 0).trans rfl
  have g0 := blk_frozen B5.out 0
  have x1 : w2.cell? ⟨w.heap.size + 1 + 1, 1, none⟩ = some (.int .i64 0) := (blk_cell B5.out 1).trans rfl
  have g1 := blk_frozen B5.out 1
  have x2 : w2.cell? ⟨w.heap.size + 1 + 1, 2, none⟩ = some (.bool true) := (blk_cell B5.out 2).trans rfl
  have g2 := blk_frozen B5.out 2
  have x3 : w2.cell? ⟨w.heap.size + 1 + 1, 3, none⟩ = some (.bool false) := (blk_cell B5.out 3).trans rfl
  have g3 := blk_frozen B5.out 3
  have x4 : w2.cell? ⟨w.heap.size + 1 + 1, 4, none⟩ = some (.int .i64 0) := (blk_cell B5.out 4).trans rfl
  have g4 := blk_frozen B5.out 4
  clear hb HK
  go_wp2
  refine bodyPost_ret (results_cell_row rfl _ _ (w.heap.size + 1) 28 #[.int .i64 v, .int .i64 0, .bool true, .bool false, .int .i64 0] (0, 0) _ rfl ?hg Try.underlying28 rfl (by kernel_rfl)) rfl ?_
  case hg => exact (blk_put (blk_put (blk_put (blk_put (blk_put B4.out 0 _ rfl) 1 _ rfl) 2 _ rfl) 3 _ rfl) 4 _ rfl)
  exact ⟨rfl, (below_set (below_set (below_set (below_set (below_set HB2.out (Nat.le_succ _)) (Nat.le_succ _)) (Nat.le_succ _)) (Nat.le_succ _)) (Nat.le_succ _))⟩
set_option maxHeartbeats 8000000 in
set_option maxRecDepth 100000 in
theorem modillionref07_First.w_bfs (tag : ByteArray) (source steps v : Int) (w : World) (HK : ∀ W, Calls Try.prog 20 #[.string tag] W fun e w' => e = .returned (.bool true) ∧ Below W.heap.size W w') (ht : tag.toList = [98, 102, 115]) (hs : ¬ v = source) :
    Calls Try.prog 18 #[.agg #[.string tag, .int .i64 source, .int .i64 steps], .int .i64 v] w fun e w' => e = .returned (.agg #[.int .i64 v, .int .i64 (-1), .bool true, .bool false, .int .i64 0]) ∧ Below w.heap.size w w' := by
  have hu1 := Try.underlying28
  have hu2 := Try.underlying26
  have z : (v != source) = true := bne_iff_ne.mpr hs
  clear hs
  have t_max : (tag.toList == ([109, 97, 120] : List UInt8)) = false := by rw [ht]; rfl
  have t_label : (tag.toList == ([108, 97, 98, 101, 108] : List UInt8)) = false := by rw [ht]; rfl
  have t_sssp : (tag.toList == ([115, 115, 115, 112] : List UInt8)) = false := by rw [ht]; rfl
  have t_bfs : (tag.toList == ([98, 102, 115] : List UInt8)) = true := by rw [ht]; rfl
  have t_rank : (tag.toList == ([114, 97, 110, 107] : List UInt8)) = false := by rw [ht]; rfl
  have t_walks : (tag.toList == ([119, 97, 108, 107, 115] : List UInt8)) = false := by rw [ht]; rfl
  clear ht
  have hn : w.heap.size + 1 ≠ w.heap.size + 1 + 1 := by omega
  have hn' : w.heap.size + 1 + 1 ≠ w.heap.size + 1 := by omega
  go_enter Try.func18, Try.ntmps18
  go_wp2_with (fail)
  refine (HK _).mono ?_
  rintro e w2 ⟨rfl, hb⟩
  have B4 : Aside0 (w2.heap[w.heap.size + 1]? = some (.cells #[.int .i64 0, .int .i64 0, .bool false, .bool false, .int .i64 0] 28 (0, 0))) := ⟨blk_below (modillionref07_First.alloc3 w _ _ _).2.1 hb⟩
  have B5 : Aside0 (w2.heap[w.heap.size + 1 + 1]? = some (.cells #[.int .i64 v, .int .i64 0, .bool true, .bool false, .int .i64 0] 28 (0, 0))) := ⟨blk_below (modillionref07_First.alloc3 w _ _ _).2.2 hb⟩
  have B3 : Aside0 (w2.heap[w.heap.size]? = some (.cells #[.string tag, .int .i64 source, .int .i64 steps] 26 (0, 0))) := ⟨blk_below (modillionref07_First.alloc3 w _ _ _).1 hb⟩
  have HB2 : Aside0 (Below w.heap.size w w2) := ⟨by
    refine Below.trans (below_alloc (below_alloc (below_alloc (Below.refl _ _) _) _) _) (hb.mono ?_)
    simp; omega⟩
  have j0 : w2.cell? ⟨w.heap.size, 0, none⟩ = some (.string tag) := (blk_cell B3.out 0).trans rfl
  have j1 : w2.cell? ⟨w.heap.size, 1, none⟩ = some (.int .i64 source) := (blk_cell B3.out 1).trans rfl
  have s0 : w2.cell? ⟨w.heap.size + 1, 0, none⟩ = some (.int .i64 0) := (blk_cell B4.out 0).trans rfl
  have f0 := blk_frozen B4.out 0
  have s1 : w2.cell? ⟨w.heap.size + 1, 1, none⟩ = some (.int .i64 0) := (blk_cell B4.out 1).trans rfl
  have f1 := blk_frozen B4.out 1
  have s2 : w2.cell? ⟨w.heap.size + 1, 2, none⟩ = some (.bool false) := (blk_cell B4.out 2).trans rfl
  have f2 := blk_frozen B4.out 2
  have s3 : w2.cell? ⟨w.heap.size + 1, 3, none⟩ = some (.bool false) := (blk_cell B4.out 3).trans rfl
  have f3 := blk_frozen B4.out 3
  have s4 : w2.cell? ⟨w.heap.size + 1, 4, none⟩ = some (.int .i64 0) := (blk_cell B4.out 4).trans rfl
  have f4 := blk_frozen B4.out 4
  have x0 : w2.cell? ⟨w.heap.size + 1 + 1, 0, none⟩ = some (.int .i64 v) := (blk_cell B5.out 0).trans rfl
  have g0 := blk_frozen B5.out 0
  have x1 : w2.cell? ⟨w.heap.size + 1 + 1, 1, none⟩ = some (.int .i64 0) := (blk_cell B5.out 1).trans rfl
  have g1 := blk_frozen B5.out 1
  have x2 : w2.cell? ⟨w.heap.size + 1 + 1, 2, none⟩ = some (.bool true) := (blk_cell B5.out 2).trans rfl
  have g2 := blk_frozen B5.out 2
  have x3 : w2.cell? ⟨w.heap.size + 1 + 1, 3, none⟩ = some (.bool false) := (blk_cell B5.out 3).trans rfl
  have g3 := blk_frozen B5.out 3
  have x4 : w2.cell? ⟨w.heap.size + 1 + 1, 4, none⟩ = some (.int .i64 0) := (blk_cell B5.out 4).trans rfl
  have g4 := blk_frozen B5.out 4
  clear hb HK
  go_wp2
  refine bodyPost_ret (results_cell_row rfl _ _ (w.heap.size + 1) 28 #[.int .i64 v, .int .i64 (-1), .bool true, .bool false, .int .i64 0] (0, 0) _ rfl ?hg Try.underlying28 rfl (by kernel_rfl)) rfl ?_
  case hg => exact (blk_put (blk_put (blk_put (blk_put (blk_put (blk_far B4.out hn _) 0 _ rfl) 1 _ rfl) 2 _ rfl) 3 _ rfl) 4 _ rfl)
  exact ⟨rfl, (below_set (below_set (below_set (below_set (below_set (below_set HB2.out (by omega)) (Nat.le_succ _)) (Nat.le_succ _)) (Nat.le_succ _)) (Nat.le_succ _)) (Nat.le_succ _))⟩
set_option maxHeartbeats 8000000 in
set_option maxRecDepth 100000 in
theorem modillionref07_First.w_rank (tag : ByteArray) (source steps v : Int) (w : World) (HK : ∀ W, Calls Try.prog 20 #[.string tag] W fun e w' => e = .returned (.bool true) ∧ Below W.heap.size W w') (ht : tag.toList = [114, 97, 110, 107]) :
    Calls Try.prog 18 #[.agg #[.string tag, .int .i64 source, .int .i64 steps], .int .i64 v] w fun e w' => e = .returned (.agg #[.int .i64 v, .int .i64 65536, .bool true, .bool false, .int .i64 0]) ∧ Below w.heap.size w w' := by
  have hu1 := Try.underlying28
  have hu2 := Try.underlying26
  have t_max : (tag.toList == ([109, 97, 120] : List UInt8)) = false := by rw [ht]; rfl
  have t_label : (tag.toList == ([108, 97, 98, 101, 108] : List UInt8)) = false := by rw [ht]; rfl
  have t_sssp : (tag.toList == ([115, 115, 115, 112] : List UInt8)) = false := by rw [ht]; rfl
  have t_bfs : (tag.toList == ([98, 102, 115] : List UInt8)) = false := by rw [ht]; rfl
  have t_rank : (tag.toList == ([114, 97, 110, 107] : List UInt8)) = true := by rw [ht]; rfl
  have t_walks : (tag.toList == ([119, 97, 108, 107, 115] : List UInt8)) = false := by rw [ht]; rfl
  clear ht
  have hn : w.heap.size + 1 ≠ w.heap.size + 1 + 1 := by omega
  have hn' : w.heap.size + 1 + 1 ≠ w.heap.size + 1 := by omega
  go_enter Try.func18, Try.ntmps18
  go_wp2_with (fail)
  refine (HK _).mono ?_
  rintro e w2 ⟨rfl, hb⟩
  have B4 : Aside0 (w2.heap[w.heap.size + 1]? = some (.cells #[.int .i64 0, .int .i64 0, .bool false, .bool false, .int .i64 0] 28 (0, 0))) := ⟨blk_below (modillionref07_First.alloc3 w _ _ _).2.1 hb⟩
  have B5 : Aside0 (w2.heap[w.heap.size + 1 + 1]? = some (.cells #[.int .i64 v, .int .i64 0, .bool true, .bool false, .int .i64 0] 28 (0, 0))) := ⟨blk_below (modillionref07_First.alloc3 w _ _ _).2.2 hb⟩
  have B3 : Aside0 (w2.heap[w.heap.size]? = some (.cells #[.string tag, .int .i64 source, .int .i64 steps] 26 (0, 0))) := ⟨blk_below (modillionref07_First.alloc3 w _ _ _).1 hb⟩
  have HB2 : Aside0 (Below w.heap.size w w2) := ⟨by
    refine Below.trans (below_alloc (below_alloc (below_alloc (Below.refl _ _) _) _) _) (hb.mono ?_)
    simp; omega⟩
  have j0 : w2.cell? ⟨w.heap.size, 0, none⟩ = some (.string tag) := (blk_cell B3.out 0).trans rfl
  have j1 : w2.cell? ⟨w.heap.size, 1, none⟩ = some (.int .i64 source) := (blk_cell B3.out 1).trans rfl
  have s0 : w2.cell? ⟨w.heap.size + 1, 0, none⟩ = some (.int .i64 0) := (blk_cell B4.out 0).trans rfl
  have f0 := blk_frozen B4.out 0
  have s1 : w2.cell? ⟨w.heap.size + 1, 1, none⟩ = some (.int .i64 0) := (blk_cell B4.out 1).trans rfl
  have f1 := blk_frozen B4.out 1
  have s2 : w2.cell? ⟨w.heap.size + 1, 2, none⟩ = some (.bool false) := (blk_cell B4.out 2).trans rfl
  have f2 := blk_frozen B4.out 2
  have s3 : w2.cell? ⟨w.heap.size + 1, 3, none⟩ = some (.bool false) := (blk_cell B4.out 3).trans rfl
  have f3 := blk_frozen B4.out 3
  have s4 : w2.cell? ⟨w.heap.size + 1, 4, none⟩ = some (.int .i64 0) := (blk_cell B4.out 4).trans rfl
  have f4 := blk_frozen B4.out 4
  have x0 : w2.cell? ⟨w.heap.size + 1 + 1, 0, none⟩ = some (.int .i64 v) := (blk_cell B5.out 0).trans rfl
  have g0 := blk_frozen B5.out 0
  have x1 : w2.cell? ⟨w.heap.size + 1 + 1, 1, none⟩ = some (.int .i64 0) := (blk_cell B5.out 1).trans rfl
  have g1 := blk_frozen B5.out 1
  have x2 : w2.cell? ⟨w.heap.size + 1 + 1, 2, none⟩ = some (.bool true) := (blk_cell B5.out 2).trans rfl
  have g2 := blk_frozen B5.out 2
  have x3 : w2.cell? ⟨w.heap.size + 1 + 1, 3, none⟩ = some (.bool false) := (blk_cell B5.out 3).trans rfl
  have g3 := blk_frozen B5.out 3
  have x4 : w2.cell? ⟨w.heap.size + 1 + 1, 4, none⟩ = some (.int .i64 0) := (blk_cell B5.out 4).trans rfl
  have g4 := blk_frozen B5.out 4
  clear hb HK
  go_wp2
  refine bodyPost_ret (results_cell_row rfl _ _ (w.heap.size + 1) 28 #[.int .i64 v, .int .i64 65536, .bool true, .bool false, .int .i64 0] (0, 0) _ rfl ?hg Try.underlying28 rfl (by kernel_rfl)) rfl ?_
  case hg => exact (blk_put (blk_put (blk_put (blk_put (blk_put (blk_far B4.out hn _) 0 _ rfl) 1 _ rfl) 2 _ rfl) 3 _ rfl) 4 _ rfl)
  exact ⟨rfl, (below_set (below_set (below_set (below_set (below_set (below_set HB2.out (by omega)) (Nat.le_succ _)) (Nat.le_succ _)) (Nat.le_succ _)) (Nat.le_succ _)) (Nat.le_succ _))⟩
set_option maxHeartbeats 8000000 in
set_option maxRecDepth 100000 in
theorem modillionref07_First.w_walks (tag : ByteArray) (source steps v : Int) (w : World) (HK : ∀ W, Calls Try.prog 20 #[.string tag] W fun e w' => e = .returned (.bool true) ∧ Below W.heap.size W w') (ht : tag.toList = [119, 97, 108, 107, 115]) :
    Calls Try.prog 18 #[.agg #[.string tag, .int .i64 source, .int .i64 steps], .int .i64 v] w fun e w' => e = .returned (.agg #[.int .i64 v, .int .i64 1, .bool true, .bool false, .int .i64 0]) ∧ Below w.heap.size w w' := by
  have hu1 := Try.underlying28
  have hu2 := Try.underlying26
  have t_max : (tag.toList == ([109, 97, 120] : List UInt8)) = false := by rw [ht]; rfl
  have t_label : (tag.toList == ([108, 97, 98, 101, 108] : List UInt8)) = false := by rw [ht]; rfl
  have t_sssp : (tag.toList == ([115, 115, 115, 112] : List UInt8)) = false := by rw [ht]; rfl
  have t_bfs : (tag.toList == ([98, 102, 115] : List UInt8)) = false := by rw [ht]; rfl
  have t_rank : (tag.toList == ([114, 97, 110, 107] : List UInt8)) = false := by rw [ht]; rfl
  have t_walks : (tag.toList == ([119, 97, 108, 107, 115] : List UInt8)) = true := by rw [ht]; rfl
  clear ht
  have hn : w.heap.size + 1 ≠ w.heap.size + 1 + 1 := by omega
  have hn' : w.heap.size + 1 + 1 ≠ w.heap.size + 1 := by omega
  go_enter Try.func18, Try.ntmps18
  go_wp2_with (fail)
  refine (HK _).mono ?_
  rintro e w2 ⟨rfl, hb⟩
  have B4 : Aside0 (w2.heap[w.heap.size + 1]? = some (.cells #[.int .i64 0, .int .i64 0, .bool false, .bool false, .int .i64 0] 28 (0, 0))) := ⟨blk_below (modillionref07_First.alloc3 w _ _ _).2.1 hb⟩
  have B5 : Aside0 (w2.heap[w.heap.size + 1 + 1]? = some (.cells #[.int .i64 v, .int .i64 0, .bool true, .bool false, .int .i64 0] 28 (0, 0))) := ⟨blk_below (modillionref07_First.alloc3 w _ _ _).2.2 hb⟩
  have B3 : Aside0 (w2.heap[w.heap.size]? = some (.cells #[.string tag, .int .i64 source, .int .i64 steps] 26 (0, 0))) := ⟨blk_below (modillionref07_First.alloc3 w _ _ _).1 hb⟩
  have HB2 : Aside0 (Below w.heap.size w w2) := ⟨by
    refine Below.trans (below_alloc (below_alloc (below_alloc (Below.refl _ _) _) _) _) (hb.mono ?_)
    simp; omega⟩
  have j0 : w2.cell? ⟨w.heap.size, 0, none⟩ = some (.string tag) := (blk_cell B3.out 0).trans rfl
  have j1 : w2.cell? ⟨w.heap.size, 1, none⟩ = some (.int .i64 source) := (blk_cell B3.out 1).trans rfl
  have s0 : w2.cell? ⟨w.heap.size + 1, 0, none⟩ = some (.int .i64 0) := (blk_cell B4.out 0).trans rfl
  have f0 := blk_frozen B4.out 0
  have s1 : w2.cell? ⟨w.heap.size + 1, 1, none⟩ = some (.int .i64 0) := (blk_cell B4.out 1).trans rfl
  have f1 := blk_frozen B4.out 1
  have s2 : w2.cell? ⟨w.heap.size + 1, 2, none⟩ = some (.bool false) := (blk_cell B4.out 2).trans rfl
  have f2 := blk_frozen B4.out 2
  have s3 : w2.cell? ⟨w.heap.size + 1, 3, none⟩ = some (.bool false) := (blk_cell B4.out 3).trans rfl
  have f3 := blk_frozen B4.out 3
  have s4 : w2.cell? ⟨w.heap.size + 1, 4, none⟩ = some (.int .i64 0) := (blk_cell B4.out 4).trans rfl
  have f4 := blk_frozen B4.out 4
  have x0 : w2.cell? ⟨w.heap.size + 1 + 1, 0, none⟩ = some (.int .i64 v) := (blk_cell B5.out 0).trans rfl
  have g0 := blk_frozen B5.out 0
  have x1 : w2.cell? ⟨w.heap.size + 1 + 1, 1, none⟩ = some (.int .i64 0) := (blk_cell B5.out 1).trans rfl
  have g1 := blk_frozen B5.out 1
  have x2 : w2.cell? ⟨w.heap.size + 1 + 1, 2, none⟩ = some (.bool true) := (blk_cell B5.out 2).trans rfl
  have g2 := blk_frozen B5.out 2
  have x3 : w2.cell? ⟨w.heap.size + 1 + 1, 3, none⟩ = some (.bool false) := (blk_cell B5.out 3).trans rfl
  have g3 := blk_frozen B5.out 3
  have x4 : w2.cell? ⟨w.heap.size + 1 + 1, 4, none⟩ = some (.int .i64 0) := (blk_cell B5.out 4).trans rfl
  have g4 := blk_frozen B5.out 4
  clear hb HK
  go_wp2
  refine bodyPost_ret (results_cell_row rfl _ _ (w.heap.size + 1) 28 #[.int .i64 v, .int .i64 1, .bool true, .bool false, .int .i64 0] (0, 0) _ rfl ?hg Try.underlying28 rfl (by kernel_rfl)) rfl ?_
  case hg => exact (blk_put (blk_put (blk_put (blk_put (blk_put (blk_far B4.out hn _) 0 _ rfl) 1 _ rfl) 2 _ rfl) 3 _ rfl) 4 _ rfl)
  exact ⟨rfl, (below_set (below_set (below_set (below_set (below_set (below_set HB2.out (by omega)) (Nat.le_succ _)) (Nat.le_succ _)) (Nat.le_succ _)) (Nat.le_succ _)) (Nat.le_succ _))⟩
set_option maxHeartbeats 8000000 in
set_option maxRecDepth 100000 in
theorem modillionref07_First.w_else (tag : ByteArray) (source steps v : Int) (w : World) (HK : ∀ W, Calls Try.prog 20 #[.string tag] W fun e w' => e = .returned (.bool true) ∧ Below W.heap.size W w') (n0 : ¬ tag.toList = [109, 97, 120]) (n1 : ¬ tag.toList = [108, 97, 98, 101, 108]) (n2 : ¬ tag.toList = [115, 115, 115, 112]) (n3 : ¬ tag.toList = [98, 102, 115]) (n4 : ¬ tag.toList = [114, 97, 110, 107]) (n5 : ¬ tag.toList = [119, 97, 108, 107, 115]) :
    Calls Try.prog 18 #[.agg #[.string tag, .int .i64 source, .int .i64 steps], .int .i64 v] w fun e w' => e = .returned (.agg #[.int .i64 v, .int .i64 0, .bool true, .bool false, .int .i64 0]) ∧ Below w.heap.size w w' := by
  have hu1 := Try.underlying28
  have hu2 := Try.underlying26
  have t_max : (tag.toList == ([109, 97, 120] : List UInt8)) = false := beq_eq_false_iff_ne.mpr n0
  have t_label : (tag.toList == ([108, 97, 98, 101, 108] : List UInt8)) = false := beq_eq_false_iff_ne.mpr n1
  have t_sssp : (tag.toList == ([115, 115, 115, 112] : List UInt8)) = false := beq_eq_false_iff_ne.mpr n2
  have t_bfs : (tag.toList == ([98, 102, 115] : List UInt8)) = false := beq_eq_false_iff_ne.mpr n3
  have t_rank : (tag.toList == ([114, 97, 110, 107] : List UInt8)) = false := beq_eq_false_iff_ne.mpr n4
  have t_walks : (tag.toList == ([119, 97, 108, 107, 115] : List UInt8)) = false := beq_eq_false_iff_ne.mpr n5
  clear n0 n1 n2 n3 n4 n5
  have hn : w.heap.size + 1 ≠ w.heap.size + 1 + 1 := by omega
  have hn' : w.heap.size + 1 + 1 ≠ w.heap.size + 1 := by omega
  go_enter Try.func18, Try.ntmps18
  go_wp2_with (fail)
  refine (HK _).mono ?_
  rintro e w2 ⟨rfl, hb⟩
  have B4 : Aside0 (w2.heap[w.heap.size + 1]? = some (.cells #[.int .i64 0, .int .i64 0, .bool false, .bool false, .int .i64 0] 28 (0, 0))) := ⟨blk_below (modillionref07_First.alloc3 w _ _ _).2.1 hb⟩
  have B5 : Aside0 (w2.heap[w.heap.size + 1 + 1]? = some (.cells #[.int .i64 v, .int .i64 0, .bool true, .bool false, .int .i64 0] 28 (0, 0))) := ⟨blk_below (modillionref07_First.alloc3 w _ _ _).2.2 hb⟩
  have B3 : Aside0 (w2.heap[w.heap.size]? = some (.cells #[.string tag, .int .i64 source, .int .i64 steps] 26 (0, 0))) := ⟨blk_below (modillionref07_First.alloc3 w _ _ _).1 hb⟩
  have HB2 : Aside0 (Below w.heap.size w w2) := ⟨by
    refine Below.trans (below_alloc (below_alloc (below_alloc (Below.refl _ _) _) _) _) (hb.mono ?_)
    simp; omega⟩
  have j0 : w2.cell? ⟨w.heap.size, 0, none⟩ = some (.string tag) := (blk_cell B3.out 0).trans rfl
  have j1 : w2.cell? ⟨w.heap.size, 1, none⟩ = some (.int .i64 source) := (blk_cell B3.out 1).trans rfl
  have s0 : w2.cell? ⟨w.heap.size + 1, 0, none⟩ = some (.int .i64 0) := (blk_cell B4.out 0).trans rfl
  have f0 := blk_frozen B4.out 0
  have s1 : w2.cell? ⟨w.heap.size + 1, 1, none⟩ = some (.int .i64 0) := (blk_cell B4.out 1).trans rfl
  have f1 := blk_frozen B4.out 1
  have s2 : w2.cell? ⟨w.heap.size + 1, 2, none⟩ = some (.bool false) := (blk_cell B4.out 2).trans rfl
  have f2 := blk_frozen B4.out 2
  have s3 : w2.cell? ⟨w.heap.size + 1, 3, none⟩ = some (.bool false) := (blk_cell B4.out 3).trans rfl
  have f3 := blk_frozen B4.out 3
  have s4 : w2.cell? ⟨w.heap.size + 1, 4, none⟩ = some (.int .i64 0) := (blk_cell B4.out 4).trans rfl
  have f4 := blk_frozen B4.out 4
  have x0 : w2.cell? ⟨w.heap.size + 1 + 1, 0, none⟩ = some (.int .i64 v) := (blk_cell B5.out 0).trans rfl
  have g0 := blk_frozen B5.out 0
  have x1 : w2.cell? ⟨w.heap.size + 1 + 1, 1, none⟩ = some (.int .i64 0) := (blk_cell B5.out 1).trans rfl
  have g1 := blk_frozen B5.out 1
  have x2 : w2.cell? ⟨w.heap.size + 1 + 1, 2, none⟩ = some (.bool true) := (blk_cell B5.out 2).trans rfl
  have g2 := blk_frozen B5.out 2
  have x3 : w2.cell? ⟨w.heap.size + 1 + 1, 3, none⟩ = some (.bool false) := (blk_cell B5.out 3).trans rfl
  have g3 := blk_frozen B5.out 3
  have x4 : w2.cell? ⟨w.heap.size + 1 + 1, 4, none⟩ = some (.int .i64 0) := (blk_cell B5.out 4).trans rfl
  have g4 := blk_frozen B5.out 4
  clear hb HK
  go_wp2
  refine bodyPost_ret (results_cell_row rfl _ _ (w.heap.size + 1) 28 #[.int .i64 v, .int .i64 0, .bool true, .bool false, .int .i64 0] (0, 0) _ rfl ?hg Try.underlying28 rfl (by kernel_rfl)) rfl ?_
  case hg => exact (blk_put (blk_put (blk_put (blk_put (blk_put B4.out 0 _ rfl) 1 _ rfl) 2 _ rfl) 3 _ rfl) 4 _ rfl)
  exact ⟨rfl, (below_set (below_set (below_set (below_set (below_set HB2.out (Nat.le_succ _)) (Nat.le_succ _)) (Nat.le_succ _)) (Nat.le_succ _)) (Nat.le_succ _))⟩
theorem modillionref07_First.calls (a0_0 : ByteArray) (a0_1 : Int) (a0_2 : Int) (a1 : Int) (r1 : Int) (r2 : Int) (r3 : Bool) (r4 : Bool) (r5 : Int) (w : World) (h : modillionref07_First.f a0_0 a0_1 a0_2 a1 = some (r1, r2, r3, r4, r5)) :
    Calls Try.prog 18 #[.agg #[.string a0_0, .int .i64 a0_1, .int .i64 a0_2], .int .i64 a1] w fun e w' => e = .returned (.agg #[.int .i64 r1, .int .i64 r2, .bool r3, .bool r4, .int .i64 r5]) ∧ Below w.heap.size w w' := by
  unfold modillionref07_First.f at h
  by_cases hr : 0 ≤ a1 ∧ a1 ≤ 1048576
  · rw [if_pos hr] at h
    obtain ⟨b, hk, h⟩ := Option.bind_eq_some_iff.mp h
    have HK : ∀ W, Calls Try.prog 20 #[.string a0_0] W fun e w' => e = .returned (.bool b) ∧ Below W.heap.size W w' := fun W => (modillionref07_Known.calls a0_0 b W hk).mono fun e w' hq => ⟨hq.1, by obtain ⟨nd, h2⟩ := hq.2; rw [h2]; exact pw_below_drewN (Below.refl _ _) nd⟩
    cases b with
    | false =>
      rw [if_neg (by decide)] at h
      simp only [Option.some.injEq, Prod.mk.injEq] at h
      obtain ⟨rfl, rfl, rfl, rfl, rfl⟩ := h
      exact modillionref07_First.w_unknown a0_0 a0_1 a0_2 a1 w HK
    | true =>
      rw [if_pos rfl] at h
      simp only [Option.some.injEq, Prod.mk.injEq] at h
      obtain ⟨rfl, rfl, rfl, rfl, rfl⟩ := h
      unfold firstV
      by_cases n0 : a0_0.toList = [109, 97, 120]
      · rw [if_pos n0]; exact modillionref07_First.w_max a0_0 a0_1 a0_2 a1 w HK n0 hr
      rw [if_neg n0]
      by_cases n1 : a0_0.toList = [108, 97, 98, 101, 108]
      · rw [if_pos n1]; exact modillionref07_First.w_label a0_0 a0_1 a0_2 a1 w HK n1
      rw [if_neg n1]
      by_cases n2 : a0_0.toList = [115, 115, 115, 112]
      · rw [if_pos (by rw [n2]; rfl)]
        by_cases hs : a1 = a0_1
        · rw [if_pos hs]; exact modillionref07_First.w_sssp_at a0_0 a0_1 a0_2 a1 w HK n2 hs
        · rw [if_neg hs]; exact modillionref07_First.w_sssp a0_0 a0_1 a0_2 a1 w HK n2 hs
      by_cases n3 : a0_0.toList = [98, 102, 115]
      · rw [if_pos (by rw [n3]; rfl)]
        by_cases hs : a1 = a0_1
        · rw [if_pos hs]; exact modillionref07_First.w_bfs_at a0_0 a0_1 a0_2 a1 w HK n3 hs
        · rw [if_neg hs]; exact modillionref07_First.w_bfs a0_0 a0_1 a0_2 a1 w HK n3 hs
      rw [if_neg (by simp [beq_eq_false_iff_ne.mpr n2, beq_eq_false_iff_ne.mpr n3])]
      by_cases n4 : a0_0.toList = [114, 97, 110, 107]
      · rw [if_pos n4]; exact modillionref07_First.w_rank a0_0 a0_1 a0_2 a1 w HK n4
      rw [if_neg n4]
      by_cases n5 : a0_0.toList = [119, 97, 108, 107, 115]
      · rw [if_pos n5]; exact modillionref07_First.w_walks a0_0 a0_1 a0_2 a1 w HK n5
      rw [if_neg n5]
      exact modillionref07_First.w_else a0_0 a0_1 a0_2 a1 w HK n0 n1 n2 n3 n4 n5
  · rw [if_neg hr] at h
    cases h
end

end Go.Proofs.Ytdmihkffjbapjaa.P
