/- What these Go functions compute, as Lean functions, and that they do. No condition. -/
import Derived.Test.YtdmihkffjbapjaaPx0
import Derived.Test.YtdmihkffjbapjaaPx2
import Derived.Test.YtdmihkffjbapjaaPx3
namespace Go.Proofs.Ytdmihkffjbapjaa.P
open Go.RowKit Go.Proofs.YtdmihkffjbapjaaW.PrintWords Go.Proofs.YtdmihkffjbapjaaW.PrintLast Go.Proofs.YtdmihkffjbapjaaW.PrintMore
attribute [local go_sem] max2_int min2_int max_two min_two max_three min_three max_four min_four   -- for this text's walks alone
set_option linter.unusedVariables false
set_option linter.unusedSimpArgs false
set_option linter.unnecessarySimpa false
theorem iteS7 {α : Type} {c : Prop} [Decidable c] {a : Option α} {r : α} (h : (if c then a else none) = some r) : c ∧ a = some r := by
 by_cases hc : c
 ·rw [if_pos hc] at h; exact ⟨hc, h⟩
 ·rw [if_neg hc] at h; cases h

attribute [local go_sem high] eqA48
/-! ### modillionref07_Same: function 16 -/
def modillionref07_Same.l0 : Nat → List (S48) → List (S48) → Int → Option (Bool)
 | 0, _, _, _ => none
 | k + 1, x0, x1, x5 => if x5 < (x0.length : Int) then (if 0 ≤ x5 then (if x5 < (x1.length : Int) then (if (!(((rd_T48 x0 x5).f0) == ((rd_T48 x1 x5).f0)) || (!(((rd_T48 x0 x5).f1) == ((rd_T48 x1 x5).f1)) || (!(((rd_T48 x0 x5).f2) == ((rd_T48 x1 x5).f2))))) = true then (some false) else (modillionref07_Same.l0 k x0 x1 (wrap64 (x5 + 1)))) else (none)) else (none)) else (some true)
def modillionref07_Same.f (k : Nat) (l0 : List (S48)) (l1 : List (S48)) : Option (Bool) := if (l0.length : Int) = (l1.length : Int) then (modillionref07_Same.l0 k l0 l1 0) else (some false)
theorem modillionref07_Same.mono_l : ∀ k, (∀ y0 y1 y2, LeO (modillionref07_Same.l0 k y0 y1 y2) (modillionref07_Same.l0 (k + 1) y0 y1 y2))
 | 0 => fun _ _ _ r h => by simp [modillionref07_Same.l0] at h
 | k + 1 => by
  have ih0 := modillionref07_Same.mono_l k
  ·intro y0 y1 y2
   unfold modillionref07_Same.l0
   repeat' first
   | (with_reducible exact ih0 _ _ _)
   | (with_reducible exact LeO.refl _)
   | (with_reducible exact LeO.none _)
   | (with_reducible refine LeO.ite ?_ ?_)
   | (with_reducible refine LeO.bind ?_ (fun _ => ?_))
   | exact ih0 _ _ _
   | exact LeO.none _
   | refine LeO.ite ?_ ?_
   | refine LeO.bind ?_ (fun _ => ?_)
theorem modillionref07_Same.mono : ∀ a0 a1 k, LeO (modillionref07_Same.f k a0 a1) (modillionref07_Same.f (k + 1) a0 a1) := by
 intro a0 a1 k
 have ih0 := modillionref07_Same.mono_l k
 unfold modillionref07_Same.f
 repeat' first
   | (with_reducible exact ih0 _ _ _)
   | (with_reducible exact LeO.refl _)
   | (with_reducible exact LeO.none _)
   | (with_reducible refine LeO.ite ?_ ?_)
   | (with_reducible refine LeO.bind ?_ (fun _ => ?_))
   | exact ih0 _ _ _
   | exact LeO.none _
   | refine LeO.ite ?_ ?_
   | refine LeO.bind ?_ (fun _ => ?_)
set_option maxHeartbeats 8000000 in
set_option maxRecDepth 100000 in
theorem modillionref07_Same.calls (k : Nat) (A0 : Option Addr) (c0 : Nat) (l0 : List (S48)) (A1 : Option Addr) (c1 : Nat) (l1 : List (S48)) (r : Bool) (w : World) (hr0 : Kd.C k48 w A0 l0.length l0) (hc0 : l0.length ≤ c0) (hr1 : Kd.C k48 w A1 l1.length l1) (hc1 : l1.length ≤ c1) (h : modillionref07_Same.f k l0 l1 = some r) :
  Calls Try.prog 16 #[.slice A0 l0.length c0, .slice A1 l1.length c1] w fun e w' => e = .returned (.bool r) ∧ Drawn0 w w' := by
 have hu48 := Try.underlying48
 have HR0 := Aside0.mk hr0
 have HC0 := Aside0.mk hc0
 clear hr0 hc0
 have HR1 := Aside0.mk hr1
 have HC1 := Aside0.mk hc1
 clear hr1 hc1
 have H : (if (l0.length : Int) = (l1.length : Int) then (modillionref07_Same.l0 k l0 l1 0) else (some false)) = some r := h
 clear h
 by_cases c3 : (l0.length : Int) = (l1.length : Int)
 ·rw [if_pos c3] at H
  have c3b0 : ((l0.length : Int) == (l1.length : Int)) = true := beq_iff_eq.mpr c3
  have c3b1 : ((l0.length : Int) != (l1.length : Int)) = false := bne_eq_false_iff_eq.mpr c3
  have c3b2 : (l0.length == l1.length) = true := by first | simpa using c3 | (simp at c3 ⊢; omega)
  clear c3
  have H' := Aside0.mk H
  clear H
  go_enter Try.func16, Try.ntmps16
  go_wp2
  repeat (go_quiet (fail); try go_wp2)
  go_loopg [5] k (fun kq v5 w' => ∃ (x5_1 : Int), v5 = .int .i64 x5_1 ∧ Aside0 (modillionref07_Same.l0 kq l0 l1 x5_1 = some r) ∧ Aside0 (kq ≤ k) ∧ Drawn0 w w')
  case atStart => exact ⟨(0), (by first | rfl | (simp; done) | (simp [*]; done)), H', ⟨Nat.le_refl _⟩, by repeat (first | exact Drawn0.refl _ | apply Drawn0.step)⟩
  case round =>
   clear H'
   try clear c1
   try clear p2
   try clear c3
   try clear c3b0
   try clear c3b1
   try clear c3b2
   obtain ⟨x5_1, rfl, HA, HK1, ⟨m1, rfl⟩⟩ := hrel
   cases gk with
   | zero => exact absurd HA.out (by simp [modillionref07_Same.l0])
   | succ k1 =>
    have H := HA.out
    clear HA
    simp only [modillionref07_Same.l0] at H
    by_cases c4 : x5_1 < (l0.length : Int)
    ·rw [if_pos c4] at H
     have c4b0 := decide_eq_true c4
     clear c4
     obtain ⟨c5, H⟩ := iteS7 H
     have c5b0 := decide_eq_true c5
     clear c5
     obtain ⟨c6, H⟩ := iteS7 H
     have c6b0 := decide_eq_true c6
     clear c6
     by_cases c7 : (!(((rd_T48 l0 x5_1).f0) == ((rd_T48 l1 x5_1).f0)) || (!(((rd_T48 l0 x5_1).f1) == ((rd_T48 l1 x5_1).f1)) || (!(((rd_T48 l0 x5_1).f2) == ((rd_T48 l1 x5_1).f2))))) = true
     ·rw [if_pos c7] at H
      have c7b0 : (!(((rd_T48 l0 x5_1).f0) == ((rd_T48 l1 x5_1).f0)) || (!(((rd_T48 l0 x5_1).f1) == ((rd_T48 l1 x5_1).f1)) || (!(((rd_T48 l0 x5_1).f2) == ((rd_T48 l1 x5_1).f2))))) = true := c7
      clear c7
      obtain rfl := Option.some.inj H
      have p112 : 0 ≤ (x5_1 : Int) := of_decide_eq_true (by first | (with_reducible assumption) | assumption)
      have q112 : x5_1 < (l0.length : Int) := of_decide_eq_true (by first | (with_reducible assumption) | assumption)
      obtain ⟨ad112, e112, hx112_0, hx112_1, hx112_2⟩ := at_T48 HR0.out x5_1 p112 q112
      cases e112
      replace p112 := eq_true p112
      replace q112 := eq_true q112
      have p113 : 0 ≤ (x5_1 : Int) := of_decide_eq_true (by first | (with_reducible assumption) | assumption)
      have q113 : x5_1 < (l1.length : Int) := of_decide_eq_true (by first | (with_reducible assumption) | assumption)
      obtain ⟨ad113, e113, hx113_0, hx113_1, hx113_2⟩ := at_T48 HR1.out x5_1 p113 q113
      cases e113
      replace p113 := eq_true p113
      replace q113 := eq_true q113
      go_wp2
      repeat (go_quiet (fail); try go_wp2)
      go_ret
      exact ⟨by first | rfl | (simp; done) | (simp [*]; done), by repeat (first | exact Drawn0.refl _ | apply Drawn0.step)⟩
     ·rw [if_neg c7] at H
      have c7b0 : (!(((rd_T48 l0 x5_1).f0) == ((rd_T48 l1 x5_1).f0)) || (!(((rd_T48 l0 x5_1).f1) == ((rd_T48 l1 x5_1).f1)) || (!(((rd_T48 l0 x5_1).f2) == ((rd_T48 l1 x5_1).f2))))) = false := by simpa using c7
      clear c7
      have H' := Aside0.mk H
      clear H
      have p112 : 0 ≤ (x5_1 : Int) := of_decide_eq_true (by first | (with_reducible assumption) | assumption)
      have q112 : x5_1 < (l0.length : Int) := of_decide_eq_true (by first | (with_reducible assumption) | assumption)
      obtain ⟨ad112, e112, hx112_0, hx112_1, hx112_2⟩ := at_T48 HR0.out x5_1 p112 q112
      cases e112
      replace p112 := eq_true p112
      replace q112 := eq_true q112
      have p113 : 0 ≤ (x5_1 : Int) := of_decide_eq_true (by first | (with_reducible assumption) | assumption)
      have q113 : x5_1 < (l1.length : Int) := of_decide_eq_true (by first | (with_reducible assumption) | assumption)
      obtain ⟨ad113, e113, hx113_0, hx113_1, hx113_2⟩ := at_T48 HR1.out x5_1 p113 q113
      cases e113
      replace p113 := eq_true p113
      replace q113 := eq_true q113
      go_wp2
      repeat (go_quiet (fail); try go_wp2)
      go_roundg k1
      case measure => have := HK1.out; omega
      case rel => exact ⟨(wrap64 (x5_1 + 1)), (by first | rfl | (simp; done) | (simp [*]; done)), H', ⟨by have := HK1.out; omega⟩, by repeat (first | exact Drawn0.refl _ | apply Drawn0.step)⟩
    ·rw [if_neg c4] at H
     have c4b0 := decide_eq_false c4
     clear c4
     obtain rfl := Option.some.inj H
     go_wp2
     repeat (go_quiet (fail); try go_wp2)
     go_ret
     exact ⟨by first | rfl | (simp; done) | (simp [*]; done), by repeat (first | exact Drawn0.refl _ | apply Drawn0.step)⟩
 ·rw [if_neg c3] at H
  have c3b0 : ((l0.length : Int) == (l1.length : Int)) = false := beq_eq_false_iff_ne.mpr c3
  have c3b1 : ((l0.length : Int) != (l1.length : Int)) = true := bne_iff_ne.mpr c3
  have c3b2 : (l0.length == l1.length) = false := by first | simpa using c3 | (simp at c3 ⊢; omega)
  obtain rfl := Option.some.inj H
  go_enter Try.func16, Try.ntmps16
  go_wp2
  repeat (go_quiet (fail); try go_wp2)
  go_ret
  exact ⟨by first | rfl | (simp; done) | (simp [*]; done), by repeat (first | exact Drawn0.refl _ | apply Drawn0.step)⟩

/-! ### prog_First: function 17 (given) -/
/-- A vertex's value at first. -/
def firstV (t : List UInt8) (source v : Int) : Int := if t = [109, 97, 120] then (37 * v + 11) % 64 else if t = [108, 97, 98, 101, 108] then v else if (t == [98, 102, 115] || t == [115, 115, 115, 112]) = true then (if v = source then 0 else -1) else if t = [114, 97, 110, 107] then 65536 else if t = [119, 97, 108, 107, 115] then 1 else 0
def prog_First.f (a0_0 : ByteArray) (a0_1 a0_2 a1 : Int) : Option (Int × Int × Bool × Bool × Int) := if 0 ≤ a1 ∧ a1 ≤ 1048576 then (prog_Known.f 20 a0_0).bind fun b => if b = true then some (a1, firstV a0_0.toList a0_1 a1, true, false, 0) else some (0, 0, false, false, 0) else none
section
open Go.Shelf Go.Proofs.Ytdmihkffjbapjaa.Bridge
set_option maxHeartbeats 8000000 in
set_option maxRecDepth 100000 in
theorem prog_First.w_unknown (tag : ByteArray) (source steps v : Int) (w : World) (HK : ∀ W, Calls Try.prog 19 #[.string tag] W fun e w' => e = .returned (.bool false) ∧ Below W.heap.size W w')  :
  Calls Try.prog 17 #[.agg #[.string tag, .int .i64 source, .int .i64 steps], .int .i64 v] w fun e w' => e = .returned (.agg #[.int .i64 0, .int .i64 0, .bool false, .bool false, .int .i64 0]) ∧ Below w.heap.size w w' := by
 have hu1 := Try.underlying28
 have hu2 := Try.underlying26
 go_enter Try.func17, Try.ntmps17
 go_wp2_with (fail)
 refine (HK _).mono ?_
 rintro e w2 ⟨rfl, hb⟩
 have BK := Aside0.mk (blk_below (heap_alloc2_new _ _ _) hb)
 have hsz : Aside0 (w.heap.size + 2 ≤ w2.heap.size) := ⟨by have := hb.size; simp at this; omega⟩
 have HB2 : Aside0 (Below w.heap.size w w2) := ⟨by
  refine Below.trans ?_ (hb.mono ?_)
  ·repeat (first | exact Below.refl _ _ | apply below_alloc | apply pw_below_drewN)
  ·simp; omega⟩
 have j0 := (hb.cell (p := ⟨w.heap.size, 0, none⟩) (by simp; omega)).trans (show _ = some (.string tag) by first | (go_simp; done) | (go_simp; rfl))
 have j1 := (hb.cell (p := ⟨w.heap.size, 1, none⟩) (by simp; omega)).trans (show _ = some (.int .i64 source) by first | (go_simp; done) | (go_simp; rfl))
 have s0 : w2.cell? ⟨w.heap.size + 1, 0, none⟩ = some (.int .i64 0) := (blk_cell BK.out 0).trans rfl
 have f0 := blk_frozen BK.out 0
 have s1 : w2.cell? ⟨w.heap.size + 1, 1, none⟩ = some (.int .i64 0) := (blk_cell BK.out 1).trans rfl
 have f1 := blk_frozen BK.out 1
 have s2 : w2.cell? ⟨w.heap.size + 1, 2, none⟩ = some (.bool false) := (blk_cell BK.out 2).trans rfl
 have f2 := blk_frozen BK.out 2
 have s3 : w2.cell? ⟨w.heap.size + 1, 3, none⟩ = some (.bool false) := (blk_cell BK.out 3).trans rfl
 have f3 := blk_frozen BK.out 3
 have s4 : w2.cell? ⟨w.heap.size + 1, 4, none⟩ = some (.int .i64 0) := (blk_cell BK.out 4).trans rfl
 have f4 := blk_frozen BK.out 4
 clear hb HK
 go_wp2
 refine bodyPost_ret (results_cell_row rfl _ _ (w.heap.size + 1) 28 #[.int .i64 0, .int .i64 0, .bool false, .bool false, .int .i64 0] (0, 0) _ rfl ?hg Try.underlying28 rfl (by kernel_rfl)) rfl ?_
 case hg => exact (blk_put (blk_put (blk_put (blk_put (blk_put (BK).out 0 _ rfl) 1 _ rfl) 2 _ rfl) 3 _ rfl) 4 _ rfl)
 exact ⟨rfl, (below_set (below_set (below_set (below_set (below_set HB2.out (Nat.le_succ _)) (Nat.le_succ _)) (Nat.le_succ _)) (Nat.le_succ _)) (Nat.le_succ _))⟩
set_option maxHeartbeats 8000000 in
set_option maxRecDepth 100000 in
theorem prog_First.w_max (tag : ByteArray) (source steps v : Int) (w : World) (HK : ∀ W, Calls Try.prog 19 #[.string tag] W fun e w' => e = .returned (.bool true) ∧ Below W.heap.size W w') (ht : tag.toList = [109, 97, 120]) (h0 : 0 ≤ v ∧ v ≤ 1048576) :
  Calls Try.prog 17 #[.agg #[.string tag, .int .i64 source, .int .i64 steps], .int .i64 v] w fun e w' => e = .returned (.agg #[.int .i64 v, .int .i64 ((37 * v + 11) % 64), .bool true, .bool false, .int .i64 0]) ∧ Below w.heap.size w w' := by
 have hu1 := Try.underlying28
 have hu2 := Try.underlying26
 have e1 : wrap64 (37 * v) = 37 * v := by unfold wrap64; omega
 have e2 : wrap64 (37 * v + 11) = 37 * v + 11 := by unfold wrap64; omega
 have e3 : Int.tmod (37 * v + 11) 64 = (37 * v + 11) % 64 := Int.tmod_eq_emod_of_nonneg (by omega)
 have q0 : 0 ≤ 37 * v + 11 := by omega
 clear h0
 have t_max : (tag.toList == ([109, 97, 120] : List UInt8)) = true := by rw [ht]; rfl
 clear ht
 go_enter Try.func17, Try.ntmps17
 go_wp2_with (fail)
 refine (HK _).mono ?_
 rintro e w2 ⟨rfl, hb⟩
 have BK := Aside0.mk (blk_below (heap_alloc2_new _ _ _) hb)
 have hsz : Aside0 (w.heap.size + 2 ≤ w2.heap.size) := ⟨by have := hb.size; simp at this; omega⟩
 have HB2 : Aside0 (Below w.heap.size w w2) := ⟨by
  refine Below.trans ?_ (hb.mono ?_)
  ·repeat (first | exact Below.refl _ _ | apply below_alloc | apply pw_below_drewN)
  ·simp; omega⟩
 have j0 := (hb.cell (p := ⟨w.heap.size, 0, none⟩) (by simp; omega)).trans (show _ = some (.string tag) by first | (go_simp; done) | (go_simp; rfl))
 have j1 := (hb.cell (p := ⟨w.heap.size, 1, none⟩) (by simp; omega)).trans (show _ = some (.int .i64 source) by first | (go_simp; done) | (go_simp; rfl))
 have i0 : ∀ o, (w2.alloc o).cell? ⟨w.heap.size, 0, none⟩ = some (.string tag) := fun o => Bridge.cell_old j0
 have i1 : ∀ o, (w2.alloc o).cell? ⟨w.heap.size, 1, none⟩ = some (.int .i64 source) := fun o => Bridge.cell_old j1
 have BA : ∀ o, Aside0 ((w2.alloc o).heap[w.heap.size + 1]? = some (.cells #[.int .i64 0, .int .i64 0, .bool false, .bool false, .int .i64 0] 28 (0, 0))) := fun o => ⟨blk_alloc BK.out o⟩
 have s0 : ∀ o, (w2.alloc o).cell? ⟨w.heap.size + 1, 0, none⟩ = some (.int .i64 0) := fun o => (blk_cell (BA o).out 0).trans rfl
 have s1 : ∀ o, (w2.alloc o).cell? ⟨w.heap.size + 1, 1, none⟩ = some (.int .i64 0) := fun o => (blk_cell (BA o).out 1).trans rfl
 have s2 : ∀ o, (w2.alloc o).cell? ⟨w.heap.size + 1, 2, none⟩ = some (.bool false) := fun o => (blk_cell (BA o).out 2).trans rfl
 have s3 : ∀ o, (w2.alloc o).cell? ⟨w.heap.size + 1, 3, none⟩ = some (.bool false) := fun o => (blk_cell (BA o).out 3).trans rfl
 have s4 : ∀ o, (w2.alloc o).cell? ⟨w.heap.size + 1, 4, none⟩ = some (.int .i64 0) := fun o => (blk_cell (BA o).out 4).trans rfl
 have f0 : ∀ o, (w2.alloc o).frozen? ⟨w.heap.size + 1, 0, none⟩ = false := fun o => blk_frozen (BA o).out 0
 have f1 : ∀ o, (w2.alloc o).frozen? ⟨w.heap.size + 1, 1, none⟩ = false := fun o => blk_frozen (BA o).out 1
 have f2 : ∀ o, (w2.alloc o).frozen? ⟨w.heap.size + 1, 2, none⟩ = false := fun o => blk_frozen (BA o).out 2
 have f3 : ∀ o, (w2.alloc o).frozen? ⟨w.heap.size + 1, 3, none⟩ = false := fun o => blk_frozen (BA o).out 3
 have f4 : ∀ o, (w2.alloc o).frozen? ⟨w.heap.size + 1, 4, none⟩ = false := fun o => blk_frozen (BA o).out 4
 have hne : (w.heap.size + 1 == w2.heap.size) = false := beq_eq_false_iff_ne.mpr (by have := hsz.out; omega)
 clear hb HK
 go_wp2
 refine bodyPost_ret (results_cell_row rfl _ _ (w.heap.size + 1) 28 #[.int .i64 v, .int .i64 ((37 * v + 11) % 64), .bool true, .bool false, .int .i64 0] (0, 0) _ rfl ?hg Try.underlying28 rfl (by kernel_rfl)) rfl ?_
 case hg => exact (blk_put (blk_put (blk_put (blk_put (blk_put (BA _).out 0 _ rfl) 1 _ rfl) 2 _ rfl) 3 _ rfl) 4 _ rfl)
 exact ⟨rfl, (below_set (below_set (below_set (below_set (below_set (below_alloc HB2.out _) (Nat.le_succ _)) (Nat.le_succ _)) (Nat.le_succ _)) (Nat.le_succ _)) (Nat.le_succ _))⟩
set_option maxHeartbeats 8000000 in
set_option maxRecDepth 100000 in
theorem prog_First.w_label (tag : ByteArray) (source steps v : Int) (w : World) (HK : ∀ W, Calls Try.prog 19 #[.string tag] W fun e w' => e = .returned (.bool true) ∧ Below W.heap.size W w') (ht : tag.toList = [108, 97, 98, 101, 108]) :
  Calls Try.prog 17 #[.agg #[.string tag, .int .i64 source, .int .i64 steps], .int .i64 v] w fun e w' => e = .returned (.agg #[.int .i64 v, .int .i64 v, .bool true, .bool false, .int .i64 0]) ∧ Below w.heap.size w w' := by
 have hu1 := Try.underlying28
 have hu2 := Try.underlying26
 have t_max : (tag.toList == ([109, 97, 120] : List UInt8)) = false := by rw [ht]; rfl
 have t_label : (tag.toList == ([108, 97, 98, 101, 108] : List UInt8)) = true := by rw [ht]; rfl
 clear ht
 go_enter Try.func17, Try.ntmps17
 go_wp2_with (fail)
 refine (HK _).mono ?_
 rintro e w2 ⟨rfl, hb⟩
 have BK := Aside0.mk (blk_below (heap_alloc2_new _ _ _) hb)
 have hsz : Aside0 (w.heap.size + 2 ≤ w2.heap.size) := ⟨by have := hb.size; simp at this; omega⟩
 have HB2 : Aside0 (Below w.heap.size w w2) := ⟨by
  refine Below.trans ?_ (hb.mono ?_)
  ·repeat (first | exact Below.refl _ _ | apply below_alloc | apply pw_below_drewN)
  ·simp; omega⟩
 have j0 := (hb.cell (p := ⟨w.heap.size, 0, none⟩) (by simp; omega)).trans (show _ = some (.string tag) by first | (go_simp; done) | (go_simp; rfl))
 have j1 := (hb.cell (p := ⟨w.heap.size, 1, none⟩) (by simp; omega)).trans (show _ = some (.int .i64 source) by first | (go_simp; done) | (go_simp; rfl))
 have i0 : ∀ o, (w2.alloc o).cell? ⟨w.heap.size, 0, none⟩ = some (.string tag) := fun o => Bridge.cell_old j0
 have i1 : ∀ o, (w2.alloc o).cell? ⟨w.heap.size, 1, none⟩ = some (.int .i64 source) := fun o => Bridge.cell_old j1
 have BA : ∀ o, Aside0 ((w2.alloc o).heap[w.heap.size + 1]? = some (.cells #[.int .i64 0, .int .i64 0, .bool false, .bool false, .int .i64 0] 28 (0, 0))) := fun o => ⟨blk_alloc BK.out o⟩
 have s0 : ∀ o, (w2.alloc o).cell? ⟨w.heap.size + 1, 0, none⟩ = some (.int .i64 0) := fun o => (blk_cell (BA o).out 0).trans rfl
 have s1 : ∀ o, (w2.alloc o).cell? ⟨w.heap.size + 1, 1, none⟩ = some (.int .i64 0) := fun o => (blk_cell (BA o).out 1).trans rfl
 have s2 : ∀ o, (w2.alloc o).cell? ⟨w.heap.size + 1, 2, none⟩ = some (.bool false) := fun o => (blk_cell (BA o).out 2).trans rfl
 have s3 : ∀ o, (w2.alloc o).cell? ⟨w.heap.size + 1, 3, none⟩ = some (.bool false) := fun o => (blk_cell (BA o).out 3).trans rfl
 have s4 : ∀ o, (w2.alloc o).cell? ⟨w.heap.size + 1, 4, none⟩ = some (.int .i64 0) := fun o => (blk_cell (BA o).out 4).trans rfl
 have f0 : ∀ o, (w2.alloc o).frozen? ⟨w.heap.size + 1, 0, none⟩ = false := fun o => blk_frozen (BA o).out 0
 have f1 : ∀ o, (w2.alloc o).frozen? ⟨w.heap.size + 1, 1, none⟩ = false := fun o => blk_frozen (BA o).out 1
 have f2 : ∀ o, (w2.alloc o).frozen? ⟨w.heap.size + 1, 2, none⟩ = false := fun o => blk_frozen (BA o).out 2
 have f3 : ∀ o, (w2.alloc o).frozen? ⟨w.heap.size + 1, 3, none⟩ = false := fun o => blk_frozen (BA o).out 3
 have f4 : ∀ o, (w2.alloc o).frozen? ⟨w.heap.size + 1, 4, none⟩ = false := fun o => blk_frozen (BA o).out 4
 have hne : (w.heap.size + 1 == w2.heap.size) = false := beq_eq_false_iff_ne.mpr (by have := hsz.out; omega)
 clear hb HK
 go_wp2
 refine bodyPost_ret (results_cell_row rfl _ _ (w.heap.size + 1) 28 #[.int .i64 v, .int .i64 v, .bool true, .bool false, .int .i64 0] (0, 0) _ rfl ?hg Try.underlying28 rfl (by kernel_rfl)) rfl ?_
 case hg => exact (blk_put (blk_put (blk_put (blk_put (blk_put (BA _).out 0 _ rfl) 1 _ rfl) 2 _ rfl) 3 _ rfl) 4 _ rfl)
 exact ⟨rfl, (below_set (below_set (below_set (below_set (below_set (below_alloc HB2.out _) (Nat.le_succ _)) (Nat.le_succ _)) (Nat.le_succ _)) (Nat.le_succ _)) (Nat.le_succ _))⟩
set_option maxHeartbeats 8000000 in
set_option maxRecDepth 100000 in
theorem prog_First.w_bfs_at (tag : ByteArray) (source steps v : Int) (w : World) (HK : ∀ W, Calls Try.prog 19 #[.string tag] W fun e w' => e = .returned (.bool true) ∧ Below W.heap.size W w') (ht : tag.toList = [98, 102, 115]) (hs : v = source) :
  Calls Try.prog 17 #[.agg #[.string tag, .int .i64 source, .int .i64 steps], .int .i64 v] w fun e w' => e = .returned (.agg #[.int .i64 v, .int .i64 0, .bool true, .bool false, .int .i64 0]) ∧ Below w.heap.size w w' := by
 have hu1 := Try.underlying28
 have hu2 := Try.underlying26
 have z : (v != source) = false := bne_eq_false_iff_eq.mpr hs
 clear hs
 have t_max : (tag.toList == ([109, 97, 120] : List UInt8)) = false := by rw [ht]; rfl
 have t_label : (tag.toList == ([108, 97, 98, 101, 108] : List UInt8)) = false := by rw [ht]; rfl
 have t_bfs : (tag.toList == ([98, 102, 115] : List UInt8)) = true := by rw [ht]; rfl
 clear ht
 go_enter Try.func17, Try.ntmps17
 go_wp2_with (fail)
 refine (HK _).mono ?_
 rintro e w2 ⟨rfl, hb⟩
 have BK := Aside0.mk (blk_below (heap_alloc2_new _ _ _) hb)
 have hsz : Aside0 (w.heap.size + 2 ≤ w2.heap.size) := ⟨by have := hb.size; simp at this; omega⟩
 have HB2 : Aside0 (Below w.heap.size w w2) := ⟨by
  refine Below.trans ?_ (hb.mono ?_)
  ·repeat (first | exact Below.refl _ _ | apply below_alloc | apply pw_below_drewN)
  ·simp; omega⟩
 have j0 := (hb.cell (p := ⟨w.heap.size, 0, none⟩) (by simp; omega)).trans (show _ = some (.string tag) by first | (go_simp; done) | (go_simp; rfl))
 have j1 := (hb.cell (p := ⟨w.heap.size, 1, none⟩) (by simp; omega)).trans (show _ = some (.int .i64 source) by first | (go_simp; done) | (go_simp; rfl))
 have i0 : ∀ o, (w2.alloc o).cell? ⟨w.heap.size, 0, none⟩ = some (.string tag) := fun o => Bridge.cell_old j0
 have i1 : ∀ o, (w2.alloc o).cell? ⟨w.heap.size, 1, none⟩ = some (.int .i64 source) := fun o => Bridge.cell_old j1
 have BA : ∀ o, Aside0 ((w2.alloc o).heap[w.heap.size + 1]? = some (.cells #[.int .i64 0, .int .i64 0, .bool false, .bool false, .int .i64 0] 28 (0, 0))) := fun o => ⟨blk_alloc BK.out o⟩
 have s0 : ∀ o, (w2.alloc o).cell? ⟨w.heap.size + 1, 0, none⟩ = some (.int .i64 0) := fun o => (blk_cell (BA o).out 0).trans rfl
 have s1 : ∀ o, (w2.alloc o).cell? ⟨w.heap.size + 1, 1, none⟩ = some (.int .i64 0) := fun o => (blk_cell (BA o).out 1).trans rfl
 have s2 : ∀ o, (w2.alloc o).cell? ⟨w.heap.size + 1, 2, none⟩ = some (.bool false) := fun o => (blk_cell (BA o).out 2).trans rfl
 have s3 : ∀ o, (w2.alloc o).cell? ⟨w.heap.size + 1, 3, none⟩ = some (.bool false) := fun o => (blk_cell (BA o).out 3).trans rfl
 have s4 : ∀ o, (w2.alloc o).cell? ⟨w.heap.size + 1, 4, none⟩ = some (.int .i64 0) := fun o => (blk_cell (BA o).out 4).trans rfl
 have f0 : ∀ o, (w2.alloc o).frozen? ⟨w.heap.size + 1, 0, none⟩ = false := fun o => blk_frozen (BA o).out 0
 have f1 : ∀ o, (w2.alloc o).frozen? ⟨w.heap.size + 1, 1, none⟩ = false := fun o => blk_frozen (BA o).out 1
 have f2 : ∀ o, (w2.alloc o).frozen? ⟨w.heap.size + 1, 2, none⟩ = false := fun o => blk_frozen (BA o).out 2
 have f3 : ∀ o, (w2.alloc o).frozen? ⟨w.heap.size + 1, 3, none⟩ = false := fun o => blk_frozen (BA o).out 3
 have f4 : ∀ o, (w2.alloc o).frozen? ⟨w.heap.size + 1, 4, none⟩ = false := fun o => blk_frozen (BA o).out 4
 have hne : (w.heap.size + 1 == w2.heap.size) = false := beq_eq_false_iff_ne.mpr (by have := hsz.out; omega)
 clear hb HK
 go_wp2
 refine bodyPost_ret (results_cell_row rfl _ _ (w.heap.size + 1) 28 #[.int .i64 v, .int .i64 0, .bool true, .bool false, .int .i64 0] (0, 0) _ rfl ?hg Try.underlying28 rfl (by kernel_rfl)) rfl ?_
 case hg => exact (blk_put (blk_put (blk_put (blk_put (blk_put (BA _).out 0 _ rfl) 1 _ rfl) 2 _ rfl) 3 _ rfl) 4 _ rfl)
 exact ⟨rfl, (below_set (below_set (below_set (below_set (below_set (below_alloc HB2.out _) (Nat.le_succ _)) (Nat.le_succ _)) (Nat.le_succ _)) (Nat.le_succ _)) (Nat.le_succ _))⟩
set_option maxHeartbeats 8000000 in
set_option maxRecDepth 100000 in
theorem prog_First.w_bfs (tag : ByteArray) (source steps v : Int) (w : World) (HK : ∀ W, Calls Try.prog 19 #[.string tag] W fun e w' => e = .returned (.bool true) ∧ Below W.heap.size W w') (ht : tag.toList = [98, 102, 115]) (hs : ¬ v = source) :
  Calls Try.prog 17 #[.agg #[.string tag, .int .i64 source, .int .i64 steps], .int .i64 v] w fun e w' => e = .returned (.agg #[.int .i64 v, .int .i64 (-1), .bool true, .bool false, .int .i64 0]) ∧ Below w.heap.size w w' := by
 have hu1 := Try.underlying28
 have hu2 := Try.underlying26
 have z : (v != source) = true := bne_iff_ne.mpr hs
 clear hs
 have t_max : (tag.toList == ([109, 97, 120] : List UInt8)) = false := by rw [ht]; rfl
 have t_label : (tag.toList == ([108, 97, 98, 101, 108] : List UInt8)) = false := by rw [ht]; rfl
 have t_bfs : (tag.toList == ([98, 102, 115] : List UInt8)) = true := by rw [ht]; rfl
 clear ht
 go_enter Try.func17, Try.ntmps17
 go_wp2_with (fail)
 refine (HK _).mono ?_
 rintro e w2 ⟨rfl, hb⟩
 have BK := Aside0.mk (blk_below (heap_alloc2_new _ _ _) hb)
 have hsz : Aside0 (w.heap.size + 2 ≤ w2.heap.size) := ⟨by have := hb.size; simp at this; omega⟩
 have HB2 : Aside0 (Below w.heap.size w w2) := ⟨by
  refine Below.trans ?_ (hb.mono ?_)
  ·repeat (first | exact Below.refl _ _ | apply below_alloc | apply pw_below_drewN)
  ·simp; omega⟩
 have j0 := (hb.cell (p := ⟨w.heap.size, 0, none⟩) (by simp; omega)).trans (show _ = some (.string tag) by first | (go_simp; done) | (go_simp; rfl))
 have j1 := (hb.cell (p := ⟨w.heap.size, 1, none⟩) (by simp; omega)).trans (show _ = some (.int .i64 source) by first | (go_simp; done) | (go_simp; rfl))
 have i0 : ∀ o, (w2.alloc o).cell? ⟨w.heap.size, 0, none⟩ = some (.string tag) := fun o => Bridge.cell_old j0
 have i1 : ∀ o, (w2.alloc o).cell? ⟨w.heap.size, 1, none⟩ = some (.int .i64 source) := fun o => Bridge.cell_old j1
 have BA : ∀ o, Aside0 ((w2.alloc o).heap[w.heap.size + 1]? = some (.cells #[.int .i64 0, .int .i64 0, .bool false, .bool false, .int .i64 0] 28 (0, 0))) := fun o => ⟨blk_alloc BK.out o⟩
 have s0 : ∀ o, (w2.alloc o).cell? ⟨w.heap.size + 1, 0, none⟩ = some (.int .i64 0) := fun o => (blk_cell (BA o).out 0).trans rfl
 have s1 : ∀ o, (w2.alloc o).cell? ⟨w.heap.size + 1, 1, none⟩ = some (.int .i64 0) := fun o => (blk_cell (BA o).out 1).trans rfl
 have s2 : ∀ o, (w2.alloc o).cell? ⟨w.heap.size + 1, 2, none⟩ = some (.bool false) := fun o => (blk_cell (BA o).out 2).trans rfl
 have s3 : ∀ o, (w2.alloc o).cell? ⟨w.heap.size + 1, 3, none⟩ = some (.bool false) := fun o => (blk_cell (BA o).out 3).trans rfl
 have s4 : ∀ o, (w2.alloc o).cell? ⟨w.heap.size + 1, 4, none⟩ = some (.int .i64 0) := fun o => (blk_cell (BA o).out 4).trans rfl
 have f0 : ∀ o, (w2.alloc o).frozen? ⟨w.heap.size + 1, 0, none⟩ = false := fun o => blk_frozen (BA o).out 0
 have f1 : ∀ o, (w2.alloc o).frozen? ⟨w.heap.size + 1, 1, none⟩ = false := fun o => blk_frozen (BA o).out 1
 have f2 : ∀ o, (w2.alloc o).frozen? ⟨w.heap.size + 1, 2, none⟩ = false := fun o => blk_frozen (BA o).out 2
 have f3 : ∀ o, (w2.alloc o).frozen? ⟨w.heap.size + 1, 3, none⟩ = false := fun o => blk_frozen (BA o).out 3
 have f4 : ∀ o, (w2.alloc o).frozen? ⟨w.heap.size + 1, 4, none⟩ = false := fun o => blk_frozen (BA o).out 4
 have hne : (w.heap.size + 1 == w2.heap.size) = false := beq_eq_false_iff_ne.mpr (by have := hsz.out; omega)
 clear hb HK
 go_wp2
 refine bodyPost_ret (results_cell_row rfl _ _ (w.heap.size + 1) 28 #[.int .i64 v, .int .i64 (-1), .bool true, .bool false, .int .i64 0] (0, 0) _ rfl ?hg Try.underlying28 rfl (by kernel_rfl)) rfl ?_
 case hg => exact (blk_put (blk_put (blk_put (blk_put (blk_put (BA _).out 0 _ rfl) 1 _ rfl) 2 _ rfl) 3 _ rfl) 4 _ rfl)
 exact ⟨rfl, (below_set (below_set (below_set (below_set (below_set (below_alloc HB2.out _) (Nat.le_succ _)) (Nat.le_succ _)) (Nat.le_succ _)) (Nat.le_succ _)) (Nat.le_succ _))⟩
set_option maxHeartbeats 8000000 in
set_option maxRecDepth 100000 in
theorem prog_First.w_sssp_at (tag : ByteArray) (source steps v : Int) (w : World) (HK : ∀ W, Calls Try.prog 19 #[.string tag] W fun e w' => e = .returned (.bool true) ∧ Below W.heap.size W w') (ht : tag.toList = [115, 115, 115, 112]) (hs : v = source) :
  Calls Try.prog 17 #[.agg #[.string tag, .int .i64 source, .int .i64 steps], .int .i64 v] w fun e w' => e = .returned (.agg #[.int .i64 v, .int .i64 0, .bool true, .bool false, .int .i64 0]) ∧ Below w.heap.size w w' := by
 have hu1 := Try.underlying28
 have hu2 := Try.underlying26
 have z : (v != source) = false := bne_eq_false_iff_eq.mpr hs
 clear hs
 have t_max : (tag.toList == ([109, 97, 120] : List UInt8)) = false := by rw [ht]; rfl
 have t_label : (tag.toList == ([108, 97, 98, 101, 108] : List UInt8)) = false := by rw [ht]; rfl
 have t_bfs : (tag.toList == ([98, 102, 115] : List UInt8)) = false := by rw [ht]; rfl
 have t_sssp : (tag.toList == ([115, 115, 115, 112] : List UInt8)) = true := by rw [ht]; rfl
 clear ht
 go_enter Try.func17, Try.ntmps17
 go_wp2_with (fail)
 refine (HK _).mono ?_
 rintro e w2 ⟨rfl, hb⟩
 have BK := Aside0.mk (blk_below (heap_alloc2_new _ _ _) hb)
 have hsz : Aside0 (w.heap.size + 2 ≤ w2.heap.size) := ⟨by have := hb.size; simp at this; omega⟩
 have HB2 : Aside0 (Below w.heap.size w w2) := ⟨by
  refine Below.trans ?_ (hb.mono ?_)
  ·repeat (first | exact Below.refl _ _ | apply below_alloc | apply pw_below_drewN)
  ·simp; omega⟩
 have j0 := (hb.cell (p := ⟨w.heap.size, 0, none⟩) (by simp; omega)).trans (show _ = some (.string tag) by first | (go_simp; done) | (go_simp; rfl))
 have j1 := (hb.cell (p := ⟨w.heap.size, 1, none⟩) (by simp; omega)).trans (show _ = some (.int .i64 source) by first | (go_simp; done) | (go_simp; rfl))
 have i0 : ∀ o, (w2.alloc o).cell? ⟨w.heap.size, 0, none⟩ = some (.string tag) := fun o => Bridge.cell_old j0
 have i1 : ∀ o, (w2.alloc o).cell? ⟨w.heap.size, 1, none⟩ = some (.int .i64 source) := fun o => Bridge.cell_old j1
 have BA : ∀ o, Aside0 ((w2.alloc o).heap[w.heap.size + 1]? = some (.cells #[.int .i64 0, .int .i64 0, .bool false, .bool false, .int .i64 0] 28 (0, 0))) := fun o => ⟨blk_alloc BK.out o⟩
 have s0 : ∀ o, (w2.alloc o).cell? ⟨w.heap.size + 1, 0, none⟩ = some (.int .i64 0) := fun o => (blk_cell (BA o).out 0).trans rfl
 have s1 : ∀ o, (w2.alloc o).cell? ⟨w.heap.size + 1, 1, none⟩ = some (.int .i64 0) := fun o => (blk_cell (BA o).out 1).trans rfl
 have s2 : ∀ o, (w2.alloc o).cell? ⟨w.heap.size + 1, 2, none⟩ = some (.bool false) := fun o => (blk_cell (BA o).out 2).trans rfl
 have s3 : ∀ o, (w2.alloc o).cell? ⟨w.heap.size + 1, 3, none⟩ = some (.bool false) := fun o => (blk_cell (BA o).out 3).trans rfl
 have s4 : ∀ o, (w2.alloc o).cell? ⟨w.heap.size + 1, 4, none⟩ = some (.int .i64 0) := fun o => (blk_cell (BA o).out 4).trans rfl
 have f0 : ∀ o, (w2.alloc o).frozen? ⟨w.heap.size + 1, 0, none⟩ = false := fun o => blk_frozen (BA o).out 0
 have f1 : ∀ o, (w2.alloc o).frozen? ⟨w.heap.size + 1, 1, none⟩ = false := fun o => blk_frozen (BA o).out 1
 have f2 : ∀ o, (w2.alloc o).frozen? ⟨w.heap.size + 1, 2, none⟩ = false := fun o => blk_frozen (BA o).out 2
 have f3 : ∀ o, (w2.alloc o).frozen? ⟨w.heap.size + 1, 3, none⟩ = false := fun o => blk_frozen (BA o).out 3
 have f4 : ∀ o, (w2.alloc o).frozen? ⟨w.heap.size + 1, 4, none⟩ = false := fun o => blk_frozen (BA o).out 4
 have hne : (w.heap.size + 1 == w2.heap.size) = false := beq_eq_false_iff_ne.mpr (by have := hsz.out; omega)
 clear hb HK
 go_wp2
 refine bodyPost_ret (results_cell_row rfl _ _ (w.heap.size + 1) 28 #[.int .i64 v, .int .i64 0, .bool true, .bool false, .int .i64 0] (0, 0) _ rfl ?hg Try.underlying28 rfl (by kernel_rfl)) rfl ?_
 case hg => exact (blk_put (blk_put (blk_put (blk_put (blk_put (BA _).out 0 _ rfl) 1 _ rfl) 2 _ rfl) 3 _ rfl) 4 _ rfl)
 exact ⟨rfl, (below_set (below_set (below_set (below_set (below_set (below_alloc HB2.out _) (Nat.le_succ _)) (Nat.le_succ _)) (Nat.le_succ _)) (Nat.le_succ _)) (Nat.le_succ _))⟩
set_option maxHeartbeats 8000000 in
set_option maxRecDepth 100000 in
theorem prog_First.w_sssp (tag : ByteArray) (source steps v : Int) (w : World) (HK : ∀ W, Calls Try.prog 19 #[.string tag] W fun e w' => e = .returned (.bool true) ∧ Below W.heap.size W w') (ht : tag.toList = [115, 115, 115, 112]) (hs : ¬ v = source) :
  Calls Try.prog 17 #[.agg #[.string tag, .int .i64 source, .int .i64 steps], .int .i64 v] w fun e w' => e = .returned (.agg #[.int .i64 v, .int .i64 (-1), .bool true, .bool false, .int .i64 0]) ∧ Below w.heap.size w w' := by
 have hu1 := Try.underlying28
 have hu2 := Try.underlying26
 have z : (v != source) = true := bne_iff_ne.mpr hs
 clear hs
 have t_max : (tag.toList == ([109, 97, 120] : List UInt8)) = false := by rw [ht]; rfl
 have t_label : (tag.toList == ([108, 97, 98, 101, 108] : List UInt8)) = false := by rw [ht]; rfl
 have t_bfs : (tag.toList == ([98, 102, 115] : List UInt8)) = false := by rw [ht]; rfl
 have t_sssp : (tag.toList == ([115, 115, 115, 112] : List UInt8)) = true := by rw [ht]; rfl
 clear ht
 go_enter Try.func17, Try.ntmps17
 go_wp2_with (fail)
 refine (HK _).mono ?_
 rintro e w2 ⟨rfl, hb⟩
 have BK := Aside0.mk (blk_below (heap_alloc2_new _ _ _) hb)
 have hsz : Aside0 (w.heap.size + 2 ≤ w2.heap.size) := ⟨by have := hb.size; simp at this; omega⟩
 have HB2 : Aside0 (Below w.heap.size w w2) := ⟨by
  refine Below.trans ?_ (hb.mono ?_)
  ·repeat (first | exact Below.refl _ _ | apply below_alloc | apply pw_below_drewN)
  ·simp; omega⟩
 have j0 := (hb.cell (p := ⟨w.heap.size, 0, none⟩) (by simp; omega)).trans (show _ = some (.string tag) by first | (go_simp; done) | (go_simp; rfl))
 have j1 := (hb.cell (p := ⟨w.heap.size, 1, none⟩) (by simp; omega)).trans (show _ = some (.int .i64 source) by first | (go_simp; done) | (go_simp; rfl))
 have i0 : ∀ o, (w2.alloc o).cell? ⟨w.heap.size, 0, none⟩ = some (.string tag) := fun o => Bridge.cell_old j0
 have i1 : ∀ o, (w2.alloc o).cell? ⟨w.heap.size, 1, none⟩ = some (.int .i64 source) := fun o => Bridge.cell_old j1
 have BA : ∀ o, Aside0 ((w2.alloc o).heap[w.heap.size + 1]? = some (.cells #[.int .i64 0, .int .i64 0, .bool false, .bool false, .int .i64 0] 28 (0, 0))) := fun o => ⟨blk_alloc BK.out o⟩
 have s0 : ∀ o, (w2.alloc o).cell? ⟨w.heap.size + 1, 0, none⟩ = some (.int .i64 0) := fun o => (blk_cell (BA o).out 0).trans rfl
 have s1 : ∀ o, (w2.alloc o).cell? ⟨w.heap.size + 1, 1, none⟩ = some (.int .i64 0) := fun o => (blk_cell (BA o).out 1).trans rfl
 have s2 : ∀ o, (w2.alloc o).cell? ⟨w.heap.size + 1, 2, none⟩ = some (.bool false) := fun o => (blk_cell (BA o).out 2).trans rfl
 have s3 : ∀ o, (w2.alloc o).cell? ⟨w.heap.size + 1, 3, none⟩ = some (.bool false) := fun o => (blk_cell (BA o).out 3).trans rfl
 have s4 : ∀ o, (w2.alloc o).cell? ⟨w.heap.size + 1, 4, none⟩ = some (.int .i64 0) := fun o => (blk_cell (BA o).out 4).trans rfl
 have f0 : ∀ o, (w2.alloc o).frozen? ⟨w.heap.size + 1, 0, none⟩ = false := fun o => blk_frozen (BA o).out 0
 have f1 : ∀ o, (w2.alloc o).frozen? ⟨w.heap.size + 1, 1, none⟩ = false := fun o => blk_frozen (BA o).out 1
 have f2 : ∀ o, (w2.alloc o).frozen? ⟨w.heap.size + 1, 2, none⟩ = false := fun o => blk_frozen (BA o).out 2
 have f3 : ∀ o, (w2.alloc o).frozen? ⟨w.heap.size + 1, 3, none⟩ = false := fun o => blk_frozen (BA o).out 3
 have f4 : ∀ o, (w2.alloc o).frozen? ⟨w.heap.size + 1, 4, none⟩ = false := fun o => blk_frozen (BA o).out 4
 have hne : (w.heap.size + 1 == w2.heap.size) = false := beq_eq_false_iff_ne.mpr (by have := hsz.out; omega)
 clear hb HK
 go_wp2
 refine bodyPost_ret (results_cell_row rfl _ _ (w.heap.size + 1) 28 #[.int .i64 v, .int .i64 (-1), .bool true, .bool false, .int .i64 0] (0, 0) _ rfl ?hg Try.underlying28 rfl (by kernel_rfl)) rfl ?_
 case hg => exact (blk_put (blk_put (blk_put (blk_put (blk_put (BA _).out 0 _ rfl) 1 _ rfl) 2 _ rfl) 3 _ rfl) 4 _ rfl)
 exact ⟨rfl, (below_set (below_set (below_set (below_set (below_set (below_alloc HB2.out _) (Nat.le_succ _)) (Nat.le_succ _)) (Nat.le_succ _)) (Nat.le_succ _)) (Nat.le_succ _))⟩
set_option maxHeartbeats 8000000 in
set_option maxRecDepth 100000 in
theorem prog_First.w_rank (tag : ByteArray) (source steps v : Int) (w : World) (HK : ∀ W, Calls Try.prog 19 #[.string tag] W fun e w' => e = .returned (.bool true) ∧ Below W.heap.size W w') (ht : tag.toList = [114, 97, 110, 107]) :
  Calls Try.prog 17 #[.agg #[.string tag, .int .i64 source, .int .i64 steps], .int .i64 v] w fun e w' => e = .returned (.agg #[.int .i64 v, .int .i64 65536, .bool true, .bool false, .int .i64 0]) ∧ Below w.heap.size w w' := by
 have hu1 := Try.underlying28
 have hu2 := Try.underlying26
 have t_max : (tag.toList == ([109, 97, 120] : List UInt8)) = false := by rw [ht]; rfl
 have t_label : (tag.toList == ([108, 97, 98, 101, 108] : List UInt8)) = false := by rw [ht]; rfl
 have t_bfs : (tag.toList == ([98, 102, 115] : List UInt8)) = false := by rw [ht]; rfl
 have t_sssp : (tag.toList == ([115, 115, 115, 112] : List UInt8)) = false := by rw [ht]; rfl
 have t_rank : (tag.toList == ([114, 97, 110, 107] : List UInt8)) = true := by rw [ht]; rfl
 clear ht
 go_enter Try.func17, Try.ntmps17
 go_wp2_with (fail)
 refine (HK _).mono ?_
 rintro e w2 ⟨rfl, hb⟩
 have BK := Aside0.mk (blk_below (heap_alloc2_new _ _ _) hb)
 have hsz : Aside0 (w.heap.size + 2 ≤ w2.heap.size) := ⟨by have := hb.size; simp at this; omega⟩
 have HB2 : Aside0 (Below w.heap.size w w2) := ⟨by
  refine Below.trans ?_ (hb.mono ?_)
  ·repeat (first | exact Below.refl _ _ | apply below_alloc | apply pw_below_drewN)
  ·simp; omega⟩
 have j0 := (hb.cell (p := ⟨w.heap.size, 0, none⟩) (by simp; omega)).trans (show _ = some (.string tag) by first | (go_simp; done) | (go_simp; rfl))
 have j1 := (hb.cell (p := ⟨w.heap.size, 1, none⟩) (by simp; omega)).trans (show _ = some (.int .i64 source) by first | (go_simp; done) | (go_simp; rfl))
 have i0 : ∀ o, (w2.alloc o).cell? ⟨w.heap.size, 0, none⟩ = some (.string tag) := fun o => Bridge.cell_old j0
 have i1 : ∀ o, (w2.alloc o).cell? ⟨w.heap.size, 1, none⟩ = some (.int .i64 source) := fun o => Bridge.cell_old j1
 have BA : ∀ o, Aside0 ((w2.alloc o).heap[w.heap.size + 1]? = some (.cells #[.int .i64 0, .int .i64 0, .bool false, .bool false, .int .i64 0] 28 (0, 0))) := fun o => ⟨blk_alloc BK.out o⟩
 have s0 : ∀ o, (w2.alloc o).cell? ⟨w.heap.size + 1, 0, none⟩ = some (.int .i64 0) := fun o => (blk_cell (BA o).out 0).trans rfl
 have s1 : ∀ o, (w2.alloc o).cell? ⟨w.heap.size + 1, 1, none⟩ = some (.int .i64 0) := fun o => (blk_cell (BA o).out 1).trans rfl
 have s2 : ∀ o, (w2.alloc o).cell? ⟨w.heap.size + 1, 2, none⟩ = some (.bool false) := fun o => (blk_cell (BA o).out 2).trans rfl
 have s3 : ∀ o, (w2.alloc o).cell? ⟨w.heap.size + 1, 3, none⟩ = some (.bool false) := fun o => (blk_cell (BA o).out 3).trans rfl
 have s4 : ∀ o, (w2.alloc o).cell? ⟨w.heap.size + 1, 4, none⟩ = some (.int .i64 0) := fun o => (blk_cell (BA o).out 4).trans rfl
 have f0 : ∀ o, (w2.alloc o).frozen? ⟨w.heap.size + 1, 0, none⟩ = false := fun o => blk_frozen (BA o).out 0
 have f1 : ∀ o, (w2.alloc o).frozen? ⟨w.heap.size + 1, 1, none⟩ = false := fun o => blk_frozen (BA o).out 1
 have f2 : ∀ o, (w2.alloc o).frozen? ⟨w.heap.size + 1, 2, none⟩ = false := fun o => blk_frozen (BA o).out 2
 have f3 : ∀ o, (w2.alloc o).frozen? ⟨w.heap.size + 1, 3, none⟩ = false := fun o => blk_frozen (BA o).out 3
 have f4 : ∀ o, (w2.alloc o).frozen? ⟨w.heap.size + 1, 4, none⟩ = false := fun o => blk_frozen (BA o).out 4
 have hne : (w.heap.size + 1 == w2.heap.size) = false := beq_eq_false_iff_ne.mpr (by have := hsz.out; omega)
 clear hb HK
 go_wp2
 refine bodyPost_ret (results_cell_row rfl _ _ (w.heap.size + 1) 28 #[.int .i64 v, .int .i64 65536, .bool true, .bool false, .int .i64 0] (0, 0) _ rfl ?hg Try.underlying28 rfl (by kernel_rfl)) rfl ?_
 case hg => exact (blk_put (blk_put (blk_put (blk_put (blk_put (BA _).out 0 _ rfl) 1 _ rfl) 2 _ rfl) 3 _ rfl) 4 _ rfl)
 exact ⟨rfl, (below_set (below_set (below_set (below_set (below_set (below_alloc HB2.out _) (Nat.le_succ _)) (Nat.le_succ _)) (Nat.le_succ _)) (Nat.le_succ _)) (Nat.le_succ _))⟩
set_option maxHeartbeats 8000000 in
set_option maxRecDepth 100000 in
theorem prog_First.w_walks (tag : ByteArray) (source steps v : Int) (w : World) (HK : ∀ W, Calls Try.prog 19 #[.string tag] W fun e w' => e = .returned (.bool true) ∧ Below W.heap.size W w') (ht : tag.toList = [119, 97, 108, 107, 115]) :
  Calls Try.prog 17 #[.agg #[.string tag, .int .i64 source, .int .i64 steps], .int .i64 v] w fun e w' => e = .returned (.agg #[.int .i64 v, .int .i64 1, .bool true, .bool false, .int .i64 0]) ∧ Below w.heap.size w w' := by
 have hu1 := Try.underlying28
 have hu2 := Try.underlying26
 have t_max : (tag.toList == ([109, 97, 120] : List UInt8)) = false := by rw [ht]; rfl
 have t_label : (tag.toList == ([108, 97, 98, 101, 108] : List UInt8)) = false := by rw [ht]; rfl
 have t_bfs : (tag.toList == ([98, 102, 115] : List UInt8)) = false := by rw [ht]; rfl
 have t_sssp : (tag.toList == ([115, 115, 115, 112] : List UInt8)) = false := by rw [ht]; rfl
 have t_rank : (tag.toList == ([114, 97, 110, 107] : List UInt8)) = false := by rw [ht]; rfl
 have t_walks : (tag.toList == ([119, 97, 108, 107, 115] : List UInt8)) = true := by rw [ht]; rfl
 clear ht
 go_enter Try.func17, Try.ntmps17
 go_wp2_with (fail)
 refine (HK _).mono ?_
 rintro e w2 ⟨rfl, hb⟩
 have BK := Aside0.mk (blk_below (heap_alloc2_new _ _ _) hb)
 have hsz : Aside0 (w.heap.size + 2 ≤ w2.heap.size) := ⟨by have := hb.size; simp at this; omega⟩
 have HB2 : Aside0 (Below w.heap.size w w2) := ⟨by
  refine Below.trans ?_ (hb.mono ?_)
  ·repeat (first | exact Below.refl _ _ | apply below_alloc | apply pw_below_drewN)
  ·simp; omega⟩
 have j0 := (hb.cell (p := ⟨w.heap.size, 0, none⟩) (by simp; omega)).trans (show _ = some (.string tag) by first | (go_simp; done) | (go_simp; rfl))
 have j1 := (hb.cell (p := ⟨w.heap.size, 1, none⟩) (by simp; omega)).trans (show _ = some (.int .i64 source) by first | (go_simp; done) | (go_simp; rfl))
 have i0 : ∀ o, (w2.alloc o).cell? ⟨w.heap.size, 0, none⟩ = some (.string tag) := fun o => Bridge.cell_old j0
 have i1 : ∀ o, (w2.alloc o).cell? ⟨w.heap.size, 1, none⟩ = some (.int .i64 source) := fun o => Bridge.cell_old j1
 have BA : ∀ o, Aside0 ((w2.alloc o).heap[w.heap.size + 1]? = some (.cells #[.int .i64 0, .int .i64 0, .bool false, .bool false, .int .i64 0] 28 (0, 0))) := fun o => ⟨blk_alloc BK.out o⟩
 have s0 : ∀ o, (w2.alloc o).cell? ⟨w.heap.size + 1, 0, none⟩ = some (.int .i64 0) := fun o => (blk_cell (BA o).out 0).trans rfl
 have s1 : ∀ o, (w2.alloc o).cell? ⟨w.heap.size + 1, 1, none⟩ = some (.int .i64 0) := fun o => (blk_cell (BA o).out 1).trans rfl
 have s2 : ∀ o, (w2.alloc o).cell? ⟨w.heap.size + 1, 2, none⟩ = some (.bool false) := fun o => (blk_cell (BA o).out 2).trans rfl
 have s3 : ∀ o, (w2.alloc o).cell? ⟨w.heap.size + 1, 3, none⟩ = some (.bool false) := fun o => (blk_cell (BA o).out 3).trans rfl
 have s4 : ∀ o, (w2.alloc o).cell? ⟨w.heap.size + 1, 4, none⟩ = some (.int .i64 0) := fun o => (blk_cell (BA o).out 4).trans rfl
 have f0 : ∀ o, (w2.alloc o).frozen? ⟨w.heap.size + 1, 0, none⟩ = false := fun o => blk_frozen (BA o).out 0
 have f1 : ∀ o, (w2.alloc o).frozen? ⟨w.heap.size + 1, 1, none⟩ = false := fun o => blk_frozen (BA o).out 1
 have f2 : ∀ o, (w2.alloc o).frozen? ⟨w.heap.size + 1, 2, none⟩ = false := fun o => blk_frozen (BA o).out 2
 have f3 : ∀ o, (w2.alloc o).frozen? ⟨w.heap.size + 1, 3, none⟩ = false := fun o => blk_frozen (BA o).out 3
 have f4 : ∀ o, (w2.alloc o).frozen? ⟨w.heap.size + 1, 4, none⟩ = false := fun o => blk_frozen (BA o).out 4
 have hne : (w.heap.size + 1 == w2.heap.size) = false := beq_eq_false_iff_ne.mpr (by have := hsz.out; omega)
 clear hb HK
 go_wp2
 refine bodyPost_ret (results_cell_row rfl _ _ (w.heap.size + 1) 28 #[.int .i64 v, .int .i64 1, .bool true, .bool false, .int .i64 0] (0, 0) _ rfl ?hg Try.underlying28 rfl (by kernel_rfl)) rfl ?_
 case hg => exact (blk_put (blk_put (blk_put (blk_put (blk_put (BA _).out 0 _ rfl) 1 _ rfl) 2 _ rfl) 3 _ rfl) 4 _ rfl)
 exact ⟨rfl, (below_set (below_set (below_set (below_set (below_set (below_alloc HB2.out _) (Nat.le_succ _)) (Nat.le_succ _)) (Nat.le_succ _)) (Nat.le_succ _)) (Nat.le_succ _))⟩
set_option maxHeartbeats 8000000 in
set_option maxRecDepth 100000 in
theorem prog_First.w_else (tag : ByteArray) (source steps v : Int) (w : World) (HK : ∀ W, Calls Try.prog 19 #[.string tag] W fun e w' => e = .returned (.bool true) ∧ Below W.heap.size W w') (n0 : ¬ tag.toList = [109, 97, 120]) (n1 : ¬ tag.toList = [108, 97, 98, 101, 108]) (n2 : ¬ tag.toList = [98, 102, 115]) (n3 : ¬ tag.toList = [115, 115, 115, 112]) (n4 : ¬ tag.toList = [114, 97, 110, 107]) (n5 : ¬ tag.toList = [119, 97, 108, 107, 115]) :
  Calls Try.prog 17 #[.agg #[.string tag, .int .i64 source, .int .i64 steps], .int .i64 v] w fun e w' => e = .returned (.agg #[.int .i64 v, .int .i64 0, .bool true, .bool false, .int .i64 0]) ∧ Below w.heap.size w w' := by
 have hu1 := Try.underlying28
 have hu2 := Try.underlying26
 have t_max : (tag.toList == ([109, 97, 120] : List UInt8)) = false := beq_eq_false_iff_ne.mpr n0
 have t_label : (tag.toList == ([108, 97, 98, 101, 108] : List UInt8)) = false := beq_eq_false_iff_ne.mpr n1
 have t_bfs : (tag.toList == ([98, 102, 115] : List UInt8)) = false := beq_eq_false_iff_ne.mpr n2
 have t_sssp : (tag.toList == ([115, 115, 115, 112] : List UInt8)) = false := beq_eq_false_iff_ne.mpr n3
 have t_rank : (tag.toList == ([114, 97, 110, 107] : List UInt8)) = false := beq_eq_false_iff_ne.mpr n4
 have t_walks : (tag.toList == ([119, 97, 108, 107, 115] : List UInt8)) = false := beq_eq_false_iff_ne.mpr n5
 clear n0 n1 n2 n3 n4 n5
 go_enter Try.func17, Try.ntmps17
 go_wp2_with (fail)
 refine (HK _).mono ?_
 rintro e w2 ⟨rfl, hb⟩
 have BK := Aside0.mk (blk_below (heap_alloc2_new _ _ _) hb)
 have hsz : Aside0 (w.heap.size + 2 ≤ w2.heap.size) := ⟨by have := hb.size; simp at this; omega⟩
 have HB2 : Aside0 (Below w.heap.size w w2) := ⟨by
  refine Below.trans ?_ (hb.mono ?_)
  ·repeat (first | exact Below.refl _ _ | apply below_alloc | apply pw_below_drewN)
  ·simp; omega⟩
 have j0 := (hb.cell (p := ⟨w.heap.size, 0, none⟩) (by simp; omega)).trans (show _ = some (.string tag) by first | (go_simp; done) | (go_simp; rfl))
 have j1 := (hb.cell (p := ⟨w.heap.size, 1, none⟩) (by simp; omega)).trans (show _ = some (.int .i64 source) by first | (go_simp; done) | (go_simp; rfl))
 have i0 : ∀ o, (w2.alloc o).cell? ⟨w.heap.size, 0, none⟩ = some (.string tag) := fun o => Bridge.cell_old j0
 have i1 : ∀ o, (w2.alloc o).cell? ⟨w.heap.size, 1, none⟩ = some (.int .i64 source) := fun o => Bridge.cell_old j1
 have BA : ∀ o, Aside0 ((w2.alloc o).heap[w.heap.size + 1]? = some (.cells #[.int .i64 0, .int .i64 0, .bool false, .bool false, .int .i64 0] 28 (0, 0))) := fun o => ⟨blk_alloc BK.out o⟩
 have s0 : ∀ o, (w2.alloc o).cell? ⟨w.heap.size + 1, 0, none⟩ = some (.int .i64 0) := fun o => (blk_cell (BA o).out 0).trans rfl
 have s1 : ∀ o, (w2.alloc o).cell? ⟨w.heap.size + 1, 1, none⟩ = some (.int .i64 0) := fun o => (blk_cell (BA o).out 1).trans rfl
 have s2 : ∀ o, (w2.alloc o).cell? ⟨w.heap.size + 1, 2, none⟩ = some (.bool false) := fun o => (blk_cell (BA o).out 2).trans rfl
 have s3 : ∀ o, (w2.alloc o).cell? ⟨w.heap.size + 1, 3, none⟩ = some (.bool false) := fun o => (blk_cell (BA o).out 3).trans rfl
 have s4 : ∀ o, (w2.alloc o).cell? ⟨w.heap.size + 1, 4, none⟩ = some (.int .i64 0) := fun o => (blk_cell (BA o).out 4).trans rfl
 have f0 : ∀ o, (w2.alloc o).frozen? ⟨w.heap.size + 1, 0, none⟩ = false := fun o => blk_frozen (BA o).out 0
 have f1 : ∀ o, (w2.alloc o).frozen? ⟨w.heap.size + 1, 1, none⟩ = false := fun o => blk_frozen (BA o).out 1
 have f2 : ∀ o, (w2.alloc o).frozen? ⟨w.heap.size + 1, 2, none⟩ = false := fun o => blk_frozen (BA o).out 2
 have f3 : ∀ o, (w2.alloc o).frozen? ⟨w.heap.size + 1, 3, none⟩ = false := fun o => blk_frozen (BA o).out 3
 have f4 : ∀ o, (w2.alloc o).frozen? ⟨w.heap.size + 1, 4, none⟩ = false := fun o => blk_frozen (BA o).out 4
 have hne : (w.heap.size + 1 == w2.heap.size) = false := beq_eq_false_iff_ne.mpr (by have := hsz.out; omega)
 clear hb HK
 go_wp2
 refine bodyPost_ret (results_cell_row rfl _ _ (w.heap.size + 1) 28 #[.int .i64 v, .int .i64 0, .bool true, .bool false, .int .i64 0] (0, 0) _ rfl ?hg Try.underlying28 rfl (by kernel_rfl)) rfl ?_
 case hg => exact (blk_put (blk_put (blk_put (blk_put (blk_put (BA _).out 0 _ rfl) 1 _ rfl) 2 _ rfl) 3 _ rfl) 4 _ rfl)
 exact ⟨rfl, (below_set (below_set (below_set (below_set (below_set (below_alloc HB2.out _) (Nat.le_succ _)) (Nat.le_succ _)) (Nat.le_succ _)) (Nat.le_succ _)) (Nat.le_succ _))⟩
theorem prog_First.calls (a0_0 : ByteArray) (a0_1 : Int) (a0_2 : Int) (a1 : Int) (r1 : Int) (r2 : Int) (r3 : Bool) (r4 : Bool) (r5 : Int) (w : World) (h : prog_First.f a0_0 a0_1 a0_2 a1 = some (r1, r2, r3, r4, r5)) :
  Calls Try.prog 17 #[.agg #[.string a0_0, .int .i64 a0_1, .int .i64 a0_2], .int .i64 a1] w fun e w' => e = .returned (.agg #[.int .i64 r1, .int .i64 r2, .bool r3, .bool r4, .int .i64 r5]) ∧ Below w.heap.size w w' := by
 unfold prog_First.f at h
 by_cases hr : 0 ≤ a1 ∧ a1 ≤ 1048576
 ·rw [if_pos hr] at h
  obtain ⟨b, hk, h⟩ := Option.bind_eq_some_iff.mp h
  have HK := fun W => prog_Known.calls 20 a0_0 b W hk
  cases b with
  | false =>
   rw [if_neg (by decide)] at h
   simp only [Option.some.injEq, Prod.mk.injEq] at h
   obtain ⟨rfl, rfl, rfl, rfl, rfl⟩ := h
   exact prog_First.w_unknown a0_0 a0_1 a0_2 a1 w HK
  | true =>
   rw [if_pos rfl] at h
   simp only [Option.some.injEq, Prod.mk.injEq] at h
   obtain ⟨rfl, rfl, rfl, rfl, rfl⟩ := h
   unfold firstV
   by_cases n0 : a0_0.toList = [109, 97, 120]
   ·rw [if_pos n0]; exact prog_First.w_max a0_0 a0_1 a0_2 a1 w HK n0 hr
   rw [if_neg n0]
   by_cases n1 : a0_0.toList = [108, 97, 98, 101, 108]
   ·rw [if_pos n1]; exact prog_First.w_label a0_0 a0_1 a0_2 a1 w HK n1
   rw [if_neg n1]
   by_cases n2 : a0_0.toList = [98, 102, 115]
   ·rw [if_pos (by rw [n2]; rfl)]
    by_cases hs : a1 = a0_1
    ·rw [if_pos hs]; exact prog_First.w_bfs_at a0_0 a0_1 a0_2 a1 w HK n2 hs
    ·rw [if_neg hs]; exact prog_First.w_bfs a0_0 a0_1 a0_2 a1 w HK n2 hs
   by_cases n3 : a0_0.toList = [115, 115, 115, 112]
   ·rw [if_pos (by rw [n3]; rfl)]
    by_cases hs : a1 = a0_1
    ·rw [if_pos hs]; exact prog_First.w_sssp_at a0_0 a0_1 a0_2 a1 w HK n3 hs
    ·rw [if_neg hs]; exact prog_First.w_sssp a0_0 a0_1 a0_2 a1 w HK n3 hs
   rw [if_neg (by simp [beq_eq_false_iff_ne.mpr n2, beq_eq_false_iff_ne.mpr n3])]
   by_cases n4 : a0_0.toList = [114, 97, 110, 107]
   ·rw [if_pos n4]; exact prog_First.w_rank a0_0 a0_1 a0_2 a1 w HK n4
   rw [if_neg n4]
   by_cases n5 : a0_0.toList = [119, 97, 108, 107, 115]
   ·rw [if_pos n5]; exact prog_First.w_walks a0_0 a0_1 a0_2 a1 w HK n5
   rw [if_neg n5]
   exact prog_First.w_else a0_0 a0_1 a0_2 a1 w HK n0 n1 n2 n3 n4 n5
 ·rw [if_neg hr] at h
  cases h
end

end Go.Proofs.Ytdmihkffjbapjaa.P
