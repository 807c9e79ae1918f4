/- Printed by a program of this session (wip/myprint.py) over the print of the kit: what the Go functions of this seat compute, as Lean functions, and that they do; for the functions that take or make function values the contracts are by hand. No condition. -/
import Derived.Test.YtdmihkffjbapjaaPx0
import Derived.Test.YtdmihkffjbapjaaPx6
import Derived.Test.YtdmihkffjbapjaaPx9
import Derived.Test.YtdmihkffjbapjaaPx11
namespace Go.Proofs.Ytdmihkffjbapjaa.P
open Go.RowKit Go.Proofs.YtdmihkffjbapjaaW.PrintWords Go.Proofs.YtdmihkffjbapjaaW.PrintLast Go.Proofs.YtdmihkffjbapjaaW.PrintMore
attribute [local go_sem] max2_int min2_int max_two min_two max_three min_three max_four min_four   -- for this text's walks alone
set_option linter.unusedVariables false
set_option linter.unusedSimpArgs false
set_option linter.unnecessarySimpa false

/-! ### modillionlaw07_ProgMax: function 7 -/
def modillionlaw07_ProgMax.j0 : Nat → Int → Bool → Int → List (S46) → ByteArray → Int → Int → Int → Int → Bool → Bool → Int → Option (Bool)
  | 0, _, _, _, _, _, _, _, _, _, _, _, _ => none
  | k + 1, x2, x19, x282000, x282001, x283000, x283001, x283002, x284000, x284001, x284002, x284003, x284004 => if x19 = true then ((modillionlaw07_awake.f k).bind fun t285 => (some t285)) else ((modillionlaw07_own.f x282000 x282001).bind fun bt286 => ((prog_Step.f bt286.1 bt286.2 x283000 x283001 x283002 x2 x284000 x284001 x284002 x284003 x284004).bind fun bt290 => (if bt290.2.2.2.2.2.2 = 0 then (if x283000.toList = ([109, 97, 120] : List UInt8) then (some (decide (bt290.2.1 ≥ x284001))) else (if x283000.toList = ([108, 97, 98, 101, 108] : List UInt8) then (some (decide (bt290.2.1 ≤ x284001))) else (if x283000.toList = ([115, 115, 115, 112] : List UInt8) then (if bt290.2.1 ≤ x284001 then (some true) else (some (decide (x284001 < 0)))) else (if x283000.toList = ([98, 102, 115] : List UInt8) then (if bt290.2.1 ≤ x284001 then (some true) else (some (decide (x284001 < 0)))) else (some true))))) else (some true))))
def modillionlaw07_ProgMax.f (k : Nat) (a0_0 : Int) (l0_1 : List (S46)) (a1_0 : ByteArray) (a1_1 : Int) (a1_2 : Int) (a2 : Int) (a3_0 : Int) (a3_1 : Int) (a3_2 : Bool) (a3_3 : Bool) (a3_4 : Int) : Option (Bool) := (modillionlaw07_awake.f k).bind fun t284 => (if t284 = true then (modillionlaw07_ProgMax.j0 k a2 (decide ((l0_1.length : Int) > 100)) a0_0 l0_1 a1_0 a1_1 a1_2 a3_0 a3_1 a3_2 a3_3 a3_4) else (modillionlaw07_ProgMax.j0 k a2 true a0_0 l0_1 a1_0 a1_1 a1_2 a3_0 a3_1 a3_2 a3_3 a3_4))
theorem modillionlaw07_ProgMax.mono_l : ∀ k, (∀ y0 y1 y2 y3 y4 y5 y6 y7 y8 y9 y10 y11, LeO (modillionlaw07_ProgMax.j0 k y0 y1 y2 y3 y4 y5 y6 y7 y8 y9 y10 y11) (modillionlaw07_ProgMax.j0 (k + 1) y0 y1 y2 y3 y4 y5 y6 y7 y8 y9 y10 y11))
  | 0 => fun _ _ _ _ _ _ _ _ _ _ _ _ r h => by simp [modillionlaw07_ProgMax.j0] at h
  | k + 1 => by
    have ih0 := modillionlaw07_ProgMax.mono_l k
    · intro y0 y1 y2 y3 y4 y5 y6 y7 y8 y9 y10 y11
      unfold modillionlaw07_ProgMax.j0
      repeat' first
      | (with_reducible exact ih0 _ _ _ _ _ _ _ _ _ _ _ _)
      | (with_reducible exact modillionlaw07_awake.mono _)
      | (with_reducible exact LeO.refl _)
      | (with_reducible exact LeO.none _)
      | (with_reducible refine LeO.ite ?_ ?_)
      | (with_reducible refine LeO.bind ?_ (fun _ => ?_))
      | exact ih0 _ _ _ _ _ _ _ _ _ _ _ _
      | exact modillionlaw07_awake.mono _
      | exact LeO.none _
      | refine LeO.ite ?_ ?_
      | refine LeO.bind ?_ (fun _ => ?_)
theorem modillionlaw07_ProgMax.mono : ∀ a0 a1 a2 a3 a4 a5 a6 a7 a8 a9 a10 k, LeO (modillionlaw07_ProgMax.f k a0 a1 a2 a3 a4 a5 a6 a7 a8 a9 a10) (modillionlaw07_ProgMax.f (k + 1) a0 a1 a2 a3 a4 a5 a6 a7 a8 a9 a10) := by
  intro a0 a1 a2 a3 a4 a5 a6 a7 a8 a9 a10 k
  have ih0 := modillionlaw07_ProgMax.mono_l k
  unfold modillionlaw07_ProgMax.f
  repeat' first
      | (with_reducible exact ih0 _ _ _ _ _ _ _ _ _ _ _ _)
      | (with_reducible exact modillionlaw07_awake.mono _)
      | (with_reducible exact LeO.refl _)
      | (with_reducible exact LeO.none _)
      | (with_reducible refine LeO.ite ?_ ?_)
      | (with_reducible refine LeO.bind ?_ (fun _ => ?_))
      | exact ih0 _ _ _ _ _ _ _ _ _ _ _ _
      | exact modillionlaw07_awake.mono _
      | exact LeO.none _
      | refine LeO.ite ?_ ?_
      | refine LeO.bind ?_ (fun _ => ?_)
def modillionlaw07_ProgMax.T3 : Bool × List (List Nat × List Nat) := (true, [([], []), ([0], [0]), ([], []), ([], []), ([], []), ([1, 2, 3, 4, 1], [1, 2, 3, 4]), ([5], [5]), ([6], [6]), ([6], [6]), ([6], [6]), ([], []), ([10, 7, 5, 0, 1, 2, 3, 4, 5, 6, 7, 10], [7, 10]), ([8, 11, 0, 1, 2, 3, 4, 5, 6, 7, 8, 10, 11], [8]), ([9, 12, 0, 1, 2, 3, 4, 5, 6, 7, 8, 9, 10, 11, 12], [9])])
def modillionlaw07_ProgMax.B3 : List Nat := [0, 1, 0, 0, 0, 31, 63, 127, 127, 127, 0, 1279, 3583, 8191]
theorem modillionlaw07_ProgMax.tab3 : rtab .any (opsOf Try.f7 3) = modillionlaw07_ProgMax.T3 := by kernel_rfl
theorem modillionlaw07_ProgMax.bits3 : waitsOk modillionlaw07_ProgMax.T3.2 modillionlaw07_ProgMax.B3 = true := by kernel_rfl
set_option maxHeartbeats 8000000 in
set_option maxRecDepth 100000 in
theorem modillionlaw07_ProgMax.calls (k : Nat) (a0_0 : Int) (A0_1 : Option Addr) (c0_1 : Nat) (l0_1 : List (S46)) (a1_0 : ByteArray) (a1_1 : Int) (a1_2 : Int) (a2 : Int) (a3_0 : Int) (a3_1 : Int) (a3_2 : Bool) (a3_3 : Bool) (a3_4 : Int) (r : Bool) (w : World) (hr0_1 : Kd.C k46 w A0_1 l0_1.length l0_1) (hc0_1 : l0_1.length ≤ c0_1) (h : modillionlaw07_ProgMax.f k a0_0 l0_1 a1_0 a1_1 a1_2 a2 a3_0 a3_1 a3_2 a3_3 a3_4 = some r) :
    Calls Try.prog 7 #[.agg #[.int .i64 a0_0, .slice A0_1 l0_1.length c0_1], .agg #[.string a1_0, .int .i64 a1_1, .int .i64 a1_2], .int .i64 a2, .agg #[.int .i64 a3_0, .int .i64 a3_1, .bool a3_2, .bool a3_3, .int .i64 a3_4]] w fun e w' => e = .returned (.bool r) ∧ Below w.heap.size w w' := by
  have hu24 := Try.underlying24
  have hu26 := Try.underlying26
  have hu28 := Try.underlying28
  have HR0_1 := Aside0.mk hr0_1
  have HC0_1 := Aside0.mk hc0_1
  clear hr0_1 hc0_1
  have HB := Aside0.mk (Below.refl w.heap.size w)
  have H : ((modillionlaw07_awake.f k).bind fun t284 => (if t284 = true then (modillionlaw07_ProgMax.j0 k a2 (decide ((l0_1.length : Int) > 100)) a0_0 l0_1 a1_0 a1_1 a1_2 a3_0 a3_1 a3_2 a3_3 a3_4) else (modillionlaw07_ProgMax.j0 k a2 true a0_0 l0_1 a1_0 a1_1 a1_2 a3_0 a3_1 a3_2 a3_3 a3_4))) = some r := h
  clear h
  have HC5 := Aside0.mk H
  clear H
  go_enter Try.func7, Try.ntmps7
  go_upto_region 1 with (first | ((with_reducible refine gate_dst (N := 4) rfl ?_); (try (refine gate_guard (by rfl) ?_; dsimp only)); refine box_event ?hg (N := 4) ?hd (cs := #[.int .i64 a0_0, .slice A0_1 l0_1.length c0_1]) (t := 24) ?hr ?_; (case hd => rfl); (case hg => rfl); (case hr => first | (go_simp; done) | (go_simp; rfl)); intro gb281 hg w6 hbox hb; have n0_ := Aside0.mk (below_step (by repeat (first | (with_reducible first | exact HB.out | apply below_alloc | apply pw_below_drewN | apply below_drew1) | exact HB.out)) hb); have n1_ := Aside0.mk (hbox); have n2_ := Aside0.mk ((by rw [hg]; exact (below_size (by repeat (first | (with_reducible first | exact HB.out | apply below_alloc | apply pw_below_drewN | apply below_drew1) | exact HB.out))) : w.heap.size ≤ gb281)); have n3_ := Aside0.mk ((by rw [hg]; exact (below_size (by repeat (first | (with_reducible first | exact HB.out | apply below_alloc | apply pw_below_drewN | apply below_drew1) | exact HB.out))) : w.heap.size ≤ gb281)); clear HB; have HB := n0_; have BK281 := n1_; have GW281 := n2_; have GE281 := n3_; clear n0_ n1_ n2_ n3_; clear hb hbox hg) | ((with_reducible refine gate_dst (N := 5) rfl ?_); (try (refine gate_guard (by rfl) ?_; dsimp only)); refine box_event ?hg (N := 5) ?hd (cs := #[.string a1_0, .int .i64 a1_1, .int .i64 a1_2]) (t := 26) ?hr ?_; (case hd => rfl); (case hg => rfl); (case hr => first | (go_simp; done) | (go_simp; rfl)); intro gb282 hg w7 hbox hb; have n0_ := Aside0.mk (blk_below (g := gb281) (o := .cells #[.int .i64 a0_0, .slice A0_1 l0_1.length c0_1] 24 (0, 0)) (by (with_reducible repeat (first | refine blk_drewN ?_ _ | refine blk_drew ?_ | refine blk_alloc ?_ _)); exact BK281.out) hb); have n1_ := Aside0.mk (below_step (by repeat (first | (with_reducible first | exact HB.out | apply below_alloc | apply pw_below_drewN | apply below_drew1 | refine below_set ?_ GE281.out) | exact HB.out)) hb); have n2_ := Aside0.mk (hbox); have n3_ := Aside0.mk ((by rw [hg]; exact (below_size (by repeat (first | (with_reducible first | exact HB.out | apply below_alloc | apply pw_below_drewN | apply below_drew1 | refine below_set ?_ GE281.out) | exact HB.out))) : w.heap.size ≤ gb282)); have n4_ := Aside0.mk ((by rw [hg]; exact (below_size (by repeat (first | (with_reducible first | exact HB.out | apply below_alloc | apply pw_below_drewN | apply below_drew1 | refine below_set ?_ GE281.out) | exact HB.out))) : w.heap.size ≤ gb282)); have n5_ := Aside0.mk ((by rw [hg]; exact Nat.ne_of_lt (blk_lt (g := gb281) (o := .cells #[.int .i64 a0_0, .slice A0_1 l0_1.length c0_1] 24 (0, 0)) (by (with_reducible repeat (first | refine blk_drewN ?_ _ | refine blk_drew ?_ | refine blk_alloc ?_ _)); exact BK281.out)) : gb281 ≠ gb282)); have n6_ := Aside0.mk ((by rw [hg]; exact Nat.ne_of_gt (blk_lt (g := gb281) (o := .cells #[.int .i64 a0_0, .slice A0_1 l0_1.length c0_1] 24 (0, 0)) (by (with_reducible repeat (first | refine blk_drewN ?_ _ | refine blk_drew ?_ | refine blk_alloc ?_ _)); exact BK281.out)) : gb282 ≠ gb281)); clear BK281; clear HB; have BK281 := n0_; have HB := n1_; have BK282 := n2_; have GW282 := n3_; have GE282 := n4_; have NB281_282 := n5_; have NB282_281 := n6_; clear n0_ n1_ n2_ n3_ n4_ n5_ n6_; clear hb hbox hg) | ((with_reducible refine gate_dst (N := 7) rfl ?_); (try (refine gate_guard (by rfl) ?_; dsimp only)); refine box_event ?hg (N := 7) ?hd (cs := #[.int .i64 a3_0, .int .i64 a3_1, .bool a3_2, .bool a3_3, .int .i64 a3_4]) (t := 28) ?hr ?_; (case hd => rfl); (case hg => rfl); (case hr => first | (go_simp; done) | (go_simp; rfl)); intro gb283 hg w8 hbox hb; have n0_ := Aside0.mk (blk_below (g := gb281) (o := .cells #[.int .i64 a0_0, .slice A0_1 l0_1.length c0_1] 24 (0, 0)) (by (with_reducible repeat (first | refine blk_drewN ?_ _ | refine blk_drew ?_ | refine blk_alloc ?_ _)); exact BK281.out) hb); have n1_ := Aside0.mk (blk_below (g := gb282) (o := .cells #[.string a1_0, .int .i64 a1_1, .int .i64 a1_2] 26 (0, 0)) (by (with_reducible repeat (first | refine blk_drewN ?_ _ | refine blk_drew ?_ | refine blk_alloc ?_ _)); exact BK282.out) hb); have n2_ := Aside0.mk (below_step (by repeat (first | (with_reducible first | exact HB.out | apply below_alloc | apply pw_below_drewN | apply below_drew1 | refine below_set ?_ GE281.out | refine below_set ?_ GE282.out) | exact HB.out)) hb); have n3_ := Aside0.mk (hbox); have n4_ := Aside0.mk ((by rw [hg]; exact (below_size (by repeat (first | (with_reducible first | exact HB.out | apply below_alloc | apply pw_below_drewN | apply below_drew1 | refine below_set ?_ GE281.out | refine below_set ?_ GE282.out) | exact HB.out))) : w.heap.size ≤ gb283)); have n5_ := Aside0.mk ((by rw [hg]; exact (below_size (by repeat (first | (with_reducible first | exact HB.out | apply below_alloc | apply pw_below_drewN | apply below_drew1 | refine below_set ?_ GE281.out | refine below_set ?_ GE282.out) | exact HB.out))) : w.heap.size ≤ gb283)); have n6_ := Aside0.mk ((by rw [hg]; exact Nat.ne_of_lt (blk_lt (g := gb281) (o := .cells #[.int .i64 a0_0, .slice A0_1 l0_1.length c0_1] 24 (0, 0)) (by (with_reducible repeat (first | refine blk_drewN ?_ _ | refine blk_drew ?_ | refine blk_alloc ?_ _)); exact BK281.out)) : gb281 ≠ gb283)); have n7_ := Aside0.mk ((by rw [hg]; exact Nat.ne_of_gt (blk_lt (g := gb281) (o := .cells #[.int .i64 a0_0, .slice A0_1 l0_1.length c0_1] 24 (0, 0)) (by (with_reducible repeat (first | refine blk_drewN ?_ _ | refine blk_drew ?_ | refine blk_alloc ?_ _)); exact BK281.out)) : gb283 ≠ gb281)); have n8_ := Aside0.mk ((by rw [hg]; exact Nat.ne_of_lt (blk_lt (g := gb282) (o := .cells #[.string a1_0, .int .i64 a1_1, .int .i64 a1_2] 26 (0, 0)) (by (with_reducible repeat (first | refine blk_drewN ?_ _ | refine blk_drew ?_ | refine blk_alloc ?_ _)); exact BK282.out)) : gb282 ≠ gb283)); have n9_ := Aside0.mk ((by rw [hg]; exact Nat.ne_of_gt (blk_lt (g := gb282) (o := .cells #[.string a1_0, .int .i64 a1_1, .int .i64 a1_2] 26 (0, 0)) (by (with_reducible repeat (first | refine blk_drewN ?_ _ | refine blk_drew ?_ | refine blk_alloc ?_ _)); exact BK282.out)) : gb283 ≠ gb282)); clear BK281; clear BK282; clear HB; have BK281 := n0_; have BK282 := n1_; have HB := n2_; have BK283 := n3_; have GW283 := n4_; have GE283 := n5_; have NB281_283 := n6_; have NB283_281 := n7_; have NB282_283 := n8_; have NB283_282 := n9_; clear n0_ n1_ n2_ n3_ n4_ n5_ n6_ n7_ n8_ n9_; clear hb hbox hg))
  (try simp only [Act.put, List.setIfInBounds_toArray, List.set_cons_zero, List.set_cons_succ])
  go_cut [19] (fun v19 wc => ∃ (kq : Nat) (x19_4 : Bool), v19 = .bool x19_4 ∧ Aside0 (modillionlaw07_ProgMax.j0 kq a2 x19_4 a0_0 l0_1 a1_0 a1_1 a1_2 a3_0 a3_1 a3_2 a3_3 a3_4 = some r) ∧ Aside0 (kq ≤ k) ∧ Aside0 (wc.heap[gb281]? = some (.cells #[.int .i64 a0_0, (.slice A0_1 l0_1.length c0_1)] 24 (0, 0))) ∧ Aside0 (wc.heap[gb282]? = some (.cells #[.string a1_0, .int .i64 a1_1, .int .i64 a1_2] 26 (0, 0))) ∧ Aside0 (wc.heap[gb283]? = some (.cells #[.int .i64 a3_0, .int .i64 a3_1, .bool a3_2, .bool a3_3, .int .i64 a3_4] 28 (0, 0))) ∧ Aside0 (Below w.heap.size w wc))
  case first =>
    have H := HC5.out
    clear HC5
    replace H := Option.bind_eq_some_iff.mp H
    obtain ⟨t284, A90, H⟩ := H
    replace H : (if t284 = true then (modillionlaw07_ProgMax.j0 k a2 (decide ((l0_1.length : Int) > 100)) a0_0 l0_1 a1_0 a1_1 a1_2 a3_0 a3_1 a3_2 a3_3 a3_4) else (modillionlaw07_ProgMax.j0 k a2 true a0_0 l0_1 a1_0 a1_1 a1_2 a3_0 a3_1 a3_2 a3_3 a3_4)) = some r := H
    have A9 := Aside0.mk A90
    clear A90
    by_cases c10 : t284 = true
    · subst c10
      have H1 : (modillionlaw07_ProgMax.j0 k a2 (decide ((l0_1.length : Int) > 100)) a0_0 l0_1 a1_0 a1_1 a1_2 a3_0 a3_1 a3_2 a3_3 a3_4) = some r := by rw [if_pos rfl] at H; exact H
      clear H
      have H := H1
      clear H1
      have H' := Aside0.mk H
      clear H
      go_wp2_with (first | ((with_reducible refine gate_callee (f := 10) rfl ?_); refine goesL_ (some 12) rfl rfl Try.func10 (by kernel_rfl) rfl #[] rfl (by (try simp only [List.map_toArray, List.map_cons, List.map_nil]); first | done | rfl | (simp only [List.length_drop, List.length_take]; rfl)) ?_; (with_reducible refine (modillionlaw07_awake.calls k  true _ A9.out).mono ?_); rintro e w11 ⟨rfl, hb⟩; refine ⟨_, rfl, ?_⟩; have n0_ := Aside0.mk (blk_below (g := gb281) (o := .cells #[.int .i64 a0_0, .slice A0_1 l0_1.length c0_1] 24 (0, 0)) (by (with_reducible repeat (first | refine blk_drewN ?_ _ | refine blk_drew ?_ | refine blk_alloc ?_ _)); exact BK281.out) hb); have n1_ := Aside0.mk (blk_below (g := gb282) (o := .cells #[.string a1_0, .int .i64 a1_1, .int .i64 a1_2] 26 (0, 0)) (by (with_reducible repeat (first | refine blk_drewN ?_ _ | refine blk_drew ?_ | refine blk_alloc ?_ _)); exact BK282.out) hb); have n2_ := Aside0.mk (blk_below (g := gb283) (o := .cells #[.int .i64 a3_0, .int .i64 a3_1, .bool a3_2, .bool a3_3, .int .i64 a3_4] 28 (0, 0)) (by (with_reducible repeat (first | refine blk_drewN ?_ _ | refine blk_drew ?_ | refine blk_alloc ?_ _)); exact BK283.out) hb); have n3_ := Aside0.mk (below_step (by repeat (first | (with_reducible first | exact HB.out | apply below_alloc | apply pw_below_drewN | apply below_drew1 | refine below_set ?_ GE281.out | refine below_set ?_ GE282.out | refine below_set ?_ GE283.out) | exact HB.out)) hb); clear BK281; clear BK282; clear BK283; clear HB; have BK281 := n0_; have BK282 := n1_; have BK283 := n2_; have HB := n3_; clear n0_ n1_ n2_ n3_; (try clear hb); (try clear hb2); (try clear hk); (try clear hi); have hnb12 := NB281_282.out; have hnc12 := NB282_281.out; have hnb13 := NB281_283.out; have hnc13 := NB283_281.out; have hcz14_0 : w11.cell? ⟨gb281, 0, none⟩ = some (.int .i64 a0_0) := (blk_cell BK281.out 0).trans rfl; have hcz14_1 : w11.cell? ⟨gb281, 1, none⟩ = some (.slice A0_1 l0_1.length c0_1) := (blk_cell BK281.out 1).trans rfl; have hfz14_0 := blk_frozen BK281.out 0; have hfz14_1 := blk_frozen BK281.out 1))
      go_meet
      case rel => exact ⟨_, (decide ((l0_1.length : Int) > 100)), (by first | rfl | (simp; done) | (simp [*]; done)), H', ⟨by first | omega | exact Nat.le_refl _⟩, ⟨by (with_reducible repeat (first | refine blk_drewN ?_ _ | refine blk_drew ?_ | refine blk_alloc ?_ _)); exact BK281.out⟩, ⟨by (with_reducible repeat (first | refine blk_drewN ?_ _ | refine blk_drew ?_ | refine blk_alloc ?_ _)); exact BK282.out⟩, ⟨by (with_reducible repeat (first | refine blk_drewN ?_ _ | refine blk_drew ?_ | refine blk_alloc ?_ _)); exact BK283.out⟩, ⟨by repeat (first | (with_reducible first | exact HB.out | apply below_alloc | apply pw_below_drewN | apply below_drew1 | refine below_set ?_ GE281.out | refine below_set ?_ GE282.out | refine below_set ?_ GE283.out) | exact HB.out)⟩⟩
    · replace c10 := Bool.eq_false_iff.mpr c10
      subst c10
      have H1 : (modillionlaw07_ProgMax.j0 k a2 true a0_0 l0_1 a1_0 a1_1 a1_2 a3_0 a3_1 a3_2 a3_3 a3_4) = some r := by rw [if_neg (show ¬ (false = true) by decide)] at H; exact H
      clear H
      have H := H1
      clear H1
      have H' := Aside0.mk H
      clear H
      go_wp2_with (first | ((with_reducible refine gate_callee (f := 10) rfl ?_); refine goesL_ (some 12) rfl rfl Try.func10 (by kernel_rfl) rfl #[] rfl (by (try simp only [List.map_toArray, List.map_cons, List.map_nil]); first | done | rfl | (simp only [List.length_drop, List.length_take]; rfl)) ?_; (with_reducible refine (modillionlaw07_awake.calls k  false _ A9.out).mono ?_); rintro e w15 ⟨rfl, hb⟩; refine ⟨_, rfl, ?_⟩; have n0_ := Aside0.mk (blk_below (g := gb281) (o := .cells #[.int .i64 a0_0, .slice A0_1 l0_1.length c0_1] 24 (0, 0)) (by (with_reducible repeat (first | refine blk_drewN ?_ _ | refine blk_drew ?_ | refine blk_alloc ?_ _)); exact BK281.out) hb); have n1_ := Aside0.mk (blk_below (g := gb282) (o := .cells #[.string a1_0, .int .i64 a1_1, .int .i64 a1_2] 26 (0, 0)) (by (with_reducible repeat (first | refine blk_drewN ?_ _ | refine blk_drew ?_ | refine blk_alloc ?_ _)); exact BK282.out) hb); have n2_ := Aside0.mk (blk_below (g := gb283) (o := .cells #[.int .i64 a3_0, .int .i64 a3_1, .bool a3_2, .bool a3_3, .int .i64 a3_4] 28 (0, 0)) (by (with_reducible repeat (first | refine blk_drewN ?_ _ | refine blk_drew ?_ | refine blk_alloc ?_ _)); exact BK283.out) hb); have n3_ := Aside0.mk (below_step (by repeat (first | (with_reducible first | exact HB.out | apply below_alloc | apply pw_below_drewN | apply below_drew1 | refine below_set ?_ GE281.out | refine below_set ?_ GE282.out | refine below_set ?_ GE283.out) | exact HB.out)) hb); clear BK281; clear BK282; clear BK283; clear HB; have BK281 := n0_; have BK282 := n1_; have BK283 := n2_; have HB := n3_; clear n0_ n1_ n2_ n3_; (try clear hb); (try clear hb2); (try clear hk); (try clear hi)))
      go_meet
      case rel => exact ⟨_, (true), (by first | rfl | (simp; done) | (simp [*]; done)), H', ⟨by first | omega | exact Nat.le_refl _⟩, ⟨by (with_reducible repeat (first | refine blk_drewN ?_ _ | refine blk_drew ?_ | refine blk_alloc ?_ _)); exact BK281.out⟩, ⟨by (with_reducible repeat (first | refine blk_drewN ?_ _ | refine blk_drew ?_ | refine blk_alloc ?_ _)); exact BK282.out⟩, ⟨by (with_reducible repeat (first | refine blk_drewN ?_ _ | refine blk_drew ?_ | refine blk_alloc ?_ _)); exact BK283.out⟩, ⟨by repeat (first | (with_reducible first | exact HB.out | apply below_alloc | apply pw_below_drewN | apply below_drew1 | refine below_set ?_ GE281.out | refine below_set ?_ GE282.out | refine below_set ?_ GE283.out) | exact HB.out)⟩⟩
  case rest =>
    clear HC5
    try clear c1
    try clear p2
    try clear c7
    try clear c10
    try clear c12
    try clear c13
    try clear hcz14_0
    try clear hcz14_1
    try clear hfz14_0
    try clear hfz14_1
    obtain ⟨kq, x19_4, rfl, HA, HJ4, BK281, BK282, BK283, HB⟩ := hcut
    cases kq with
    | zero => exact absurd HA.out (by simp [modillionlaw07_ProgMax.j0])
    | succ kj4 =>
      have H := HA.out
      clear HA
      simp only [modillionlaw07_ProgMax.j0] at H
      by_cases c16 : x19_4 = true
      · subst c16
        have H1 : ((modillionlaw07_awake.f kj4).bind fun t285 => (some t285)) = some r := by rw [if_pos rfl] at H; exact H
        clear H
        have H := H1
        clear H1
        replace H := Option.bind_eq_some_iff.mp H
        obtain ⟨t285, A170, H⟩ := H
        replace H : (some t285) = some r := H
        have A17 := Aside0.mk A170
        clear A170
        obtain rfl := Option.some.inj H
        go_wp2_with (first | ((with_reducible refine gate_callee (f := 10) rfl ?_); refine goesL_ (some 20) rfl rfl Try.func10 (by kernel_rfl) rfl #[] rfl (by (try simp only [List.map_toArray, List.map_cons, List.map_nil]); first | done | rfl | (simp only [List.length_drop, List.length_take]; rfl)) ?_; (with_reducible refine (modillionlaw07_awake.calls kj4  t285 _ A17.out).mono ?_); rintro e w18 ⟨rfl, hb⟩; refine ⟨_, rfl, ?_⟩; have n0_ := Aside0.mk (blk_below (g := gb281) (o := .cells #[.int .i64 a0_0, .slice A0_1 l0_1.length c0_1] 24 (0, 0)) (by (with_reducible repeat (first | refine blk_drewN ?_ _ | refine blk_drew ?_ | refine blk_alloc ?_ _)); exact BK281.out) hb); have n1_ := Aside0.mk (blk_below (g := gb282) (o := .cells #[.string a1_0, .int .i64 a1_1, .int .i64 a1_2] 26 (0, 0)) (by (with_reducible repeat (first | refine blk_drewN ?_ _ | refine blk_drew ?_ | refine blk_alloc ?_ _)); exact BK282.out) hb); have n2_ := Aside0.mk (blk_below (g := gb283) (o := .cells #[.int .i64 a3_0, .int .i64 a3_1, .bool a3_2, .bool a3_3, .int .i64 a3_4] 28 (0, 0)) (by (with_reducible repeat (first | refine blk_drewN ?_ _ | refine blk_drew ?_ | refine blk_alloc ?_ _)); exact BK283.out) hb); have n3_ := Aside0.mk (below_step (by repeat (first | (with_reducible first | exact HB.out | apply below_alloc | apply pw_below_drewN | apply below_drew1 | refine below_set ?_ GE281.out | refine below_set ?_ GE282.out | refine below_set ?_ GE283.out) | exact HB.out)) hb); clear BK281; clear BK282; clear BK283; clear HB; have BK281 := n0_; have BK282 := n1_; have BK283 := n2_; have HB := n3_; clear n0_ n1_ n2_ n3_; (try clear hb); (try clear hb2); (try clear hk); (try clear hi)))
        go_ret
        exact ⟨by first | rfl | (simp [errW_none, errW_some] <;> rfl) | (simp [*, errW_none, errW_some] <;> rfl), by repeat (first | (with_reducible first | exact HB.out | apply below_alloc | apply pw_below_drewN | apply below_drew1 | refine below_set ?_ GE281.out | refine below_set ?_ GE282.out | refine below_set ?_ GE283.out) | exact HB.out)⟩
      · replace c16 := Bool.eq_false_iff.mpr c16
        subst c16
        have H1 : ((modillionlaw07_own.f a0_0 l0_1).bind fun bt286 => ((prog_Step.f bt286.1 bt286.2 a1_0 a1_1 a1_2 a2 a3_0 a3_1 a3_2 a3_3 a3_4).bind fun bt290 => (if bt290.2.2.2.2.2.2 = 0 then (if a1_0.toList = ([109, 97, 120] : List UInt8) then (some (decide (bt290.2.1 ≥ a3_1))) else (if a1_0.toList = ([108, 97, 98, 101, 108] : List UInt8) then (some (decide (bt290.2.1 ≤ a3_1))) else (if a1_0.toList = ([115, 115, 115, 112] : List UInt8) then (if bt290.2.1 ≤ a3_1 then (some true) else (some (decide (a3_1 < 0)))) else (if a1_0.toList = ([98, 102, 115] : List UInt8) then (if bt290.2.1 ≤ a3_1 then (some true) else (some (decide (a3_1 < 0)))) else (some true))))) else (some true)))) = some r := by rw [if_neg (show ¬ (false = true) by decide)] at H; exact H
        clear H
        have H := H1
        clear H1
        replace H := Option.bind_eq_some_iff.mp H
        obtain ⟨⟨t286, t287⟩, A190, H⟩ := H
        replace H : ((prog_Step.f t286 t287 a1_0 a1_1 a1_2 a2 a3_0 a3_1 a3_2 a3_3 a3_4).bind fun bt290 => (if bt290.2.2.2.2.2.2 = 0 then (if a1_0.toList = ([109, 97, 120] : List UInt8) then (some (decide (bt290.2.1 ≥ a3_1))) else (if a1_0.toList = ([108, 97, 98, 101, 108] : List UInt8) then (some (decide (bt290.2.1 ≤ a3_1))) else (if a1_0.toList = ([115, 115, 115, 112] : List UInt8) then (if bt290.2.1 ≤ a3_1 then (some true) else (some (decide (a3_1 < 0)))) else (if a1_0.toList = ([98, 102, 115] : List UInt8) then (if bt290.2.1 ≤ a3_1 then (some true) else (some (decide (a3_1 < 0)))) else (some true))))) else (some true))) = some r := H
        have A19 := Aside0.mk A190
        clear A190
        replace H := Option.bind_eq_some_iff.mp H
        obtain ⟨⟨t290, t291, t292, t293, t294, t295, t298⟩, A200, H⟩ := H
        replace H : (if t298 = 0 then (if a1_0.toList = ([109, 97, 120] : List UInt8) then (some (decide (t291 ≥ a3_1))) else (if a1_0.toList = ([108, 97, 98, 101, 108] : List UInt8) then (some (decide (t291 ≤ a3_1))) else (if a1_0.toList = ([115, 115, 115, 112] : List UInt8) then (if t291 ≤ a3_1 then (some true) else (some (decide (a3_1 < 0)))) else (if a1_0.toList = ([98, 102, 115] : List UInt8) then (if t291 ≤ a3_1 then (some true) else (some (decide (a3_1 < 0)))) else (some true))))) else (some true)) = some r := H
        have A20 := Aside0.mk A200
        clear A200
        have HH_ := Aside0.mk H
        clear H
        try go_wp2
        have n0_ := Aside0.mk (blk_drew BK281.out)
        have n1_ := Aside0.mk (blk_drew BK282.out)
        have n2_ := Aside0.mk (blk_drew BK283.out)
        have n3_ := Aside0.mk (below_drew1 HB.out)
        clear BK281
        clear BK282
        clear BK283
        clear HB
        have BK281 := n0_
        have BK282 := n1_
        have BK283 := n2_
        have HB := n3_
        clear n0_ n1_ n2_ n3_
        refine start_ (n := 14) (S := fun w' => w'.cell? ⟨gb281, 0, none⟩ = some (.int .i64 a0_0) ∧ w'.cell? ⟨gb281, 1, none⟩ = some (.slice A0_1 l0_1.length c0_1) ∧ w'.cell? ⟨gb282, 0, none⟩ = some (.string a1_0) ∧ w'.cell? ⟨gb282, 1, none⟩ = some (.int .i64 a1_1) ∧ w'.cell? ⟨gb282, 2, none⟩ = some (.int .i64 a1_2) ∧ w'.cell? ⟨gb283, 0, none⟩ = some (.int .i64 a3_0) ∧ w'.cell? ⟨gb283, 1, none⟩ = some (.int .i64 a3_1) ∧ w'.cell? ⟨gb283, 2, none⟩ = some (.bool a3_2) ∧ w'.cell? ⟨gb283, 3, none⟩ = some (.bool a3_3) ∧ w'.cell? ⟨gb283, 4, none⟩ = some (.int .i64 a3_4)) (ds := []) #[false, false, false, false, false, false, false, false, false, false, false, false, false, false] (by kernel_rfl) rfl rfl ⟨(blk_cell BK281.out 0).trans rfl, (blk_cell BK281.out 1).trans rfl, (blk_cell BK282.out 0).trans rfl, (blk_cell BK282.out 1).trans rfl, (blk_cell BK282.out 2).trans rfl, (blk_cell BK283.out 0).trans rfl, (blk_cell BK283.out 1).trans rfl, (blk_cell BK283.out 2).trans rfl, (blk_cell BK283.out 3).trans rfl, (blk_cell BK283.out 4).trans rfl⟩ (fun hHeld => ?_); refine with_tabW modillionlaw07_ProgMax.tab3 modillionlaw07_ProgMax.bits3 (fun HT_ HW_ => ?_)
        generalize wc.drew = w23 at BK281 BK282 BK283 HB hHeld ⊢
        refine pure_ (i := 3) (N := some 25) (v := ?_) (a' := ?_) #[false, false, false, true, false, false, false, false, false, false, false, false, false, false] rfl rfl (any_of HT_.out (by kernel_rfl)) (fun _ _ _ h => h) (Or.inl ⟨by rfl, ?_⟩) ?_ ?_
        rotate_left
        · intro w'
          go_simp
          with_reducible rfl
        rotate_left
        · simp only [Act.put, List.setIfInBounds_toArray, List.set_cons_zero, List.set_cons_succ, i64_w, i32_w]
          rfl
        refine take_ (i := 0) (N := some 22) (v := ?_) (a' := ?_) #[true, false, false, true, false, false, false, false, false, false, false, false, false, false] rfl rfl (take_ofW HT_.out HW_.out (by kernel_rfl)) (fun _ _ _ h => h) (Or.inl ⟨by rfl, ?_⟩) hHeld ?_ ?_
        rotate_left
        · rintro w' ⟨s0, s1, s2, s3, s4, s5, s6, s7, s8, s9⟩
          go_simp
          with_reducible rfl
        rotate_left
        · simp only [Act.put, List.setIfInBounds_toArray, List.set_cons_zero, List.set_cons_succ, i64_w, i32_w]
          rfl
        refine take_ (i := 2) (N := some 24) (v := ?_) (a' := ?_) #[true, false, true, true, false, false, false, false, false, false, false, false, false, false] rfl rfl (take_ofW HT_.out HW_.out (by kernel_rfl)) (fun _ _ _ h => h) (Or.inl ⟨by rfl, ?_⟩) hHeld ?_ ?_
        rotate_left
        · rintro w' ⟨s0, s1, s2, s3, s4, s5, s6, s7, s8, s9⟩
          go_simp
          with_reducible rfl
        rotate_left
        · simp only [Act.put, List.setIfInBounds_toArray, List.set_cons_zero, List.set_cons_succ, i64_w, i32_w]
          rfl
        refine take_ (i := 4) (N := some 26) (v := ?_) (a' := ?_) #[true, false, true, true, true, false, false, false, false, false, false, false, false, false] rfl rfl (take_ofW HT_.out HW_.out (by kernel_rfl)) (fun _ _ _ h => h) (Or.inl ⟨by rfl, ?_⟩) hHeld ?_ ?_
        rotate_left
        · rintro w' ⟨s0, s1, s2, s3, s4, s5, s6, s7, s8, s9⟩
          go_simp
          with_reducible rfl
        rotate_left
        · simp only [Act.put, List.setIfInBounds_toArray, List.set_cons_zero, List.set_cons_succ, i64_w, i32_w]
          rfl
        refine join_ (σ := Value × Value × Nat) 3 #[true, true, true, true, true, true, true, true, true, true, true, false, false, false] (fun s_ => [(23, .agg #[.int .i64 t286, s_.1]), (27, .tuple #[.agg #[.int .i64 t290, .int .i64 t291, .bool t292, .bool t293, .int .i64 t294], s_.2.1, .int .i64 t298]), (9, .pointer (some ⟨s_.2.2, 0, none⟩)), (21, .tuple #[.agg #[.int .i64 t290, .int .i64 t291, .bool t292, .bool t293, .int .i64 t294], s_.2.1, .int .i64 t298]), (28, .agg #[.int .i64 t290, .int .i64 t291, .bool t292, .bool t293, .int .i64 t294]), (29, s_.2.1), (30, .int .i64 t298)]) (fun s_ w' => (w'.cell? ⟨gb281, 0, none⟩ = some (.int .i64 a0_0) ∧ w'.cell? ⟨gb281, 1, none⟩ = some (.slice A0_1 l0_1.length c0_1) ∧ w'.cell? ⟨gb282, 0, none⟩ = some (.string a1_0) ∧ w'.cell? ⟨gb282, 1, none⟩ = some (.int .i64 a1_1) ∧ w'.cell? ⟨gb282, 2, none⟩ = some (.int .i64 a1_2) ∧ w'.cell? ⟨gb283, 0, none⟩ = some (.int .i64 a3_0) ∧ w'.cell? ⟨gb283, 1, none⟩ = some (.int .i64 a3_1) ∧ w'.cell? ⟨gb283, 2, none⟩ = some (.bool a3_2) ∧ w'.cell? ⟨gb283, 3, none⟩ = some (.bool a3_3) ∧ w'.cell? ⟨gb283, 4, none⟩ = some (.int .i64 a3_4)) ∧ (Kd.R k46 46 w' w.heap.size (fun _ => True) s_.1 t287) ∧ (Kd.R k48 48 w' w.heap.size (fun _ => True) s_.2.1 t295) ∧ (w'.heap[gb281]? = some (.cells #[.int .i64 a0_0, .slice A0_1 l0_1.length c0_1] 24 (0, 0))) ∧ (w'.heap[gb282]? = some (.cells #[.string a1_0, .int .i64 a1_1, .int .i64 a1_2] 26 (0, 0))) ∧ (w'.heap[gb283]? = some (.cells #[.int .i64 a3_0, .int .i64 a3_1, .bool a3_2, .bool a3_3, .int .i64 a3_4] 28 (0, 0))) ∧ (w'.heap[s_.2.2]? = some (.cells #[.int .i64 0, .int .i64 0, .bool false, .bool false, .int .i64 0] 28 (0, 0))) ∧ (w.heap.size ≤ s_.2.2) ∧ (w.heap.size ≤ s_.2.2) ∧ (gb281 ≠ s_.2.2) ∧ (s_.2.2 ≠ gb281) ∧ (gb282 ≠ s_.2.2) ∧ (s_.2.2 ≠ gb282) ∧ (gb283 ≠ s_.2.2) ∧ (s_.2.2 ≠ gb283) ∧ (Below w.heap.size w w')) ?_ ?_
        rotate_left
        · intro hCont
          refine two_ (i := 1) (j := 10) (Ni := some 23) (Nj := some 9) #[true, true, true, true, true, false, false, false, false, false, false, false, false, false] #[true, false, true, true, true, false, false, false, false, false, true, false, false, false] rfl rfl rfl rfl (two_of HT_.out (by kernel_rfl)) (by decide) (by decide) (fun K hK => ?_) (fun K hK => ?_)
          · skip
            refine goes_ Try.func13 (by kernel_rfl) rfl #[.agg #[.int .i64 a0_0, .slice A0_1 l0_1.length c0_1]] (by rfl) rfl rfl (by (try simp only [List.map_toArray, List.map_cons, List.map_nil]); first | done | rfl | (simp only [List.length_drop, List.length_take]; rfl)) ?_
            with_reducible refine (modillionlaw07_own.calls a0_0 _ _ l0_1 t286 t287 _ ?side1 ?side2 A19.out).mono ?_
            (case side1 => repeat (first | exact (Kd.C_below HR0_1.out HB.out) | (with_reducible refine Kd.C_alloc ?_ _) | (with_reducible refine Kd.C_drewN ?_ _) | (with_reducible refine Kd.C_drew ?_)))
            (case side2 => exact HC0_1.out)
            rintro e w24 ⟨v288, rfl, ho0, hb⟩
            refine ⟨_, rfl, ?_⟩
            have n0_ := Aside0.mk (Kd.R_lower ho0 (below_size (by repeat (first | (with_reducible first | exact HB.out | apply below_alloc | apply pw_below_drewN | apply below_drew1 | refine below_set ?_ GE281.out | refine below_set ?_ GE282.out | refine below_set ?_ GE283.out) | exact HB.out))))
            have n1_ := Aside0.mk (blk_below (g := gb281) (o := .cells #[.int .i64 a0_0, .slice A0_1 l0_1.length c0_1] 24 (0, 0)) (by (with_reducible repeat (first | refine blk_drewN ?_ _ | refine blk_drew ?_ | refine blk_alloc ?_ _)); exact BK281.out) hb)
            have n2_ := Aside0.mk (blk_below (g := gb282) (o := .cells #[.string a1_0, .int .i64 a1_1, .int .i64 a1_2] 26 (0, 0)) (by (with_reducible repeat (first | refine blk_drewN ?_ _ | refine blk_drew ?_ | refine blk_alloc ?_ _)); exact BK282.out) hb)
            have n3_ := Aside0.mk (blk_below (g := gb283) (o := .cells #[.int .i64 a3_0, .int .i64 a3_1, .bool a3_2, .bool a3_3, .int .i64 a3_4] 28 (0, 0)) (by (with_reducible repeat (first | refine blk_drewN ?_ _ | refine blk_drew ?_ | refine blk_alloc ?_ _)); exact BK283.out) hb)
            have n4_ := Aside0.mk (below_step (by repeat (first | (with_reducible first | exact HB.out | apply below_alloc | apply pw_below_drewN | apply below_drew1 | refine below_set ?_ GE281.out | refine below_set ?_ GE282.out | refine below_set ?_ GE283.out) | exact HB.out)) hb)
            clear BK281
            clear BK282
            clear BK283
            clear HB
            have HO289 := n0_
            have BK281 := n1_
            have BK282 := n2_
            have BK283 := n3_
            have HB := n4_
            clear n0_ n1_ n2_ n3_ n4_
            (try clear hb)
            (try clear hb2)
            (try clear hk)
            (try clear hi)
            (try clear ho0)
            obtain ⟨Ao25, co25, eo25⟩ := Kd.R_slice HO289.out
            (first | subst eo25 | (injection eo25 with f1_ f2_ f3_; have f4_ := f1_.symm; have f5_ := f3_.symm; clear f1_ f2_ f3_; subst f4_; subst f5_))
            refine hK.out _ _ ⟨(blk_cell BK281.out 0).trans rfl, (blk_cell BK281.out 1).trans rfl, (blk_cell BK282.out 0).trans rfl, (blk_cell BK282.out 1).trans rfl, (blk_cell BK282.out 2).trans rfl, (blk_cell BK283.out 0).trans rfl, (blk_cell BK283.out 1).trans rfl, (blk_cell BK283.out 2).trans rfl, (blk_cell BK283.out 3).trans rfl, (blk_cell BK283.out 4).trans rfl⟩ (fun hHeld => ?_)
            clear hK K
            refine norm_ (a' := ?_) ?_ ?_
            rotate_left
            · show Act.put _ (some 23) _ = _
              simp only [Act.put, List.setIfInBounds_toArray, List.set_cons_zero, List.set_cons_succ, i64_w, i32_w]
              rfl
            refine two_ (i := 5) (j := 10) (Ni := some 27) (Nj := some 9) #[true, true, true, true, true, true, false, false, false, false, false, false, false, false] #[true, true, true, true, true, false, false, false, false, false, true, false, false, false] rfl rfl rfl rfl (two_of HT_.out (by kernel_rfl)) (by decide) (by decide) (fun K hK => ?_) (fun K hK => ?_)
            · skip
              refine goes_ Try.func12 (by kernel_rfl) rfl #[.agg #[.int .i64 t286, .slice Ao25 t287.length co25], .agg #[.string a1_0, .int .i64 a1_1, .int .i64 a1_2], .int .i64 a2, .agg #[.int .i64 a3_0, .int .i64 a3_1, .bool a3_2, .bool a3_3, .int .i64 a3_4]] (by rfl) rfl rfl (by (try simp only [List.map_toArray, List.map_cons, List.map_nil]); first | done | rfl | (simp only [List.length_drop, List.length_take]; rfl)) ?_
              with_reducible refine (prog_Step.calls t286 _ _ t287 a1_0 a1_1 a1_2 a2 a3_0 a3_1 a3_2 a3_3 a3_4 t290 t291 t292 t293 t294 t295 t298 _ ?side1 ?side2 A20.out).mono ?_
              (case side1 => repeat (first | exact (Kd.R_reads' HO289.out).2.2 | (with_reducible refine Kd.C_alloc ?_ _) | (with_reducible refine Kd.C_drewN ?_ _) | (with_reducible refine Kd.C_drew ?_)))
              (case side2 => exact (Kd.R_reads' HO289.out).2.1)
              rintro e w26 ⟨v296, rfl, ho0, hb⟩
              refine ⟨_, rfl, ?_⟩
              have n0_ := Aside0.mk (Kd.R_below (by (with_reducible repeat (first | apply Kd.R_alloc | apply Kd.R_drewN | apply Kd.R_drew)); exact HO289.out) hb)
              have n1_ := Aside0.mk (Kd.R_lower ho0 (below_size (by repeat (first | (with_reducible first | exact HB.out | apply below_alloc | apply pw_below_drewN | apply below_drew1 | refine below_set ?_ GE281.out | refine below_set ?_ GE282.out | refine below_set ?_ GE283.out) | exact HB.out))))
              have n2_ := Aside0.mk (blk_below (g := gb281) (o := .cells #[.int .i64 a0_0, .slice A0_1 l0_1.length c0_1] 24 (0, 0)) (by (with_reducible repeat (first | refine blk_drewN ?_ _ | refine blk_drew ?_ | refine blk_alloc ?_ _)); exact BK281.out) hb)
              have n3_ := Aside0.mk (blk_below (g := gb282) (o := .cells #[.string a1_0, .int .i64 a1_1, .int .i64 a1_2] 26 (0, 0)) (by (with_reducible repeat (first | refine blk_drewN ?_ _ | refine blk_drew ?_ | refine blk_alloc ?_ _)); exact BK282.out) hb)
              have n4_ := Aside0.mk (blk_below (g := gb283) (o := .cells #[.int .i64 a3_0, .int .i64 a3_1, .bool a3_2, .bool a3_3, .int .i64 a3_4] 28 (0, 0)) (by (with_reducible repeat (first | refine blk_drewN ?_ _ | refine blk_drew ?_ | refine blk_alloc ?_ _)); exact BK283.out) hb)
              have n5_ := Aside0.mk (below_step (by repeat (first | (with_reducible first | exact HB.out | apply below_alloc | apply pw_below_drewN | apply below_drew1 | refine below_set ?_ GE281.out | refine below_set ?_ GE282.out | refine below_set ?_ GE283.out) | exact HB.out)) hb)
              clear HO289
              clear BK281
              clear BK282
              clear BK283
              clear HB
              have HO289 := n0_
              have HO297 := n1_
              have BK281 := n2_
              have BK282 := n3_
              have BK283 := n4_
              have HB := n5_
              clear n0_ n1_ n2_ n3_ n4_ n5_
              (try clear hb)
              (try clear hb2)
              (try clear hk)
              (try clear hi)
              (try clear ho0)
              refine hK.out _ _ ⟨(blk_cell BK281.out 0).trans rfl, (blk_cell BK281.out 1).trans rfl, (blk_cell BK282.out 0).trans rfl, (blk_cell BK282.out 1).trans rfl, (blk_cell BK282.out 2).trans rfl, (blk_cell BK283.out 0).trans rfl, (blk_cell BK283.out 1).trans rfl, (blk_cell BK283.out 2).trans rfl, (blk_cell BK283.out 3).trans rfl, (blk_cell BK283.out 4).trans rfl⟩ (fun hHeld => ?_)
              clear hK K
              refine norm_ (a' := ?_) ?_ ?_
              rotate_left
              · show Act.put _ (some 27) _ = _
                simp only [Act.put, List.setIfInBounds_toArray, List.set_cons_zero, List.set_cons_succ, i64_w, i32_w]
                rfl
              refine pure_ (i := 6) (N := some 21) (v := ?_) (a' := ?_) #[true, true, true, true, true, true, true, false, false, false, false, false, false, false] rfl rfl (any_of HT_.out (by kernel_rfl)) (fun _ _ _ h => h) (Or.inl ⟨by rfl, ?_⟩) ?_ ?_
              rotate_left
              · intro w'
                go_simp
                with_reducible rfl
              rotate_left
              · simp only [Act.put, List.setIfInBounds_toArray, List.set_cons_zero, List.set_cons_succ, i64_w, i32_w]
                rfl
              refine pure_ (i := 7) (N := some 28) (v := ?_) (a' := ?_) #[true, true, true, true, true, true, true, true, false, false, false, false, false, false] rfl rfl (any_of HT_.out (by kernel_rfl)) (fun _ _ _ h => h) (Or.inl ⟨by rfl, ?_⟩) ?_ ?_
              rotate_left
              · intro w'
                go_simp
                with_reducible rfl
              rotate_left
              · simp only [Act.put, List.setIfInBounds_toArray, List.set_cons_zero, List.set_cons_succ, i64_w, i32_w]
                rfl
              refine pure_ (i := 8) (N := some 29) (v := ?_) (a' := ?_) #[true, true, true, true, true, true, true, true, true, false, false, false, false, false] rfl rfl (any_of HT_.out (by kernel_rfl)) (fun _ _ _ h => h) (Or.inl ⟨by rfl, ?_⟩) ?_ ?_
              rotate_left
              · intro w'
                go_simp
                with_reducible rfl
              rotate_left
              · simp only [Act.put, List.setIfInBounds_toArray, List.set_cons_zero, List.set_cons_succ, i64_w, i32_w]
                rfl
              refine pure_ (i := 9) (N := some 30) (v := ?_) (a' := ?_) #[true, true, true, true, true, true, true, true, true, true, false, false, false, false] rfl rfl (any_of HT_.out (by kernel_rfl)) (fun _ _ _ h => h) (Or.inl ⟨by rfl, ?_⟩) ?_ ?_
              rotate_left
              · intro w'
                go_simp
                with_reducible rfl
              rotate_left
              · simp only [Act.put, List.setIfInBounds_toArray, List.set_cons_zero, List.set_cons_succ, i64_w, i32_w]
                rfl
              refine one_ (i := 10) (N := some 9) #[true, true, true, true, true, true, true, true, true, true, true, false, false, false] rfl rfl (one_of HT_.out (by kernel_rfl)) (by decide) (fun K hK => ?_)
              refine box_step ?hg (N := 9) ?hd (cs := #[.int .i64 0, .int .i64 0, .bool false, .bool false, .int .i64 0]) (t := 28) ?hr ?_; (case hd => rfl); (case hg => rfl); (case hr => first | (go_simp; done) | (go_simp; rfl))
              intro gb299 hg w27 hbox hb
              have n0_ := Aside0.mk (Kd.R_below (by (with_reducible repeat (first | apply Kd.R_alloc | apply Kd.R_drewN | apply Kd.R_drew)); exact HO289.out) hb)
              have n1_ := Aside0.mk (Kd.R_below (by (with_reducible repeat (first | apply Kd.R_alloc | apply Kd.R_drewN | apply Kd.R_drew)); exact HO297.out) hb)
              have n2_ := Aside0.mk (blk_below (g := gb281) (o := .cells #[.int .i64 a0_0, .slice A0_1 l0_1.length c0_1] 24 (0, 0)) (by (with_reducible repeat (first | refine blk_drewN ?_ _ | refine blk_drew ?_ | refine blk_alloc ?_ _)); exact BK281.out) hb)
              have n3_ := Aside0.mk (blk_below (g := gb282) (o := .cells #[.string a1_0, .int .i64 a1_1, .int .i64 a1_2] 26 (0, 0)) (by (with_reducible repeat (first | refine blk_drewN ?_ _ | refine blk_drew ?_ | refine blk_alloc ?_ _)); exact BK282.out) hb)
              have n4_ := Aside0.mk (blk_below (g := gb283) (o := .cells #[.int .i64 a3_0, .int .i64 a3_1, .bool a3_2, .bool a3_3, .int .i64 a3_4] 28 (0, 0)) (by (with_reducible repeat (first | refine blk_drewN ?_ _ | refine blk_drew ?_ | refine blk_alloc ?_ _)); exact BK283.out) hb)
              have n5_ := Aside0.mk (below_step (by repeat (first | (with_reducible first | exact HB.out | apply below_alloc | apply pw_below_drewN | apply below_drew1 | refine below_set ?_ GE281.out | refine below_set ?_ GE282.out | refine below_set ?_ GE283.out) | exact HB.out)) hb)
              have n6_ := Aside0.mk (hbox)
              have n7_ := Aside0.mk ((by rw [hg]; exact (below_size (by repeat (first | (with_reducible first | exact HB.out | apply below_alloc | apply pw_below_drewN | apply below_drew1 | refine below_set ?_ GE281.out | refine below_set ?_ GE282.out | refine below_set ?_ GE283.out) | exact HB.out))) : w.heap.size ≤ gb299))
              have n8_ := Aside0.mk ((by rw [hg]; exact (below_size (by repeat (first | (with_reducible first | exact HB.out | apply below_alloc | apply pw_below_drewN | apply below_drew1 | refine below_set ?_ GE281.out | refine below_set ?_ GE282.out | refine below_set ?_ GE283.out) | exact HB.out))) : w.heap.size ≤ gb299))
              have n9_ := Aside0.mk ((by rw [hg]; exact Nat.ne_of_lt (blk_lt (g := gb281) (o := .cells #[.int .i64 a0_0, .slice A0_1 l0_1.length c0_1] 24 (0, 0)) (by (with_reducible repeat (first | refine blk_drewN ?_ _ | refine blk_drew ?_ | refine blk_alloc ?_ _)); exact BK281.out)) : gb281 ≠ gb299))
              have n10_ := Aside0.mk ((by rw [hg]; exact Nat.ne_of_gt (blk_lt (g := gb281) (o := .cells #[.int .i64 a0_0, .slice A0_1 l0_1.length c0_1] 24 (0, 0)) (by (with_reducible repeat (first | refine blk_drewN ?_ _ | refine blk_drew ?_ | refine blk_alloc ?_ _)); exact BK281.out)) : gb299 ≠ gb281))
              have n11_ := Aside0.mk ((by rw [hg]; exact Nat.ne_of_lt (blk_lt (g := gb282) (o := .cells #[.string a1_0, .int .i64 a1_1, .int .i64 a1_2] 26 (0, 0)) (by (with_reducible repeat (first | refine blk_drewN ?_ _ | refine blk_drew ?_ | refine blk_alloc ?_ _)); exact BK282.out)) : gb282 ≠ gb299))
              have n12_ := Aside0.mk ((by rw [hg]; exact Nat.ne_of_gt (blk_lt (g := gb282) (o := .cells #[.string a1_0, .int .i64 a1_1, .int .i64 a1_2] 26 (0, 0)) (by (with_reducible repeat (first | refine blk_drewN ?_ _ | refine blk_drew ?_ | refine blk_alloc ?_ _)); exact BK282.out)) : gb299 ≠ gb282))
              have n13_ := Aside0.mk ((by rw [hg]; exact Nat.ne_of_lt (blk_lt (g := gb283) (o := .cells #[.int .i64 a3_0, .int .i64 a3_1, .bool a3_2, .bool a3_3, .int .i64 a3_4] 28 (0, 0)) (by (with_reducible repeat (first | refine blk_drewN ?_ _ | refine blk_drew ?_ | refine blk_alloc ?_ _)); exact BK283.out)) : gb283 ≠ gb299))
              have n14_ := Aside0.mk ((by rw [hg]; exact Nat.ne_of_gt (blk_lt (g := gb283) (o := .cells #[.int .i64 a3_0, .int .i64 a3_1, .bool a3_2, .bool a3_3, .int .i64 a3_4] 28 (0, 0)) (by (with_reducible repeat (first | refine blk_drewN ?_ _ | refine blk_drew ?_ | refine blk_alloc ?_ _)); exact BK283.out)) : gb299 ≠ gb283))
              clear HO289
              clear HO297
              clear BK281
              clear BK282
              clear BK283
              clear HB
              have HO289 := n0_
              have HO297 := n1_
              have BK281 := n2_
              have BK282 := n3_
              have BK283 := n4_
              have HB := n5_
              have BK299 := n6_
              have GW299 := n7_
              have GE299 := n8_
              have NB281_299 := n9_
              have NB299_281 := n10_
              have NB282_299 := n11_
              have NB299_282 := n12_
              have NB283_299 := n13_
              have NB299_283 := n14_
              clear n0_ n1_ n2_ n3_ n4_ n5_ n6_ n7_ n8_ n9_ n10_ n11_ n12_ n13_ n14_
              clear hb hbox hg
              refine hK.out _ _ ⟨(blk_cell BK281.out 0).trans rfl, (blk_cell BK281.out 1).trans rfl, (blk_cell BK282.out 0).trans rfl, (blk_cell BK282.out 1).trans rfl, (blk_cell BK282.out 2).trans rfl, (blk_cell BK283.out 0).trans rfl, (blk_cell BK283.out 1).trans rfl, (blk_cell BK283.out 2).trans rfl, (blk_cell BK283.out 3).trans rfl, (blk_cell BK283.out 4).trans rfl⟩ (fun hHeld => ?_)
              clear hK K
              refine norm_ (a' := ?_) ?_ ?_
              rotate_left
              · show Act.put _ (some 9) _ = _
                simp only [Act.put, List.setIfInBounds_toArray, List.set_cons_zero, List.set_cons_succ, i64_w, i32_w]
                rfl
              exact norm_ (by simp only [putAll, Act.put, List.setIfInBounds_toArray, List.set_cons_zero, List.set_cons_succ]) (hCont (.slice Ao25 t287.length co25, v296, gb299) _ ⟨hHeld, (by (with_reducible repeat (first | apply Kd.R_alloc | apply Kd.R_drewN | apply Kd.R_drew)); exact HO289.out), (by (with_reducible repeat (first | apply Kd.R_alloc | apply Kd.R_drewN | apply Kd.R_drew)); exact HO297.out), (by (with_reducible repeat (first | refine blk_drewN ?_ _ | refine blk_drew ?_ | refine blk_alloc ?_ _)); exact BK281.out), (by (with_reducible repeat (first | refine blk_drewN ?_ _ | refine blk_drew ?_ | refine blk_alloc ?_ _)); exact BK282.out), (by (with_reducible repeat (first | refine blk_drewN ?_ _ | refine blk_drew ?_ | refine blk_alloc ?_ _)); exact BK283.out), (by (with_reducible repeat (first | refine blk_drewN ?_ _ | refine blk_drew ?_ | refine blk_alloc ?_ _)); exact BK299.out), GW299.out, GE299.out, NB281_299.out, NB299_281.out, NB282_299.out, NB299_282.out, NB283_299.out, NB299_283.out, (by repeat (first | (with_reducible first | exact HB.out | apply below_alloc | apply pw_below_drewN | apply below_drew1 | refine below_set ?_ GE281.out | refine below_set ?_ GE282.out | refine below_set ?_ GE283.out | refine below_set ?_ GE299.out) | exact HB.out))⟩)
            · skip
              refine box_step ?hg (N := 9) ?hd (cs := #[.int .i64 0, .int .i64 0, .bool false, .bool false, .int .i64 0]) (t := 28) ?hr ?_; (case hd => rfl); (case hg => rfl); (case hr => first | (go_simp; done) | (go_simp; rfl))
              intro gb299 hg w25 hbox hb
              have n0_ := Aside0.mk (Kd.R_below (by (with_reducible repeat (first | apply Kd.R_alloc | apply Kd.R_drewN | apply Kd.R_drew)); exact HO289.out) hb)
              have n1_ := Aside0.mk (blk_below (g := gb281) (o := .cells #[.int .i64 a0_0, .slice A0_1 l0_1.length c0_1] 24 (0, 0)) (by (with_reducible repeat (first | refine blk_drewN ?_ _ | refine blk_drew ?_ | refine blk_alloc ?_ _)); exact BK281.out) hb)
              have n2_ := Aside0.mk (blk_below (g := gb282) (o := .cells #[.string a1_0, .int .i64 a1_1, .int .i64 a1_2] 26 (0, 0)) (by (with_reducible repeat (first | refine blk_drewN ?_ _ | refine blk_drew ?_ | refine blk_alloc ?_ _)); exact BK282.out) hb)
              have n3_ := Aside0.mk (blk_below (g := gb283) (o := .cells #[.int .i64 a3_0, .int .i64 a3_1, .bool a3_2, .bool a3_3, .int .i64 a3_4] 28 (0, 0)) (by (with_reducible repeat (first | refine blk_drewN ?_ _ | refine blk_drew ?_ | refine blk_alloc ?_ _)); exact BK283.out) hb)
              have n4_ := Aside0.mk (below_step (by repeat (first | (with_reducible first | exact HB.out | apply below_alloc | apply pw_below_drewN | apply below_drew1 | refine below_set ?_ GE281.out | refine below_set ?_ GE282.out | refine below_set ?_ GE283.out) | exact HB.out)) hb)
              have n5_ := Aside0.mk (hbox)
              have n6_ := Aside0.mk ((by rw [hg]; exact (below_size (by repeat (first | (with_reducible first | exact HB.out | apply below_alloc | apply pw_below_drewN | apply below_drew1 | refine below_set ?_ GE281.out | refine below_set ?_ GE282.out | refine below_set ?_ GE283.out) | exact HB.out))) : w.heap.size ≤ gb299))
              have n7_ := Aside0.mk ((by rw [hg]; exact (below_size (by repeat (first | (with_reducible first | exact HB.out | apply below_alloc | apply pw_below_drewN | apply below_drew1 | refine below_set ?_ GE281.out | refine below_set ?_ GE282.out | refine below_set ?_ GE283.out) | exact HB.out))) : w.heap.size ≤ gb299))
              have n8_ := Aside0.mk ((by rw [hg]; exact Nat.ne_of_lt (blk_lt (g := gb281) (o := .cells #[.int .i64 a0_0, .slice A0_1 l0_1.length c0_1] 24 (0, 0)) (by (with_reducible repeat (first | refine blk_drewN ?_ _ | refine blk_drew ?_ | refine blk_alloc ?_ _)); exact BK281.out)) : gb281 ≠ gb299))
              have n9_ := Aside0.mk ((by rw [hg]; exact Nat.ne_of_gt (blk_lt (g := gb281) (o := .cells #[.int .i64 a0_0, .slice A0_1 l0_1.length c0_1] 24 (0, 0)) (by (with_reducible repeat (first | refine blk_drewN ?_ _ | refine blk_drew ?_ | refine blk_alloc ?_ _)); exact BK281.out)) : gb299 ≠ gb281))
              have n10_ := Aside0.mk ((by rw [hg]; exact Nat.ne_of_lt (blk_lt (g := gb282) (o := .cells #[.string a1_0, .int .i64 a1_1, .int .i64 a1_2] 26 (0, 0)) (by (with_reducible repeat (first | refine blk_drewN ?_ _ | refine blk_drew ?_ | refine blk_alloc ?_ _)); exact BK282.out)) : gb282 ≠ gb299))
              have n11_ := Aside0.mk ((by rw [hg]; exact Nat.ne_of_gt (blk_lt (g := gb282) (o := .cells #[.string a1_0, .int .i64 a1_1, .int .i64 a1_2] 26 (0, 0)) (by (with_reducible repeat (first | refine blk_drewN ?_ _ | refine blk_drew ?_ | refine blk_alloc ?_ _)); exact BK282.out)) : gb299 ≠ gb282))
              have n12_ := Aside0.mk ((by rw [hg]; exact Nat.ne_of_lt (blk_lt (g := gb283) (o := .cells #[.int .i64 a3_0, .int .i64 a3_1, .bool a3_2, .bool a3_3, .int .i64 a3_4] 28 (0, 0)) (by (with_reducible repeat (first | refine blk_drewN ?_ _ | refine blk_drew ?_ | refine blk_alloc ?_ _)); exact BK283.out)) : gb283 ≠ gb299))
              have n13_ := Aside0.mk ((by rw [hg]; exact Nat.ne_of_gt (blk_lt (g := gb283) (o := .cells #[.int .i64 a3_0, .int .i64 a3_1, .bool a3_2, .bool a3_3, .int .i64 a3_4] 28 (0, 0)) (by (with_reducible repeat (first | refine blk_drewN ?_ _ | refine blk_drew ?_ | refine blk_alloc ?_ _)); exact BK283.out)) : gb299 ≠ gb283))
              clear HO289
              clear BK281
              clear BK282
              clear BK283
              clear HB
              have HO289 := n0_
              have BK281 := n1_
              have BK282 := n2_
              have BK283 := n3_
              have HB := n4_
              have BK299 := n5_
              have GW299 := n6_
              have GE299 := n7_
              have NB281_299 := n8_
              have NB299_281 := n9_
              have NB282_299 := n10_
              have NB299_282 := n11_
              have NB283_299 := n12_
              have NB299_283 := n13_
              clear n0_ n1_ n2_ n3_ n4_ n5_ n6_ n7_ n8_ n9_ n10_ n11_ n12_ n13_
              clear hb hbox hg
              obtain ⟨Ao26, co26, eo26⟩ := Kd.R_slice HO289.out
              (first | subst eo26 | (injection eo26 with f1_ f2_ f3_; have f4_ := f1_.symm; have f5_ := f3_.symm; clear f1_ f2_ f3_; subst f4_; subst f5_))
              refine hK.out _ _ ⟨(blk_cell BK281.out 0).trans rfl, (blk_cell BK281.out 1).trans rfl, (blk_cell BK282.out 0).trans rfl, (blk_cell BK282.out 1).trans rfl, (blk_cell BK282.out 2).trans rfl, (blk_cell BK283.out 0).trans rfl, (blk_cell BK283.out 1).trans rfl, (blk_cell BK283.out 2).trans rfl, (blk_cell BK283.out 3).trans rfl, (blk_cell BK283.out 4).trans rfl⟩ (fun hHeld => ?_)
              clear hK K
              refine norm_ (a' := ?_) ?_ ?_
              rotate_left
              · show Act.put _ (some 9) _ = _
                simp only [Act.put, List.setIfInBounds_toArray, List.set_cons_zero, List.set_cons_succ, i64_w, i32_w]
                rfl
              refine one_ (i := 5) (N := some 27) #[true, true, true, true, true, true, false, false, false, false, true, false, false, false] rfl rfl (one_of HT_.out (by kernel_rfl)) (by decide) (fun K hK => ?_)
              refine goes_ Try.func12 (by kernel_rfl) rfl #[.agg #[.int .i64 t286, .slice Ao26 t287.length co26], .agg #[.string a1_0, .int .i64 a1_1, .int .i64 a1_2], .int .i64 a2, .agg #[.int .i64 a3_0, .int .i64 a3_1, .bool a3_2, .bool a3_3, .int .i64 a3_4]] (by rfl) rfl rfl (by (try simp only [List.map_toArray, List.map_cons, List.map_nil]); first | done | rfl | (simp only [List.length_drop, List.length_take]; rfl)) ?_
              with_reducible refine (prog_Step.calls t286 _ _ t287 a1_0 a1_1 a1_2 a2 a3_0 a3_1 a3_2 a3_3 a3_4 t290 t291 t292 t293 t294 t295 t298 _ ?side1 ?side2 A20.out).mono ?_
              (case side1 => repeat (first | exact (Kd.R_reads' HO289.out).2.2 | (with_reducible refine Kd.C_alloc ?_ _) | (with_reducible refine Kd.C_drewN ?_ _) | (with_reducible refine Kd.C_drew ?_)))
              (case side2 => exact (Kd.R_reads' HO289.out).2.1)
              rintro e w27 ⟨v296, rfl, ho0, hb⟩
              refine ⟨_, rfl, ?_⟩
              have n0_ := Aside0.mk (Kd.R_below (by (with_reducible repeat (first | apply Kd.R_alloc | apply Kd.R_drewN | apply Kd.R_drew)); exact HO289.out) hb)
              have n1_ := Aside0.mk (Kd.R_lower ho0 (below_size (by repeat (first | (with_reducible first | exact HB.out | apply below_alloc | apply pw_below_drewN | apply below_drew1 | refine below_set ?_ GE281.out | refine below_set ?_ GE282.out | refine below_set ?_ GE283.out | refine below_set ?_ GE299.out) | exact HB.out))))
              have n2_ := Aside0.mk (blk_below (g := gb281) (o := .cells #[.int .i64 a0_0, .slice A0_1 l0_1.length c0_1] 24 (0, 0)) (by (with_reducible repeat (first | refine blk_drewN ?_ _ | refine blk_drew ?_ | refine blk_alloc ?_ _)); exact BK281.out) hb)
              have n3_ := Aside0.mk (blk_below (g := gb282) (o := .cells #[.string a1_0, .int .i64 a1_1, .int .i64 a1_2] 26 (0, 0)) (by (with_reducible repeat (first | refine blk_drewN ?_ _ | refine blk_drew ?_ | refine blk_alloc ?_ _)); exact BK282.out) hb)
              have n4_ := Aside0.mk (blk_below (g := gb283) (o := .cells #[.int .i64 a3_0, .int .i64 a3_1, .bool a3_2, .bool a3_3, .int .i64 a3_4] 28 (0, 0)) (by (with_reducible repeat (first | refine blk_drewN ?_ _ | refine blk_drew ?_ | refine blk_alloc ?_ _)); exact BK283.out) hb)
              have n5_ := Aside0.mk (blk_below (g := gb299) (o := .cells #[.int .i64 0, .int .i64 0, .bool false, .bool false, .int .i64 0] 28 (0, 0)) (by (with_reducible repeat (first | refine blk_drewN ?_ _ | refine blk_drew ?_ | refine blk_alloc ?_ _)); exact BK299.out) hb)
              have n6_ := Aside0.mk (below_step (by repeat (first | (with_reducible first | exact HB.out | apply below_alloc | apply pw_below_drewN | apply below_drew1 | refine below_set ?_ GE281.out | refine below_set ?_ GE282.out | refine below_set ?_ GE283.out | refine below_set ?_ GE299.out) | exact HB.out)) hb)
              clear HO289
              clear BK281
              clear BK282
              clear BK283
              clear BK299
              clear HB
              have HO289 := n0_
              have HO297 := n1_
              have BK281 := n2_
              have BK282 := n3_
              have BK283 := n4_
              have BK299 := n5_
              have HB := n6_
              clear n0_ n1_ n2_ n3_ n4_ n5_ n6_
              (try clear hb)
              (try clear hb2)
              (try clear hk)
              (try clear hi)
              (try clear ho0)
              refine hK.out _ _ ⟨(blk_cell BK281.out 0).trans rfl, (blk_cell BK281.out 1).trans rfl, (blk_cell BK282.out 0).trans rfl, (blk_cell BK282.out 1).trans rfl, (blk_cell BK282.out 2).trans rfl, (blk_cell BK283.out 0).trans rfl, (blk_cell BK283.out 1).trans rfl, (blk_cell BK283.out 2).trans rfl, (blk_cell BK283.out 3).trans rfl, (blk_cell BK283.out 4).trans rfl⟩ (fun hHeld => ?_)
              clear hK K
              refine norm_ (a' := ?_) ?_ ?_
              rotate_left
              · show Act.put _ (some 27) _ = _
                simp only [Act.put, List.setIfInBounds_toArray, List.set_cons_zero, List.set_cons_succ, i64_w, i32_w]
                rfl
              refine pure_ (i := 6) (N := some 21) (v := ?_) (a' := ?_) #[true, true, true, true, true, true, true, false, false, false, true, false, false, false] rfl rfl (any_of HT_.out (by kernel_rfl)) (fun _ _ _ h => h) (Or.inl ⟨by rfl, ?_⟩) ?_ ?_
              rotate_left
              · intro w'
                go_simp
                with_reducible rfl
              rotate_left
              · simp only [Act.put, List.setIfInBounds_toArray, List.set_cons_zero, List.set_cons_succ, i64_w, i32_w]
                rfl
              refine pure_ (i := 7) (N := some 28) (v := ?_) (a' := ?_) #[true, true, true, true, true, true, true, true, false, false, true, false, false, false] rfl rfl (any_of HT_.out (by kernel_rfl)) (fun _ _ _ h => h) (Or.inl ⟨by rfl, ?_⟩) ?_ ?_
              rotate_left
              · intro w'
                go_simp
                with_reducible rfl
              rotate_left
              · simp only [Act.put, List.setIfInBounds_toArray, List.set_cons_zero, List.set_cons_succ, i64_w, i32_w]
                rfl
              refine pure_ (i := 8) (N := some 29) (v := ?_) (a' := ?_) #[true, true, true, true, true, true, true, true, true, false, true, false, false, false] rfl rfl (any_of HT_.out (by kernel_rfl)) (fun _ _ _ h => h) (Or.inl ⟨by rfl, ?_⟩) ?_ ?_
              rotate_left
              · intro w'
                go_simp
                with_reducible rfl
              rotate_left
              · simp only [Act.put, List.setIfInBounds_toArray, List.set_cons_zero, List.set_cons_succ, i64_w, i32_w]
                rfl
              refine pure_ (i := 9) (N := some 30) (v := ?_) (a' := ?_) #[true, true, true, true, true, true, true, true, true, true, true, false, false, false] rfl rfl (any_of HT_.out (by kernel_rfl)) (fun _ _ _ h => h) (Or.inl ⟨by rfl, ?_⟩) ?_ ?_
              rotate_left
              · intro w'
                go_simp
                with_reducible rfl
              rotate_left
              · simp only [Act.put, List.setIfInBounds_toArray, List.set_cons_zero, List.set_cons_succ, i64_w, i32_w]
                rfl
              exact norm_ (by simp only [putAll, Act.put, List.setIfInBounds_toArray, List.set_cons_zero, List.set_cons_succ]) (hCont (.slice Ao26 t287.length co26, v296, gb299) _ ⟨hHeld, (by (with_reducible repeat (first | apply Kd.R_alloc | apply Kd.R_drewN | apply Kd.R_drew)); exact HO289.out), (by (with_reducible repeat (first | apply Kd.R_alloc | apply Kd.R_drewN | apply Kd.R_drew)); exact HO297.out), (by (with_reducible repeat (first | refine blk_drewN ?_ _ | refine blk_drew ?_ | refine blk_alloc ?_ _)); exact BK281.out), (by (with_reducible repeat (first | refine blk_drewN ?_ _ | refine blk_drew ?_ | refine blk_alloc ?_ _)); exact BK282.out), (by (with_reducible repeat (first | refine blk_drewN ?_ _ | refine blk_drew ?_ | refine blk_alloc ?_ _)); exact BK283.out), (by (with_reducible repeat (first | refine blk_drewN ?_ _ | refine blk_drew ?_ | refine blk_alloc ?_ _)); exact BK299.out), GW299.out, GE299.out, NB281_299.out, NB299_281.out, NB282_299.out, NB299_282.out, NB283_299.out, NB299_283.out, (by repeat (first | (with_reducible first | exact HB.out | apply below_alloc | apply pw_below_drewN | apply below_drew1 | refine below_set ?_ GE281.out | refine below_set ?_ GE282.out | refine below_set ?_ GE283.out | refine below_set ?_ GE299.out) | exact HB.out))⟩)
          · skip
            refine box_step ?hg (N := 9) ?hd (cs := #[.int .i64 0, .int .i64 0, .bool false, .bool false, .int .i64 0]) (t := 28) ?hr ?_; (case hd => rfl); (case hg => rfl); (case hr => first | (go_simp; done) | (go_simp; rfl))
            intro gb299 hg w24 hbox hb
            have n0_ := Aside0.mk (blk_below (g := gb281) (o := .cells #[.int .i64 a0_0, .slice A0_1 l0_1.length c0_1] 24 (0, 0)) (by (with_reducible repeat (first | refine blk_drewN ?_ _ | refine blk_drew ?_ | refine blk_alloc ?_ _)); exact BK281.out) hb)
            have n1_ := Aside0.mk (blk_below (g := gb282) (o := .cells #[.string a1_0, .int .i64 a1_1, .int .i64 a1_2] 26 (0, 0)) (by (with_reducible repeat (first | refine blk_drewN ?_ _ | refine blk_drew ?_ | refine blk_alloc ?_ _)); exact BK282.out) hb)
            have n2_ := Aside0.mk (blk_below (g := gb283) (o := .cells #[.int .i64 a3_0, .int .i64 a3_1, .bool a3_2, .bool a3_3, .int .i64 a3_4] 28 (0, 0)) (by (with_reducible repeat (first | refine blk_drewN ?_ _ | refine blk_drew ?_ | refine blk_alloc ?_ _)); exact BK283.out) hb)
            have n3_ := Aside0.mk (below_step (by repeat (first | (with_reducible first | exact HB.out | apply below_alloc | apply pw_below_drewN | apply below_drew1 | refine below_set ?_ GE281.out | refine below_set ?_ GE282.out | refine below_set ?_ GE283.out) | exact HB.out)) hb)
            have n4_ := Aside0.mk (hbox)
            have n5_ := Aside0.mk ((by rw [hg]; exact (below_size (by repeat (first | (with_reducible first | exact HB.out | apply below_alloc | apply pw_below_drewN | apply below_drew1 | refine below_set ?_ GE281.out | refine below_set ?_ GE282.out | refine below_set ?_ GE283.out) | exact HB.out))) : w.heap.size ≤ gb299))
            have n6_ := Aside0.mk ((by rw [hg]; exact (below_size (by repeat (first | (with_reducible first | exact HB.out | apply below_alloc | apply pw_below_drewN | apply below_drew1 | refine below_set ?_ GE281.out | refine below_set ?_ GE282.out | refine below_set ?_ GE283.out) | exact HB.out))) : w.heap.size ≤ gb299))
            have n7_ := Aside0.mk ((by rw [hg]; exact Nat.ne_of_lt (blk_lt (g := gb281) (o := .cells #[.int .i64 a0_0, .slice A0_1 l0_1.length c0_1] 24 (0, 0)) (by (with_reducible repeat (first | refine blk_drewN ?_ _ | refine blk_drew ?_ | refine blk_alloc ?_ _)); exact BK281.out)) : gb281 ≠ gb299))
            have n8_ := Aside0.mk ((by rw [hg]; exact Nat.ne_of_gt (blk_lt (g := gb281) (o := .cells #[.int .i64 a0_0, .slice A0_1 l0_1.length c0_1] 24 (0, 0)) (by (with_reducible repeat (first | refine blk_drewN ?_ _ | refine blk_drew ?_ | refine blk_alloc ?_ _)); exact BK281.out)) : gb299 ≠ gb281))
            have n9_ := Aside0.mk ((by rw [hg]; exact Nat.ne_of_lt (blk_lt (g := gb282) (o := .cells #[.string a1_0, .int .i64 a1_1, .int .i64 a1_2] 26 (0, 0)) (by (with_reducible repeat (first | refine blk_drewN ?_ _ | refine blk_drew ?_ | refine blk_alloc ?_ _)); exact BK282.out)) : gb282 ≠ gb299))
            have n10_ := Aside0.mk ((by rw [hg]; exact Nat.ne_of_gt (blk_lt (g := gb282) (o := .cells #[.string a1_0, .int .i64 a1_1, .int .i64 a1_2] 26 (0, 0)) (by (with_reducible repeat (first | refine blk_drewN ?_ _ | refine blk_drew ?_ | refine blk_alloc ?_ _)); exact BK282.out)) : gb299 ≠ gb282))
            have n11_ := Aside0.mk ((by rw [hg]; exact Nat.ne_of_lt (blk_lt (g := gb283) (o := .cells #[.int .i64 a3_0, .int .i64 a3_1, .bool a3_2, .bool a3_3, .int .i64 a3_4] 28 (0, 0)) (by (with_reducible repeat (first | refine blk_drewN ?_ _ | refine blk_drew ?_ | refine blk_alloc ?_ _)); exact BK283.out)) : gb283 ≠ gb299))
            have n12_ := Aside0.mk ((by rw [hg]; exact Nat.ne_of_gt (blk_lt (g := gb283) (o := .cells #[.int .i64 a3_0, .int .i64 a3_1, .bool a3_2, .bool a3_3, .int .i64 a3_4] 28 (0, 0)) (by (with_reducible repeat (first | refine blk_drewN ?_ _ | refine blk_drew ?_ | refine blk_alloc ?_ _)); exact BK283.out)) : gb299 ≠ gb283))
            clear BK281
            clear BK282
            clear BK283
            clear HB
            have BK281 := n0_
            have BK282 := n1_
            have BK283 := n2_
            have HB := n3_
            have BK299 := n4_
            have GW299 := n5_
            have GE299 := n6_
            have NB281_299 := n7_
            have NB299_281 := n8_
            have NB282_299 := n9_
            have NB299_282 := n10_
            have NB283_299 := n11_
            have NB299_283 := n12_
            clear n0_ n1_ n2_ n3_ n4_ n5_ n6_ n7_ n8_ n9_ n10_ n11_ n12_
            clear hb hbox hg
            refine hK.out _ _ ⟨(blk_cell BK281.out 0).trans rfl, (blk_cell BK281.out 1).trans rfl, (blk_cell BK282.out 0).trans rfl, (blk_cell BK282.out 1).trans rfl, (blk_cell BK282.out 2).trans rfl, (blk_cell BK283.out 0).trans rfl, (blk_cell BK283.out 1).trans rfl, (blk_cell BK283.out 2).trans rfl, (blk_cell BK283.out 3).trans rfl, (blk_cell BK283.out 4).trans rfl⟩ (fun hHeld => ?_)
            clear hK K
            refine norm_ (a' := ?_) ?_ ?_
            rotate_left
            · show Act.put _ (some 9) _ = _
              simp only [Act.put, List.setIfInBounds_toArray, List.set_cons_zero, List.set_cons_succ, i64_w, i32_w]
              rfl
            refine one_ (i := 1) (N := some 23) #[true, true, true, true, true, false, false, false, false, false, true, false, false, false] rfl rfl (one_of HT_.out (by kernel_rfl)) (by decide) (fun K hK => ?_)
            refine goes_ Try.func13 (by kernel_rfl) rfl #[.agg #[.int .i64 a0_0, .slice A0_1 l0_1.length c0_1]] (by rfl) rfl rfl (by (try simp only [List.map_toArray, List.map_cons, List.map_nil]); first | done | rfl | (simp only [List.length_drop, List.length_take]; rfl)) ?_
            with_reducible refine (modillionlaw07_own.calls a0_0 _ _ l0_1 t286 t287 _ ?side1 ?side2 A19.out).mono ?_
            (case side1 => repeat (first | exact (Kd.C_below HR0_1.out HB.out) | (with_reducible refine Kd.C_alloc ?_ _) | (with_reducible refine Kd.C_drewN ?_ _) | (with_reducible refine Kd.C_drew ?_)))
            (case side2 => exact HC0_1.out)
            rintro e w25 ⟨v288, rfl, ho0, hb⟩
            refine ⟨_, rfl, ?_⟩
            have n0_ := Aside0.mk (Kd.R_lower ho0 (below_size (by repeat (first | (with_reducible first | exact HB.out | apply below_alloc | apply pw_below_drewN | apply below_drew1 | refine below_set ?_ GE281.out | refine below_set ?_ GE282.out | refine below_set ?_ GE283.out | refine below_set ?_ GE299.out) | exact HB.out))))
            have n1_ := Aside0.mk (blk_below (g := gb281) (o := .cells #[.int .i64 a0_0, .slice A0_1 l0_1.length c0_1] 24 (0, 0)) (by (with_reducible repeat (first | refine blk_drewN ?_ _ | refine blk_drew ?_ | refine blk_alloc ?_ _)); exact BK281.out) hb)
            have n2_ := Aside0.mk (blk_below (g := gb282) (o := .cells #[.string a1_0, .int .i64 a1_1, .int .i64 a1_2] 26 (0, 0)) (by (with_reducible repeat (first | refine blk_drewN ?_ _ | refine blk_drew ?_ | refine blk_alloc ?_ _)); exact BK282.out) hb)
            have n3_ := Aside0.mk (blk_below (g := gb283) (o := .cells #[.int .i64 a3_0, .int .i64 a3_1, .bool a3_2, .bool a3_3, .int .i64 a3_4] 28 (0, 0)) (by (with_reducible repeat (first | refine blk_drewN ?_ _ | refine blk_drew ?_ | refine blk_alloc ?_ _)); exact BK283.out) hb)
            have n4_ := Aside0.mk (blk_below (g := gb299) (o := .cells #[.int .i64 0, .int .i64 0, .bool false, .bool false, .int .i64 0] 28 (0, 0)) (by (with_reducible repeat (first | refine blk_drewN ?_ _ | refine blk_drew ?_ | refine blk_alloc ?_ _)); exact BK299.out) hb)
            have n5_ := Aside0.mk (below_step (by repeat (first | (with_reducible first | exact HB.out | apply below_alloc | apply pw_below_drewN | apply below_drew1 | refine below_set ?_ GE281.out | refine below_set ?_ GE282.out | refine below_set ?_ GE283.out | refine below_set ?_ GE299.out) | exact HB.out)) hb)
            clear BK281
            clear BK282
            clear BK283
            clear BK299
            clear HB
            have HO289 := n0_
            have BK281 := n1_
            have BK282 := n2_
            have BK283 := n3_
            have BK299 := n4_
            have HB := n5_
            clear n0_ n1_ n2_ n3_ n4_ n5_
            (try clear hb)
            (try clear hb2)
            (try clear hk)
            (try clear hi)
            (try clear ho0)
            obtain ⟨Ao26, co26, eo26⟩ := Kd.R_slice HO289.out
            (first | subst eo26 | (injection eo26 with f1_ f2_ f3_; have f4_ := f1_.symm; have f5_ := f3_.symm; clear f1_ f2_ f3_; subst f4_; subst f5_))
            refine hK.out _ _ ⟨(blk_cell BK281.out 0).trans rfl, (blk_cell BK281.out 1).trans rfl, (blk_cell BK282.out 0).trans rfl, (blk_cell BK282.out 1).trans rfl, (blk_cell BK282.out 2).trans rfl, (blk_cell BK283.out 0).trans rfl, (blk_cell BK283.out 1).trans rfl, (blk_cell BK283.out 2).trans rfl, (blk_cell BK283.out 3).trans rfl, (blk_cell BK283.out 4).trans rfl⟩ (fun hHeld => ?_)
            clear hK K
            refine norm_ (a' := ?_) ?_ ?_
            rotate_left
            · show Act.put _ (some 23) _ = _
              simp only [Act.put, List.setIfInBounds_toArray, List.set_cons_zero, List.set_cons_succ, i64_w, i32_w]
              rfl
            refine one_ (i := 5) (N := some 27) #[true, true, true, true, true, true, false, false, false, false, true, false, false, false] rfl rfl (one_of HT_.out (by kernel_rfl)) (by decide) (fun K hK => ?_)
            refine goes_ Try.func12 (by kernel_rfl) rfl #[.agg #[.int .i64 t286, .slice Ao26 t287.length co26], .agg #[.string a1_0, .int .i64 a1_1, .int .i64 a1_2], .int .i64 a2, .agg #[.int .i64 a3_0, .int .i64 a3_1, .bool a3_2, .bool a3_3, .int .i64 a3_4]] (by rfl) rfl rfl (by (try simp only [List.map_toArray, List.map_cons, List.map_nil]); first | done | rfl | (simp only [List.length_drop, List.length_take]; rfl)) ?_
            with_reducible refine (prog_Step.calls t286 _ _ t287 a1_0 a1_1 a1_2 a2 a3_0 a3_1 a3_2 a3_3 a3_4 t290 t291 t292 t293 t294 t295 t298 _ ?side1 ?side2 A20.out).mono ?_
            (case side1 => repeat (first | exact (Kd.R_reads' HO289.out).2.2 | (with_reducible refine Kd.C_alloc ?_ _) | (with_reducible refine Kd.C_drewN ?_ _) | (with_reducible refine Kd.C_drew ?_)))
            (case side2 => exact (Kd.R_reads' HO289.out).2.1)
            rintro e w27 ⟨v296, rfl, ho0, hb⟩
            refine ⟨_, rfl, ?_⟩
            have n0_ := Aside0.mk (Kd.R_below (by (with_reducible repeat (first | apply Kd.R_alloc | apply Kd.R_drewN | apply Kd.R_drew)); exact HO289.out) hb)
            have n1_ := Aside0.mk (Kd.R_lower ho0 (below_size (by repeat (first | (with_reducible first | exact HB.out | apply below_alloc | apply pw_below_drewN | apply below_drew1 | refine below_set ?_ GE281.out | refine below_set ?_ GE282.out | refine below_set ?_ GE283.out | refine below_set ?_ GE299.out) | exact HB.out))))
            have n2_ := Aside0.mk (blk_below (g := gb281) (o := .cells #[.int .i64 a0_0, .slice A0_1 l0_1.length c0_1] 24 (0, 0)) (by (with_reducible repeat (first | refine blk_drewN ?_ _ | refine blk_drew ?_ | refine blk_alloc ?_ _)); exact BK281.out) hb)
            have n3_ := Aside0.mk (blk_below (g := gb282) (o := .cells #[.string a1_0, .int .i64 a1_1, .int .i64 a1_2] 26 (0, 0)) (by (with_reducible repeat (first | refine blk_drewN ?_ _ | refine blk_drew ?_ | refine blk_alloc ?_ _)); exact BK282.out) hb)
            have n4_ := Aside0.mk (blk_below (g := gb283) (o := .cells #[.int .i64 a3_0, .int .i64 a3_1, .bool a3_2, .bool a3_3, .int .i64 a3_4] 28 (0, 0)) (by (with_reducible repeat (first | refine blk_drewN ?_ _ | refine blk_drew ?_ | refine blk_alloc ?_ _)); exact BK283.out) hb)
            have n5_ := Aside0.mk (blk_below (g := gb299) (o := .cells #[.int .i64 0, .int .i64 0, .bool false, .bool false, .int .i64 0] 28 (0, 0)) (by (with_reducible repeat (first | refine blk_drewN ?_ _ | refine blk_drew ?_ | refine blk_alloc ?_ _)); exact BK299.out) hb)
            have n6_ := Aside0.mk (below_step (by repeat (first | (with_reducible first | exact HB.out | apply below_alloc | apply pw_below_drewN | apply below_drew1 | refine below_set ?_ GE281.out | refine below_set ?_ GE282.out | refine below_set ?_ GE283.out | refine below_set ?_ GE299.out) | exact HB.out)) hb)
            clear HO289
            clear BK281
            clear BK282
            clear BK283
            clear BK299
            clear HB
            have HO289 := n0_
            have HO297 := n1_
            have BK281 := n2_
            have BK282 := n3_
            have BK283 := n4_
            have BK299 := n5_
            have HB := n6_
            clear n0_ n1_ n2_ n3_ n4_ n5_ n6_
            (try clear hb)
            (try clear hb2)
            (try clear hk)
            (try clear hi)
            (try clear ho0)
            refine hK.out _ _ ⟨(blk_cell BK281.out 0).trans rfl, (blk_cell BK281.out 1).trans rfl, (blk_cell BK282.out 0).trans rfl, (blk_cell BK282.out 1).trans rfl, (blk_cell BK282.out 2).trans rfl, (blk_cell BK283.out 0).trans rfl, (blk_cell BK283.out 1).trans rfl, (blk_cell BK283.out 2).trans rfl, (blk_cell BK283.out 3).trans rfl, (blk_cell BK283.out 4).trans rfl⟩ (fun hHeld => ?_)
            clear hK K
            refine norm_ (a' := ?_) ?_ ?_
            rotate_left
            · show Act.put _ (some 27) _ = _
              simp only [Act.put, List.setIfInBounds_toArray, List.set_cons_zero, List.set_cons_succ, i64_w, i32_w]
              rfl
            refine pure_ (i := 6) (N := some 21) (v := ?_) (a' := ?_) #[true, true, true, true, true, true, true, false, false, false, true, false, false, false] rfl rfl (any_of HT_.out (by kernel_rfl)) (fun _ _ _ h => h) (Or.inl ⟨by rfl, ?_⟩) ?_ ?_
            rotate_left
            · intro w'
              go_simp
              with_reducible rfl
            rotate_left
            · simp only [Act.put, List.setIfInBounds_toArray, List.set_cons_zero, List.set_cons_succ, i64_w, i32_w]
              rfl
            refine pure_ (i := 7) (N := some 28) (v := ?_) (a' := ?_) #[true, true, true, true, true, true, true, true, false, false, true, false, false, false] rfl rfl (any_of HT_.out (by kernel_rfl)) (fun _ _ _ h => h) (Or.inl ⟨by rfl, ?_⟩) ?_ ?_
            rotate_left
            · intro w'
              go_simp
              with_reducible rfl
            rotate_left
            · simp only [Act.put, List.setIfInBounds_toArray, List.set_cons_zero, List.set_cons_succ, i64_w, i32_w]
              rfl
            refine pure_ (i := 8) (N := some 29) (v := ?_) (a' := ?_) #[true, true, true, true, true, true, true, true, true, false, true, false, false, false] rfl rfl (any_of HT_.out (by kernel_rfl)) (fun _ _ _ h => h) (Or.inl ⟨by rfl, ?_⟩) ?_ ?_
            rotate_left
            · intro w'
              go_simp
              with_reducible rfl
            rotate_left
            · simp only [Act.put, List.setIfInBounds_toArray, List.set_cons_zero, List.set_cons_succ, i64_w, i32_w]
              rfl
            refine pure_ (i := 9) (N := some 30) (v := ?_) (a' := ?_) #[true, true, true, true, true, true, true, true, true, true, true, false, false, false] rfl rfl (any_of HT_.out (by kernel_rfl)) (fun _ _ _ h => h) (Or.inl ⟨by rfl, ?_⟩) ?_ ?_
            rotate_left
            · intro w'
              go_simp
              with_reducible rfl
            rotate_left
            · simp only [Act.put, List.setIfInBounds_toArray, List.set_cons_zero, List.set_cons_succ, i64_w, i32_w]
              rfl
            exact norm_ (by simp only [putAll, Act.put, List.setIfInBounds_toArray, List.set_cons_zero, List.set_cons_succ]) (hCont (.slice Ao26 t287.length co26, v296, gb299) _ ⟨hHeld, (by (with_reducible repeat (first | apply Kd.R_alloc | apply Kd.R_drewN | apply Kd.R_drew)); exact HO289.out), (by (with_reducible repeat (first | apply Kd.R_alloc | apply Kd.R_drewN | apply Kd.R_drew)); exact HO297.out), (by (with_reducible repeat (first | refine blk_drewN ?_ _ | refine blk_drew ?_ | refine blk_alloc ?_ _)); exact BK281.out), (by (with_reducible repeat (first | refine blk_drewN ?_ _ | refine blk_drew ?_ | refine blk_alloc ?_ _)); exact BK282.out), (by (with_reducible repeat (first | refine blk_drewN ?_ _ | refine blk_drew ?_ | refine blk_alloc ?_ _)); exact BK283.out), (by (with_reducible repeat (first | refine blk_drewN ?_ _ | refine blk_drew ?_ | refine blk_alloc ?_ _)); exact BK299.out), GW299.out, GE299.out, NB281_299.out, NB299_281.out, NB282_299.out, NB299_282.out, NB283_299.out, NB299_283.out, (by repeat (first | (with_reducible first | exact HB.out | apply below_alloc | apply pw_below_drewN | apply below_drew1 | refine below_set ?_ GE281.out | refine below_set ?_ GE282.out | refine below_set ?_ GE283.out | refine below_set ?_ GE299.out) | exact HB.out))⟩)
        rintro ⟨v288, v296, gb299⟩ w28 ⟨hS_, h0_, h1_, h2_, h3_, h4_, h5_, h6_, h7_, h8_, h9_, h10_, h11_, h12_, h13_, h14_⟩
        have n0_ : Aside0 (Kd.R k46 46 w28 w.heap.size (fun _ => True) v288 t287) := ⟨h0_⟩
        have n1_ : Aside0 (Kd.R k48 48 w28 w.heap.size (fun _ => True) v296 t295) := ⟨h1_⟩
        have n2_ : Aside0 (w28.heap[gb281]? = some (.cells #[.int .i64 a0_0, .slice A0_1 l0_1.length c0_1] 24 (0, 0))) := ⟨h2_⟩
        have n3_ : Aside0 (w28.heap[gb282]? = some (.cells #[.string a1_0, .int .i64 a1_1, .int .i64 a1_2] 26 (0, 0))) := ⟨h3_⟩
        have n4_ : Aside0 (w28.heap[gb283]? = some (.cells #[.int .i64 a3_0, .int .i64 a3_1, .bool a3_2, .bool a3_3, .int .i64 a3_4] 28 (0, 0))) := ⟨h4_⟩
        have n5_ : Aside0 (w28.heap[gb299]? = some (.cells #[.int .i64 0, .int .i64 0, .bool false, .bool false, .int .i64 0] 28 (0, 0))) := ⟨h5_⟩
        have n6_ : Aside0 (w.heap.size ≤ gb299) := ⟨h6_⟩
        have n7_ : Aside0 (w.heap.size ≤ gb299) := ⟨h7_⟩
        have n8_ : Aside0 (gb281 ≠ gb299) := ⟨h8_⟩
        have n9_ : Aside0 (gb299 ≠ gb281) := ⟨h9_⟩
        have n10_ : Aside0 (gb282 ≠ gb299) := ⟨h10_⟩
        have n11_ : Aside0 (gb299 ≠ gb282) := ⟨h11_⟩
        have n12_ : Aside0 (gb283 ≠ gb299) := ⟨h12_⟩
        have n13_ : Aside0 (gb299 ≠ gb283) := ⟨h13_⟩
        have n14_ : Aside0 (Below w.heap.size w w28) := ⟨h14_⟩
        clear BK281
        clear BK282
        clear BK283
        clear HB
        clear h0_ h1_ h2_ h3_ h4_ h5_ h6_ h7_ h8_ h9_ h10_ h11_ h12_ h13_ h14_
        have HO289 := n0_
        have HO297 := n1_
        have BK281 := n2_
        have BK282 := n3_
        have BK283 := n4_
        have BK299 := n5_
        have GW299 := n6_
        have GE299 := n7_
        have NB281_299 := n8_
        have NB299_281 := n9_
        have NB282_299 := n10_
        have NB299_282 := n11_
        have NB283_299 := n12_
        have NB299_283 := n13_
        have HB := n14_
        clear n0_ n1_ n2_ n3_ n4_ n5_ n6_ n7_ n8_ n9_ n10_ n11_ n12_ n13_ n14_
        have hHeld : w28.cell? ⟨gb281, 0, none⟩ = some (.int .i64 a0_0) ∧ w28.cell? ⟨gb281, 1, none⟩ = some (.slice A0_1 l0_1.length c0_1) ∧ w28.cell? ⟨gb282, 0, none⟩ = some (.string a1_0) ∧ w28.cell? ⟨gb282, 1, none⟩ = some (.int .i64 a1_1) ∧ w28.cell? ⟨gb282, 2, none⟩ = some (.int .i64 a1_2) ∧ w28.cell? ⟨gb283, 0, none⟩ = some (.int .i64 a3_0) ∧ w28.cell? ⟨gb283, 1, none⟩ = some (.int .i64 a3_1) ∧ w28.cell? ⟨gb283, 2, none⟩ = some (.bool a3_2) ∧ w28.cell? ⟨gb283, 3, none⟩ = some (.bool a3_3) ∧ w28.cell? ⟨gb283, 4, none⟩ = some (.int .i64 a3_4) := hS_
        refine norm_ (a' := ?_) ?_ ?_
        rotate_left
        · simp only [putAll, Act.put, List.setIfInBounds_toArray, List.set_cons_zero, List.set_cons_succ]
          rfl
        refine one_ (i := 11) (N := none) #[true, true, true, true, true, true, true, true, true, true, true, true, false, false] rfl rfl (one_of HT_.out (by kernel_rfl)) (by decide) (fun K hK => ?_)
        have hs29 : w28.cell? ⟨gb299, 0, none⟩ = some (.int .i64 0) := (blk_cell BK299.out 0).trans rfl
        have hfs29 := blk_frozen BK299.out 0
        have hns29_0 := NB281_299.out
        have hns29_1 := NB282_299.out
        have hns29_2 := NB283_299.out
        have hms29_0 := NB299_281.out
        have hms29_1 := NB299_282.out
        have hms29_2 := NB299_283.out
        have hs30 : w28.cell? ⟨gb299, 1, none⟩ = some (.int .i64 0) := (blk_cell BK299.out 1).trans rfl
        have hfs30 := blk_frozen BK299.out 1
        have hns30_0 := NB281_299.out
        have hns30_1 := NB282_299.out
        have hns30_2 := NB283_299.out
        have hms30_0 := NB299_281.out
        have hms30_1 := NB299_282.out
        have hms30_2 := NB299_283.out
        have hs31 : w28.cell? ⟨gb299, 2, none⟩ = some (.bool false) := (blk_cell BK299.out 2).trans rfl
        have hfs31 := blk_frozen BK299.out 2
        have hns31_0 := NB281_299.out
        have hns31_1 := NB282_299.out
        have hns31_2 := NB283_299.out
        have hms31_0 := NB299_281.out
        have hms31_1 := NB299_282.out
        have hms31_2 := NB299_283.out
        have hs32 : w28.cell? ⟨gb299, 3, none⟩ = some (.bool false) := (blk_cell BK299.out 3).trans rfl
        have hfs32 := blk_frozen BK299.out 3
        have hns32_0 := NB281_299.out
        have hns32_1 := NB282_299.out
        have hns32_2 := NB283_299.out
        have hms32_0 := NB299_281.out
        have hms32_1 := NB299_282.out
        have hms32_2 := NB299_283.out
        have hs33 : w28.cell? ⟨gb299, 4, none⟩ = some (.int .i64 0) := (blk_cell BK299.out 4).trans rfl
        have hfs33 := blk_frozen BK299.out 4
        have hns33_0 := NB281_299.out
        have hns33_1 := NB282_299.out
        have hns33_2 := NB283_299.out
        have hms33_0 := NB299_281.out
        have hms33_1 := NB299_282.out
        have hms33_2 := NB299_283.out
        refine skip_ (w1 := ?_) (by rfl) rfl ?_ ?_
        rotate_left
        · go_simp
          rfl
        refine hK.out _ _ ⟨((cell_far (p := ⟨gb299, _, none⟩) NB281_299.out _).trans (((cell_far (p := ⟨gb299, _, none⟩) NB281_299.out _).trans (((cell_far (p := ⟨gb299, _, none⟩) NB281_299.out _).trans (((cell_far (p := ⟨gb299, _, none⟩) NB281_299.out _).trans (((cell_far (p := ⟨gb299, _, none⟩) NB281_299.out _).trans (hHeld.1)))))))))), ((cell_far (p := ⟨gb299, _, none⟩) NB281_299.out _).trans (((cell_far (p := ⟨gb299, _, none⟩) NB281_299.out _).trans (((cell_far (p := ⟨gb299, _, none⟩) NB281_299.out _).trans (((cell_far (p := ⟨gb299, _, none⟩) NB281_299.out _).trans (((cell_far (p := ⟨gb299, _, none⟩) NB281_299.out _).trans (hHeld.2.1)))))))))), ((cell_far (p := ⟨gb299, _, none⟩) NB282_299.out _).trans (((cell_far (p := ⟨gb299, _, none⟩) NB282_299.out _).trans (((cell_far (p := ⟨gb299, _, none⟩) NB282_299.out _).trans (((cell_far (p := ⟨gb299, _, none⟩) NB282_299.out _).trans (((cell_far (p := ⟨gb299, _, none⟩) NB282_299.out _).trans (hHeld.2.2.1)))))))))), ((cell_far (p := ⟨gb299, _, none⟩) NB282_299.out _).trans (((cell_far (p := ⟨gb299, _, none⟩) NB282_299.out _).trans (((cell_far (p := ⟨gb299, _, none⟩) NB282_299.out _).trans (((cell_far (p := ⟨gb299, _, none⟩) NB282_299.out _).trans (((cell_far (p := ⟨gb299, _, none⟩) NB282_299.out _).trans (hHeld.2.2.2.1)))))))))), ((cell_far (p := ⟨gb299, _, none⟩) NB282_299.out _).trans (((cell_far (p := ⟨gb299, _, none⟩) NB282_299.out _).trans (((cell_far (p := ⟨gb299, _, none⟩) NB282_299.out _).trans (((cell_far (p := ⟨gb299, _, none⟩) NB282_299.out _).trans (((cell_far (p := ⟨gb299, _, none⟩) NB282_299.out _).trans (hHeld.2.2.2.2.1)))))))))), ((cell_far (p := ⟨gb299, _, none⟩) NB283_299.out _).trans (((cell_far (p := ⟨gb299, _, none⟩) NB283_299.out _).trans (((cell_far (p := ⟨gb299, _, none⟩) NB283_299.out _).trans (((cell_far (p := ⟨gb299, _, none⟩) NB283_299.out _).trans (((cell_far (p := ⟨gb299, _, none⟩) NB283_299.out _).trans (hHeld.2.2.2.2.2.1)))))))))), ((cell_far (p := ⟨gb299, _, none⟩) NB283_299.out _).trans (((cell_far (p := ⟨gb299, _, none⟩) NB283_299.out _).trans (((cell_far (p := ⟨gb299, _, none⟩) NB283_299.out _).trans (((cell_far (p := ⟨gb299, _, none⟩) NB283_299.out _).trans (((cell_far (p := ⟨gb299, _, none⟩) NB283_299.out _).trans (hHeld.2.2.2.2.2.2.1)))))))))), ((cell_far (p := ⟨gb299, _, none⟩) NB283_299.out _).trans (((cell_far (p := ⟨gb299, _, none⟩) NB283_299.out _).trans (((cell_far (p := ⟨gb299, _, none⟩) NB283_299.out _).trans (((cell_far (p := ⟨gb299, _, none⟩) NB283_299.out _).trans (((cell_far (p := ⟨gb299, _, none⟩) NB283_299.out _).trans (hHeld.2.2.2.2.2.2.2.1)))))))))), ((cell_far (p := ⟨gb299, _, none⟩) NB283_299.out _).trans (((cell_far (p := ⟨gb299, _, none⟩) NB283_299.out _).trans (((cell_far (p := ⟨gb299, _, none⟩) NB283_299.out _).trans (((cell_far (p := ⟨gb299, _, none⟩) NB283_299.out _).trans (((cell_far (p := ⟨gb299, _, none⟩) NB283_299.out _).trans (hHeld.2.2.2.2.2.2.2.2.1)))))))))), ((cell_far (p := ⟨gb299, _, none⟩) NB283_299.out _).trans (((cell_far (p := ⟨gb299, _, none⟩) NB283_299.out _).trans (((cell_far (p := ⟨gb299, _, none⟩) NB283_299.out _).trans (((cell_far (p := ⟨gb299, _, none⟩) NB283_299.out _).trans (((cell_far (p := ⟨gb299, _, none⟩) NB283_299.out _).trans (hHeld.2.2.2.2.2.2.2.2.2))))))))))⟩ (fun hHeld => ?_)
        clear hK K
        refine pure_ (i := 12) (N := some 10) (v := ?_) (a' := ?_) #[true, true, true, true, true, true, true, true, true, true, true, true, true, false] rfl rfl (any_of HT_.out (by kernel_rfl)) (fun _ _ _ h => h) (Or.inl ⟨by rfl, ?_⟩) ?_ ?_
        rotate_left
        · intro w'
          go_simp
          with_reducible rfl
        rotate_left
        · simp only [Act.put, List.setIfInBounds_toArray, List.set_cons_zero, List.set_cons_succ, i64_w, i32_w]
          rfl
        refine pure_ (i := 13) (N := some 11) (v := ?_) (a' := ?_) #[true, true, true, true, true, true, true, true, true, true, true, true, true, true] rfl rfl (any_of HT_.out (by kernel_rfl)) (fun _ _ _ h => h) (Or.inl ⟨by rfl, ?_⟩) ?_ ?_
        rotate_left
        · intro w'
          go_simp
          with_reducible rfl
        rotate_left
        · simp only [Act.put, List.setIfInBounds_toArray, List.set_cons_zero, List.set_cons_succ, i64_w, i32_w]
          rfl
        refine done_ (done_of HT_.out (by kernel_rfl)) ?_
        have H := HH_.out
        clear HH_
        by_cases c21 : t298 = 0
        · rw [if_pos c21] at H
          have c21b0 : (t298 == 0) = true := beq_iff_eq.mpr c21
          have c21b1 : (t298 != 0) = false := bne_eq_false_iff_eq.mpr c21
          clear c21
          have HH_ := Aside0.mk H
          clear H
          have hnb34 := NB282_281.out
          have hnc34 := NB281_282.out
          have hnb35 := NB282_283.out
          have hnc35 := NB283_282.out
          have hnb36 := NB282_299.out
          have hnc36 := NB299_282.out
          have hcz37_0 : w28.cell? ⟨gb282, 0, none⟩ = some (.string a1_0) := (blk_cell BK282.out 0).trans rfl
          have hcz37_1 : w28.cell? ⟨gb282, 1, none⟩ = some (.int .i64 a1_1) := (blk_cell BK282.out 1).trans rfl
          have hcz37_2 : w28.cell? ⟨gb282, 2, none⟩ = some (.int .i64 a1_2) := (blk_cell BK282.out 2).trans rfl
          have hfz37_0 := blk_frozen BK282.out 0
          have hfz37_1 := blk_frozen BK282.out 1
          have hfz37_2 := blk_frozen BK282.out 2
          have H := HH_.out
          clear HH_
          by_cases c22 : a1_0.toList = ([109, 97, 120] : List UInt8)
          · rw [if_pos c22] at H
            have c22b0 : (a1_0.toList == ([109, 97, 120] : List UInt8)) = true := beq_iff_eq.mpr c22
            have c22b1 : (a1_0.toList != ([109, 97, 120] : List UInt8)) = false := bne_eq_false_iff_eq.mpr c22
            clear c22
            obtain rfl := Option.some.inj H
            have hnb38 := NB299_281.out
            have hnc38 := NB281_299.out
            have hnb39 := NB299_283.out
            have hnc39 := NB283_299.out
            have hcz40_0 : w28.cell? ⟨gb299, 0, none⟩ = some (.int .i64 0) := (blk_cell BK299.out 0).trans rfl
            have hcz40_1 : w28.cell? ⟨gb299, 1, none⟩ = some (.int .i64 0) := (blk_cell BK299.out 1).trans rfl
            have hcz40_2 : w28.cell? ⟨gb299, 2, none⟩ = some (.bool false) := (blk_cell BK299.out 2).trans rfl
            have hcz40_3 : w28.cell? ⟨gb299, 3, none⟩ = some (.bool false) := (blk_cell BK299.out 3).trans rfl
            have hcz40_4 : w28.cell? ⟨gb299, 4, none⟩ = some (.int .i64 0) := (blk_cell BK299.out 4).trans rfl
            have hfz40_0 := blk_frozen BK299.out 0
            have hfz40_1 := blk_frozen BK299.out 1
            have hfz40_2 := blk_frozen BK299.out 2
            have hfz40_3 := blk_frozen BK299.out 3
            have hfz40_4 := blk_frozen BK299.out 4
            have hnb41 := NB283_281.out
            have hnc41 := NB281_283.out
            have hcz42_0 : w28.cell? ⟨gb283, 0, none⟩ = some (.int .i64 a3_0) := (blk_cell BK283.out 0).trans rfl
            have hcz42_1 : w28.cell? ⟨gb283, 1, none⟩ = some (.int .i64 a3_1) := (blk_cell BK283.out 1).trans rfl
            have hcz42_2 : w28.cell? ⟨gb283, 2, none⟩ = some (.bool a3_2) := (blk_cell BK283.out 2).trans rfl
            have hcz42_3 : w28.cell? ⟨gb283, 3, none⟩ = some (.bool a3_3) := (blk_cell BK283.out 3).trans rfl
            have hcz42_4 : w28.cell? ⟨gb283, 4, none⟩ = some (.int .i64 a3_4) := (blk_cell BK283.out 4).trans rfl
            have hfz42_0 := blk_frozen BK283.out 0
            have hfz42_1 := blk_frozen BK283.out 1
            have hfz42_2 := blk_frozen BK283.out 2
            have hfz42_3 := blk_frozen BK283.out 3
            have hfz42_4 := blk_frozen BK283.out 4
            try go_wp2
            go_ret
            exact ⟨by first | rfl | (simp [errW_none, errW_some] <;> rfl) | (simp [*, errW_none, errW_some] <;> rfl), by repeat (first | (with_reducible first | exact HB.out | apply below_alloc | apply pw_below_drewN | apply below_drew1 | refine below_set ?_ GE281.out | refine below_set ?_ GE282.out | refine below_set ?_ GE283.out | refine below_set ?_ GE299.out) | exact HB.out)⟩
          · rw [if_neg c22] at H
            have c22b0 : (a1_0.toList == ([109, 97, 120] : List UInt8)) = false := beq_eq_false_iff_ne.mpr c22
            have c22b1 : (a1_0.toList != ([109, 97, 120] : List UInt8)) = true := bne_iff_ne.mpr c22
            by_cases c43 : a1_0.toList = ([108, 97, 98, 101, 108] : List UInt8)
            · rw [if_pos c43] at H
              have c43b0 : (a1_0.toList == ([108, 97, 98, 101, 108] : List UInt8)) = true := beq_iff_eq.mpr c43
              have c43b1 : (a1_0.toList != ([108, 97, 98, 101, 108] : List UInt8)) = false := bne_eq_false_iff_eq.mpr c43
              clear c43
              obtain rfl := Option.some.inj H
              have hnb59 := NB299_281.out
              have hnc59 := NB281_299.out
              have hnb60 := NB299_283.out
              have hnc60 := NB283_299.out
              have hcz61_0 : w28.cell? ⟨gb299, 0, none⟩ = some (.int .i64 0) := (blk_cell BK299.out 0).trans rfl
              have hcz61_1 : w28.cell? ⟨gb299, 1, none⟩ = some (.int .i64 0) := (blk_cell BK299.out 1).trans rfl
              have hcz61_2 : w28.cell? ⟨gb299, 2, none⟩ = some (.bool false) := (blk_cell BK299.out 2).trans rfl
              have hcz61_3 : w28.cell? ⟨gb299, 3, none⟩ = some (.bool false) := (blk_cell BK299.out 3).trans rfl
              have hcz61_4 : w28.cell? ⟨gb299, 4, none⟩ = some (.int .i64 0) := (blk_cell BK299.out 4).trans rfl
              have hfz61_0 := blk_frozen BK299.out 0
              have hfz61_1 := blk_frozen BK299.out 1
              have hfz61_2 := blk_frozen BK299.out 2
              have hfz61_3 := blk_frozen BK299.out 3
              have hfz61_4 := blk_frozen BK299.out 4
              have hnb62 := NB283_281.out
              have hnc62 := NB281_283.out
              have hcz63_0 : w28.cell? ⟨gb283, 0, none⟩ = some (.int .i64 a3_0) := (blk_cell BK283.out 0).trans rfl
              have hcz63_1 : w28.cell? ⟨gb283, 1, none⟩ = some (.int .i64 a3_1) := (blk_cell BK283.out 1).trans rfl
              have hcz63_2 : w28.cell? ⟨gb283, 2, none⟩ = some (.bool a3_2) := (blk_cell BK283.out 2).trans rfl
              have hcz63_3 : w28.cell? ⟨gb283, 3, none⟩ = some (.bool a3_3) := (blk_cell BK283.out 3).trans rfl
              have hcz63_4 : w28.cell? ⟨gb283, 4, none⟩ = some (.int .i64 a3_4) := (blk_cell BK283.out 4).trans rfl
              have hfz63_0 := blk_frozen BK283.out 0
              have hfz63_1 := blk_frozen BK283.out 1
              have hfz63_2 := blk_frozen BK283.out 2
              have hfz63_3 := blk_frozen BK283.out 3
              have hfz63_4 := blk_frozen BK283.out 4
              try go_wp2
              go_ret
              exact ⟨by first | rfl | (simp [errW_none, errW_some] <;> rfl) | (simp [*, errW_none, errW_some] <;> rfl), by repeat (first | (with_reducible first | exact HB.out | apply below_alloc | apply pw_below_drewN | apply below_drew1 | refine below_set ?_ GE281.out | refine below_set ?_ GE282.out | refine below_set ?_ GE283.out | refine below_set ?_ GE299.out) | exact HB.out)⟩
            · rw [if_neg c43] at H
              have c43b0 : (a1_0.toList == ([108, 97, 98, 101, 108] : List UInt8)) = false := beq_eq_false_iff_ne.mpr c43
              have c43b1 : (a1_0.toList != ([108, 97, 98, 101, 108] : List UInt8)) = true := bne_iff_ne.mpr c43
              by_cases c64 : a1_0.toList = ([115, 115, 115, 112] : List UInt8)
              · rw [if_pos c64] at H
                have c64b0 : (a1_0.toList == ([115, 115, 115, 112] : List UInt8)) = true := beq_iff_eq.mpr c64
                have c64b1 : (a1_0.toList != ([115, 115, 115, 112] : List UInt8)) = false := bne_eq_false_iff_eq.mpr c64
                clear c64
                have HH_ := Aside0.mk H
                clear H
                have hnb81 := NB299_281.out
                have hnc81 := NB281_299.out
                have hnb82 := NB299_283.out
                have hnc82 := NB283_299.out
                have hcz83_0 : w28.cell? ⟨gb299, 0, none⟩ = some (.int .i64 0) := (blk_cell BK299.out 0).trans rfl
                have hcz83_1 : w28.cell? ⟨gb299, 1, none⟩ = some (.int .i64 0) := (blk_cell BK299.out 1).trans rfl
                have hcz83_2 : w28.cell? ⟨gb299, 2, none⟩ = some (.bool false) := (blk_cell BK299.out 2).trans rfl
                have hcz83_3 : w28.cell? ⟨gb299, 3, none⟩ = some (.bool false) := (blk_cell BK299.out 3).trans rfl
                have hcz83_4 : w28.cell? ⟨gb299, 4, none⟩ = some (.int .i64 0) := (blk_cell BK299.out 4).trans rfl
                have hfz83_0 := blk_frozen BK299.out 0
                have hfz83_1 := blk_frozen BK299.out 1
                have hfz83_2 := blk_frozen BK299.out 2
                have hfz83_3 := blk_frozen BK299.out 3
                have hfz83_4 := blk_frozen BK299.out 4
                have hnb84 := NB283_281.out
                have hnc84 := NB281_283.out
                have hcz85_0 : w28.cell? ⟨gb283, 0, none⟩ = some (.int .i64 a3_0) := (blk_cell BK283.out 0).trans rfl
                have hcz85_1 : w28.cell? ⟨gb283, 1, none⟩ = some (.int .i64 a3_1) := (blk_cell BK283.out 1).trans rfl
                have hcz85_2 : w28.cell? ⟨gb283, 2, none⟩ = some (.bool a3_2) := (blk_cell BK283.out 2).trans rfl
                have hcz85_3 : w28.cell? ⟨gb283, 3, none⟩ = some (.bool a3_3) := (blk_cell BK283.out 3).trans rfl
                have hcz85_4 : w28.cell? ⟨gb283, 4, none⟩ = some (.int .i64 a3_4) := (blk_cell BK283.out 4).trans rfl
                have hfz85_0 := blk_frozen BK283.out 0
                have hfz85_1 := blk_frozen BK283.out 1
                have hfz85_2 := blk_frozen BK283.out 2
                have hfz85_3 := blk_frozen BK283.out 3
                have hfz85_4 := blk_frozen BK283.out 4
                have H := HH_.out
                clear HH_
                by_cases c65 : t291 ≤ a3_1
                · rw [if_pos c65] at H
                  have c65b0 : decide (t291 ≤ a3_1) = true := decide_eq_true c65
                  clear c65
                  obtain rfl := Option.some.inj H
                  try go_wp2
                  go_ret
                  exact ⟨by first | rfl | (simp [errW_none, errW_some] <;> rfl) | (simp [*, errW_none, errW_some] <;> rfl), by repeat (first | (with_reducible first | exact HB.out | apply below_alloc | apply pw_below_drewN | apply below_drew1 | refine below_set ?_ GE281.out | refine below_set ?_ GE282.out | refine below_set ?_ GE283.out | refine below_set ?_ GE299.out) | exact HB.out)⟩
                · rw [if_neg c65] at H
                  have c65b0 : decide (t291 ≤ a3_1) = false := decide_eq_false c65
                  clear c65
                  obtain rfl := Option.some.inj H
                  try go_wp2
                  go_ret
                  exact ⟨by first | rfl | (simp [errW_none, errW_some] <;> rfl) | (simp [*, errW_none, errW_some] <;> rfl), by repeat (first | (with_reducible first | exact HB.out | apply below_alloc | apply pw_below_drewN | apply below_drew1 | refine below_set ?_ GE281.out | refine below_set ?_ GE282.out | refine below_set ?_ GE283.out | refine below_set ?_ GE299.out) | exact HB.out)⟩
              · rw [if_neg c64] at H
                have c64b0 : (a1_0.toList == ([115, 115, 115, 112] : List UInt8)) = false := beq_eq_false_iff_ne.mpr c64
                have c64b1 : (a1_0.toList != ([115, 115, 115, 112] : List UInt8)) = true := bne_iff_ne.mpr c64
                by_cases c106 : a1_0.toList = ([98, 102, 115] : List UInt8)
                · rw [if_pos c106] at H
                  have c106b0 : (a1_0.toList == ([98, 102, 115] : List UInt8)) = true := beq_iff_eq.mpr c106
                  have c106b1 : (a1_0.toList != ([98, 102, 115] : List UInt8)) = false := bne_eq_false_iff_eq.mpr c106
                  clear c106
                  have HH_ := Aside0.mk H
                  clear H
                  have hnb123 := NB299_281.out
                  have hnc123 := NB281_299.out
                  have hnb124 := NB299_283.out
                  have hnc124 := NB283_299.out
                  have hcz125_0 : w28.cell? ⟨gb299, 0, none⟩ = some (.int .i64 0) := (blk_cell BK299.out 0).trans rfl
                  have hcz125_1 : w28.cell? ⟨gb299, 1, none⟩ = some (.int .i64 0) := (blk_cell BK299.out 1).trans rfl
                  have hcz125_2 : w28.cell? ⟨gb299, 2, none⟩ = some (.bool false) := (blk_cell BK299.out 2).trans rfl
                  have hcz125_3 : w28.cell? ⟨gb299, 3, none⟩ = some (.bool false) := (blk_cell BK299.out 3).trans rfl
                  have hcz125_4 : w28.cell? ⟨gb299, 4, none⟩ = some (.int .i64 0) := (blk_cell BK299.out 4).trans rfl
                  have hfz125_0 := blk_frozen BK299.out 0
                  have hfz125_1 := blk_frozen BK299.out 1
                  have hfz125_2 := blk_frozen BK299.out 2
                  have hfz125_3 := blk_frozen BK299.out 3
                  have hfz125_4 := blk_frozen BK299.out 4
                  have hnb126 := NB283_281.out
                  have hnc126 := NB281_283.out
                  have hcz127_0 : w28.cell? ⟨gb283, 0, none⟩ = some (.int .i64 a3_0) := (blk_cell BK283.out 0).trans rfl
                  have hcz127_1 : w28.cell? ⟨gb283, 1, none⟩ = some (.int .i64 a3_1) := (blk_cell BK283.out 1).trans rfl
                  have hcz127_2 : w28.cell? ⟨gb283, 2, none⟩ = some (.bool a3_2) := (blk_cell BK283.out 2).trans rfl
                  have hcz127_3 : w28.cell? ⟨gb283, 3, none⟩ = some (.bool a3_3) := (blk_cell BK283.out 3).trans rfl
                  have hcz127_4 : w28.cell? ⟨gb283, 4, none⟩ = some (.int .i64 a3_4) := (blk_cell BK283.out 4).trans rfl
                  have hfz127_0 := blk_frozen BK283.out 0
                  have hfz127_1 := blk_frozen BK283.out 1
                  have hfz127_2 := blk_frozen BK283.out 2
                  have hfz127_3 := blk_frozen BK283.out 3
                  have hfz127_4 := blk_frozen BK283.out 4
                  have H := HH_.out
                  clear HH_
                  by_cases c107 : t291 ≤ a3_1
                  · rw [if_pos c107] at H
                    have c107b0 : decide (t291 ≤ a3_1) = true := decide_eq_true c107
                    clear c107
                    obtain rfl := Option.some.inj H
                    try go_wp2
                    go_ret
                    exact ⟨by first | rfl | (simp [errW_none, errW_some] <;> rfl) | (simp [*, errW_none, errW_some] <;> rfl), by repeat (first | (with_reducible first | exact HB.out | apply below_alloc | apply pw_below_drewN | apply below_drew1 | refine below_set ?_ GE281.out | refine below_set ?_ GE282.out | refine below_set ?_ GE283.out | refine below_set ?_ GE299.out) | exact HB.out)⟩
                  · rw [if_neg c107] at H
                    have c107b0 : decide (t291 ≤ a3_1) = false := decide_eq_false c107
                    clear c107
                    obtain rfl := Option.some.inj H
                    try go_wp2
                    go_ret
                    exact ⟨by first | rfl | (simp [errW_none, errW_some] <;> rfl) | (simp [*, errW_none, errW_some] <;> rfl), by repeat (first | (with_reducible first | exact HB.out | apply below_alloc | apply pw_below_drewN | apply below_drew1 | refine below_set ?_ GE281.out | refine below_set ?_ GE282.out | refine below_set ?_ GE283.out | refine below_set ?_ GE299.out) | exact HB.out)⟩
                · rw [if_neg c106] at H
                  have c106b0 : (a1_0.toList == ([98, 102, 115] : List UInt8)) = false := beq_eq_false_iff_ne.mpr c106
                  have c106b1 : (a1_0.toList != ([98, 102, 115] : List UInt8)) = true := bne_iff_ne.mpr c106
                  obtain rfl := Option.some.inj H
                  try go_wp2
                  go_ret
                  exact ⟨by first | rfl | (simp [errW_none, errW_some] <;> rfl) | (simp [*, errW_none, errW_some] <;> rfl), by repeat (first | (with_reducible first | exact HB.out | apply below_alloc | apply pw_below_drewN | apply below_drew1 | refine below_set ?_ GE281.out | refine below_set ?_ GE282.out | refine below_set ?_ GE283.out | refine below_set ?_ GE299.out) | exact HB.out)⟩
        · rw [if_neg c21] at H
          have c21b0 : (t298 == 0) = false := beq_eq_false_iff_ne.mpr c21
          have c21b1 : (t298 != 0) = true := bne_iff_ne.mpr c21
          obtain rfl := Option.some.inj H
          try go_wp2
          go_ret
          exact ⟨by first | rfl | (simp [errW_none, errW_some] <;> rfl) | (simp [*, errW_none, errW_some] <;> rfl), by repeat (first | (with_reducible first | exact HB.out | apply below_alloc | apply pw_below_drewN | apply below_drew1 | refine below_set ?_ GE281.out | refine below_set ?_ GE282.out | refine below_set ?_ GE283.out | refine below_set ?_ GE299.out) | exact HB.out)⟩

end Go.Proofs.Ytdmihkffjbapjaa.P
