/- What these Go functions compute, as Lean functions, and that they do. No condition. -/
import Derived.Test.YtdmihkffjbapjaaPx0
import Derived.Test.YtdmihkffjbapjaaPx1
import Derived.Test.YtdmihkffjbapjaaPx6
import Derived.Test.YtdmihkffjbapjaaPx9
import Derived.Test.YtdmihkffjbapjaaPx10d
namespace Go.Proofs.Ytdmihkffjbapjaa.P
open Go.RowKit Go.Proofs.YtdmihkffjbapjaaW.PrintWords Go.Proofs.YtdmihkffjbapjaaW.PrintLast Go.Proofs.YtdmihkffjbapjaaW.PrintMore
open List renaming setIfInBounds_toArray → q1_, set_cons_zero → q2_, set_cons_succ → q3_
attribute [local go_sem] max2_int min2_int max_two min_two max_three min_three max_four min_four   -- for this text's walks alone
set_option linter.unusedVariables false
set_option linter.unusedSimpArgs false
set_option linter.unnecessarySimpa false

attribute [local go_sem high] eqA28
set_option maxHeartbeats 8000000 in
set_option maxRecDepth 100000 in
theorem modillionlaw07_ProgQuiet.calls (k : Nat) (a0_0 : Int) (A0_1 : Option Addr) (c0_1 : Nat) (l0_1 : List (S46)) (a1_0 : ByteArray) (a1_1 : Int) (a1_2 : Int) (a2 : Int) (a3_0 : Int) (a3_1 : Int) (a3_2 : Bool) (a3_3 : Bool) (a3_4 : Int) (r : Bool) (w : World) (hr0_1 : Kd.C k46 w A0_1 l0_1.length l0_1) (hc0_1 : l0_1.length ≤ c0_1) (h : modillionlaw07_ProgQuiet.f k a0_0 l0_1 a1_0 a1_1 a1_2 a2 a3_0 a3_1 a3_2 a3_3 a3_4 = some r) :
  Calls Try.prog 6 #[.agg #[.int .i64 a0_0, .slice A0_1 l0_1.length c0_1], .agg #[.string a1_0, .int .i64 a1_1, .int .i64 a1_2], .int .i64 a2, .agg #[.int .i64 a3_0, .int .i64 a3_1, .bool a3_2, .bool a3_3, .int .i64 a3_4]] w fun e w' => e = .returned (.bool r) ∧ Below w.heap.size w w' := by
 have hu24 := Try.underlying24
 have hu26 := Try.underlying26
 have hu28 := Try.underlying28
 have HR0_1 := Aside0.mk hr0_1
 have HC0_1 := Aside0.mk hc0_1
 clear hr0_1 hc0_1
 have HB := Aside0.mk (Below.refl w.heap.size w)
 have H : ((modillionlaw07_awake.f k).bind fun t131 => (if t131 = true then (modillionlaw07_ProgQuiet.j0 k a2 (decide ((l0_1.length : Int) > 100)) a0_0 l0_1 a1_0 a1_1 a1_2 a3_0 a3_1 a3_2 a3_3 a3_4) else (modillionlaw07_ProgQuiet.j0 k a2 true a0_0 l0_1 a1_0 a1_1 a1_2 a3_0 a3_1 a3_2 a3_3 a3_4))) = some r := h
 clear h
 have HC5 := Aside0.mk H
 clear H
 go_enter Try.func6, Try.ntmps6
 go_upto_region 1 with (first | ((with_reducible refine gate_dst (N := 4) rfl ?_); (try (refine gate_guard (by rfl) ?_; dsimp only)); refine box_event ?hg (N := 4) ?hd (cs := #[.int .i64 a0_0, .slice A0_1 l0_1.length c0_1]) (t := 24) ?hr ?_; (case hd => rfl); (case hg => rfl); (case hr => first | (go_simp; done) | (go_simp; rfl)); intro gb128 hg w6 hbox hb; have n0_ := Aside0.mk (below_step (by repeat (first | (with_reducible first | exact HB.out | apply below_alloc | apply pw_below_drewN | apply below_drew1) | exact HB.out)) hb); have n1_ := Aside0.mk (hbox); have n2_ := Aside0.mk ((by rw [hg]; exact (below_size (by repeat (first | (with_reducible first | exact HB.out | apply below_alloc | apply pw_below_drewN | apply below_drew1) | exact HB.out))) : w.heap.size ≤ gb128)); have n3_ := Aside0.mk ((by rw [hg]; exact (below_size (by repeat (first | (with_reducible first | exact HB.out | apply below_alloc | apply pw_below_drewN | apply below_drew1) | exact HB.out))) : w.heap.size ≤ gb128)); clear HB; have HB := n0_; have BK128 := n1_; have GW128 := n2_; have GE128 := n3_; clear n0_ n1_ n2_ n3_; clear hb hbox hg) | ((with_reducible refine gate_dst (N := 5) rfl ?_); (try (refine gate_guard (by rfl) ?_; dsimp only)); refine box_event ?hg (N := 5) ?hd (cs := #[.string a1_0, .int .i64 a1_1, .int .i64 a1_2]) (t := 26) ?hr ?_; (case hd => rfl); (case hg => rfl); (case hr => first | (go_simp; done) | (go_simp; rfl)); intro gb129 hg w7 hbox hb; have n0_ := Aside0.mk (blk_below (g := gb128) (o := .cells #[.int .i64 a0_0, .slice A0_1 l0_1.length c0_1] 24 (0, 0)) (by (with_reducible repeat (first | refine blk_drewN ?_ _ | refine blk_drew ?_ | refine blk_alloc ?_ _)); exact BK128.out) hb); have n1_ := Aside0.mk (below_step (by repeat (first | (with_reducible first | exact HB.out | apply below_alloc | apply pw_below_drewN | apply below_drew1 | refine below_set ?_ GE128.out) | exact HB.out)) hb); have n2_ := Aside0.mk (hbox); have n3_ := Aside0.mk ((by rw [hg]; exact (below_size (by repeat (first | (with_reducible first | exact HB.out | apply below_alloc | apply pw_below_drewN | apply below_drew1 | refine below_set ?_ GE128.out) | exact HB.out))) : w.heap.size ≤ gb129)); have n4_ := Aside0.mk ((by rw [hg]; exact (below_size (by repeat (first | (with_reducible first | exact HB.out | apply below_alloc | apply pw_below_drewN | apply below_drew1 | refine below_set ?_ GE128.out) | exact HB.out))) : w.heap.size ≤ gb129)); have n5_ := Aside0.mk ((by rw [hg]; exact Nat.ne_of_lt (blk_lt (g := gb128) (o := .cells #[.int .i64 a0_0, .slice A0_1 l0_1.length c0_1] 24 (0, 0)) (by (with_reducible repeat (first | refine blk_drewN ?_ _ | refine blk_drew ?_ | refine blk_alloc ?_ _)); exact BK128.out)) : gb128 ≠ gb129)); have n6_ := Aside0.mk ((by rw [hg]; exact Nat.ne_of_gt (blk_lt (g := gb128) (o := .cells #[.int .i64 a0_0, .slice A0_1 l0_1.length c0_1] 24 (0, 0)) (by (with_reducible repeat (first | refine blk_drewN ?_ _ | refine blk_drew ?_ | refine blk_alloc ?_ _)); exact BK128.out)) : gb129 ≠ gb128)); clear BK128; clear HB; have BK128 := n0_; have HB := n1_; have BK129 := n2_; have GW129 := n3_; have GE129 := n4_; have NB128_129 := n5_; have NB129_128 := n6_; clear n0_ n1_ n2_ n3_ n4_ n5_ n6_; clear hb hbox hg) | ((with_reducible refine gate_dst (N := 7) rfl ?_); (try (refine gate_guard (by rfl) ?_; dsimp only)); refine box_event ?hg (N := 7) ?hd (cs := #[.int .i64 a3_0, .int .i64 a3_1, .bool a3_2, .bool a3_3, .int .i64 a3_4]) (t := 28) ?hr ?_; (case hd => rfl); (case hg => rfl); (case hr => first | (go_simp; done) | (go_simp; rfl)); intro gb130 hg w8 hbox hb; have n0_ := Aside0.mk (blk_below (g := gb128) (o := .cells #[.int .i64 a0_0, .slice A0_1 l0_1.length c0_1] 24 (0, 0)) (by (with_reducible repeat (first | refine blk_drewN ?_ _ | refine blk_drew ?_ | refine blk_alloc ?_ _)); exact BK128.out) hb); have n1_ := Aside0.mk (blk_below (g := gb129) (o := .cells #[.string a1_0, .int .i64 a1_1, .int .i64 a1_2] 26 (0, 0)) (by (with_reducible repeat (first | refine blk_drewN ?_ _ | refine blk_drew ?_ | refine blk_alloc ?_ _)); exact BK129.out) hb); have n2_ := Aside0.mk (below_step (by repeat (first | (with_reducible first | exact HB.out | apply below_alloc | apply pw_below_drewN | apply below_drew1 | refine below_set ?_ GE128.out | refine below_set ?_ GE129.out) | exact HB.out)) hb); have n3_ := Aside0.mk (hbox); have n4_ := Aside0.mk ((by rw [hg]; exact (below_size (by repeat (first | (with_reducible first | exact HB.out | apply below_alloc | apply pw_below_drewN | apply below_drew1 | refine below_set ?_ GE128.out | refine below_set ?_ GE129.out) | exact HB.out))) : w.heap.size ≤ gb130)); have n5_ := Aside0.mk ((by rw [hg]; exact (below_size (by repeat (first | (with_reducible first | exact HB.out | apply below_alloc | apply pw_below_drewN | apply below_drew1 | refine below_set ?_ GE128.out | refine below_set ?_ GE129.out) | exact HB.out))) : w.heap.size ≤ gb130)); have n6_ := Aside0.mk ((by rw [hg]; exact Nat.ne_of_lt (blk_lt (g := gb128) (o := .cells #[.int .i64 a0_0, .slice A0_1 l0_1.length c0_1] 24 (0, 0)) (by (with_reducible repeat (first | refine blk_drewN ?_ _ | refine blk_drew ?_ | refine blk_alloc ?_ _)); exact BK128.out)) : gb128 ≠ gb130)); have n7_ := Aside0.mk ((by rw [hg]; exact Nat.ne_of_gt (blk_lt (g := gb128) (o := .cells #[.int .i64 a0_0, .slice A0_1 l0_1.length c0_1] 24 (0, 0)) (by (with_reducible repeat (first | refine blk_drewN ?_ _ | refine blk_drew ?_ | refine blk_alloc ?_ _)); exact BK128.out)) : gb130 ≠ gb128)); have n8_ := Aside0.mk ((by rw [hg]; exact Nat.ne_of_lt (blk_lt (g := gb129) (o := .cells #[.string a1_0, .int .i64 a1_1, .int .i64 a1_2] 26 (0, 0)) (by (with_reducible repeat (first | refine blk_drewN ?_ _ | refine blk_drew ?_ | refine blk_alloc ?_ _)); exact BK129.out)) : gb129 ≠ gb130)); have n9_ := Aside0.mk ((by rw [hg]; exact Nat.ne_of_gt (blk_lt (g := gb129) (o := .cells #[.string a1_0, .int .i64 a1_1, .int .i64 a1_2] 26 (0, 0)) (by (with_reducible repeat (first | refine blk_drewN ?_ _ | refine blk_drew ?_ | refine blk_alloc ?_ _)); exact BK129.out)) : gb130 ≠ gb129)); clear BK128; clear BK129; clear HB; have BK128 := n0_; have BK129 := n1_; have HB := n2_; have BK130 := n3_; have GW130 := n4_; have GE130 := n5_; have NB128_130 := n6_; have NB130_128 := n7_; have NB129_130 := n8_; have NB130_129 := n9_; clear n0_ n1_ n2_ n3_ n4_ n5_ n6_ n7_ n8_ n9_; clear hb hbox hg))
 (try simp only [Act.put, q1_, q2_, q3_])
 go_cut [22] (fun v22 wc => ∃ (kq : Nat) (x22_4 : Bool), v22 = .bool x22_4 ∧ Aside0 (modillionlaw07_ProgQuiet.j0 kq a2 x22_4 a0_0 l0_1 a1_0 a1_1 a1_2 a3_0 a3_1 a3_2 a3_3 a3_4 = some r) ∧ Aside0 (kq ≤ k) ∧ Aside0 (wc.heap[gb128]? = some (.cells #[.int .i64 a0_0, (.slice A0_1 l0_1.length c0_1)] 24 (0, 0))) ∧ Aside0 (wc.heap[gb129]? = some (.cells #[.string a1_0, .int .i64 a1_1, .int .i64 a1_2] 26 (0, 0))) ∧ Aside0 (wc.heap[gb130]? = some (.cells #[.int .i64 a3_0, .int .i64 a3_1, .bool a3_2, .bool a3_3, .int .i64 a3_4] 28 (0, 0))) ∧ Aside0 (Below w.heap.size w wc))
 case first =>
  have H := HC5.out
  clear HC5
  replace H := Option.bind_eq_some_iff.mp H
  obtain ⟨t131, A90, H⟩ := H
  replace H : (if t131 = true then (modillionlaw07_ProgQuiet.j0 k a2 (decide ((l0_1.length : Int) > 100)) a0_0 l0_1 a1_0 a1_1 a1_2 a3_0 a3_1 a3_2 a3_3 a3_4) else (modillionlaw07_ProgQuiet.j0 k a2 true a0_0 l0_1 a1_0 a1_1 a1_2 a3_0 a3_1 a3_2 a3_3 a3_4)) = some r := H
  have A9 := Aside0.mk A90
  clear A90
  by_cases c10 : t131 = true
  ·subst c10
   have H1 : (modillionlaw07_ProgQuiet.j0 k a2 (decide ((l0_1.length : Int) > 100)) a0_0 l0_1 a1_0 a1_1 a1_2 a3_0 a3_1 a3_2 a3_3 a3_4) = some r := by rw [if_pos rfl] at H; exact H
   clear H
   have H := H1
   clear H1
   have H' := Aside0.mk H
   clear H
   go_wp2_with (first | ((with_reducible refine gate_callee (f := 10) rfl ?_); refine goesL_ (some 15) rfl rfl Try.func10 (by kernel_rfl) rfl #[] rfl (by (try simp only [List.map_toArray, List.map_cons, List.map_nil]); first | done | rfl | (simp only [List.length_drop, List.length_take]; rfl)) ?_; (with_reducible refine (modillionlaw07_awake.calls k  true _ A9.out).mono ?_); rintro e w11 ⟨rfl, hb⟩; refine ⟨_, rfl, ?_⟩; have n0_ := Aside0.mk (blk_below (g := gb128) (o := .cells #[.int .i64 a0_0, .slice A0_1 l0_1.length c0_1] 24 (0, 0)) (by (with_reducible repeat (first | refine blk_drewN ?_ _ | refine blk_drew ?_ | refine blk_alloc ?_ _)); exact BK128.out) hb); have n1_ := Aside0.mk (blk_below (g := gb129) (o := .cells #[.string a1_0, .int .i64 a1_1, .int .i64 a1_2] 26 (0, 0)) (by (with_reducible repeat (first | refine blk_drewN ?_ _ | refine blk_drew ?_ | refine blk_alloc ?_ _)); exact BK129.out) hb); have n2_ := Aside0.mk (blk_below (g := gb130) (o := .cells #[.int .i64 a3_0, .int .i64 a3_1, .bool a3_2, .bool a3_3, .int .i64 a3_4] 28 (0, 0)) (by (with_reducible repeat (first | refine blk_drewN ?_ _ | refine blk_drew ?_ | refine blk_alloc ?_ _)); exact BK130.out) hb); have n3_ := Aside0.mk (below_step (by repeat (first | (with_reducible first | exact HB.out | apply below_alloc | apply pw_below_drewN | apply below_drew1 | refine below_set ?_ GE128.out | refine below_set ?_ GE129.out | refine below_set ?_ GE130.out) | exact HB.out)) hb); clear BK128; clear BK129; clear BK130; clear HB; have BK128 := n0_; have BK129 := n1_; have BK130 := n2_; have HB := n3_; clear n0_ n1_ n2_ n3_; (try clear hb); (try clear hb2); (try clear hk); (try clear hi); have hnb12 := NB128_129.out; have hnc12 := NB129_128.out; have hnb13 := NB128_130.out; have hnc13 := NB130_128.out; have hcz14_0 : w11.cell? ⟨gb128, 0, none⟩ = some (.int .i64 a0_0) := (blk_cell BK128.out 0).trans rfl; have hcz14_1 : w11.cell? ⟨gb128, 1, none⟩ = some (.slice A0_1 l0_1.length c0_1) := (blk_cell BK128.out 1).trans rfl; have hfz14_0 := blk_frozen BK128.out 0; have hfz14_1 := blk_frozen BK128.out 1))
   go_meet
   case rel => exact ⟨_, (decide ((l0_1.length : Int) > 100)), (by first | rfl | (simp; done) | (simp [*]; done)), H', ⟨by first | omega | exact Nat.le_refl _⟩, ⟨by (with_reducible repeat (first | refine blk_drewN ?_ _ | refine blk_drew ?_ | refine blk_alloc ?_ _)); exact BK128.out⟩, ⟨by (with_reducible repeat (first | refine blk_drewN ?_ _ | refine blk_drew ?_ | refine blk_alloc ?_ _)); exact BK129.out⟩, ⟨by (with_reducible repeat (first | refine blk_drewN ?_ _ | refine blk_drew ?_ | refine blk_alloc ?_ _)); exact BK130.out⟩, ⟨by repeat (first | (with_reducible first | exact HB.out | apply below_alloc | apply pw_below_drewN | apply below_drew1 | refine below_set ?_ GE128.out | refine below_set ?_ GE129.out | refine below_set ?_ GE130.out) | exact HB.out)⟩⟩
  ·replace c10 := Bool.eq_false_iff.mpr c10
   subst c10
   have H1 : (modillionlaw07_ProgQuiet.j0 k a2 true a0_0 l0_1 a1_0 a1_1 a1_2 a3_0 a3_1 a3_2 a3_3 a3_4) = some r := by rw [if_neg (show ¬ (false = true) by decide)] at H; exact H
   clear H
   have H := H1
   clear H1
   have H' := Aside0.mk H
   clear H
   go_wp2_with (first | ((with_reducible refine gate_callee (f := 10) rfl ?_); refine goesL_ (some 15) rfl rfl Try.func10 (by kernel_rfl) rfl #[] rfl (by (try simp only [List.map_toArray, List.map_cons, List.map_nil]); first | done | rfl | (simp only [List.length_drop, List.length_take]; rfl)) ?_; (with_reducible refine (modillionlaw07_awake.calls k  false _ A9.out).mono ?_); rintro e w15 ⟨rfl, hb⟩; refine ⟨_, rfl, ?_⟩; have n0_ := Aside0.mk (blk_below (g := gb128) (o := .cells #[.int .i64 a0_0, .slice A0_1 l0_1.length c0_1] 24 (0, 0)) (by (with_reducible repeat (first | refine blk_drewN ?_ _ | refine blk_drew ?_ | refine blk_alloc ?_ _)); exact BK128.out) hb); have n1_ := Aside0.mk (blk_below (g := gb129) (o := .cells #[.string a1_0, .int .i64 a1_1, .int .i64 a1_2] 26 (0, 0)) (by (with_reducible repeat (first | refine blk_drewN ?_ _ | refine blk_drew ?_ | refine blk_alloc ?_ _)); exact BK129.out) hb); have n2_ := Aside0.mk (blk_below (g := gb130) (o := .cells #[.int .i64 a3_0, .int .i64 a3_1, .bool a3_2, .bool a3_3, .int .i64 a3_4] 28 (0, 0)) (by (with_reducible repeat (first | refine blk_drewN ?_ _ | refine blk_drew ?_ | refine blk_alloc ?_ _)); exact BK130.out) hb); have n3_ := Aside0.mk (below_step (by repeat (first | (with_reducible first | exact HB.out | apply below_alloc | apply pw_below_drewN | apply below_drew1 | refine below_set ?_ GE128.out | refine below_set ?_ GE129.out | refine below_set ?_ GE130.out) | exact HB.out)) hb); clear BK128; clear BK129; clear BK130; clear HB; have BK128 := n0_; have BK129 := n1_; have BK130 := n2_; have HB := n3_; clear n0_ n1_ n2_ n3_; (try clear hb); (try clear hb2); (try clear hk); (try clear hi)))
   go_meet
   case rel => exact ⟨_, (true), (by first | rfl | (simp; done) | (simp [*]; done)), H', ⟨by first | omega | exact Nat.le_refl _⟩, ⟨by (with_reducible repeat (first | refine blk_drewN ?_ _ | refine blk_drew ?_ | refine blk_alloc ?_ _)); exact BK128.out⟩, ⟨by (with_reducible repeat (first | refine blk_drewN ?_ _ | refine blk_drew ?_ | refine blk_alloc ?_ _)); exact BK129.out⟩, ⟨by (with_reducible repeat (first | refine blk_drewN ?_ _ | refine blk_drew ?_ | refine blk_alloc ?_ _)); exact BK130.out⟩, ⟨by repeat (first | (with_reducible first | exact HB.out | apply below_alloc | apply pw_below_drewN | apply below_drew1 | refine below_set ?_ GE128.out | refine below_set ?_ GE129.out | refine below_set ?_ GE130.out) | exact HB.out)⟩⟩
 case rest =>
  clear HC5
  try clear c1
  try clear p2
  try clear c6
  try clear c10
  try clear c12
  try clear c13
  try clear hcz14_0
  try clear hcz14_1
  try clear hfz14_0
  try clear hfz14_1
  obtain ⟨kq, x22_4, rfl, HA, HJ4, BK128, BK129, BK130, HB⟩ := hcut
  cases kq with
  | zero => exact absurd HA.out (by simp [modillionlaw07_ProgQuiet.j0])
  | succ kj4 =>
   have H := HA.out
   clear HA
   simp only [modillionlaw07_ProgQuiet.j0] at H
   by_cases c16 : x22_4 = true
   ·subst c16
    have H1 : ((modillionlaw07_awake.f kj4).bind fun t132 => (some t132)) = some r := by rw [if_pos rfl] at H; exact H
    clear H
    have H := H1
    clear H1
    replace H := Option.bind_eq_some_iff.mp H
    obtain ⟨t132, A170, H⟩ := H
    replace H : (some t132) = some r := H
    have A17 := Aside0.mk A170
    clear A170
    obtain rfl := Option.some.inj H
    go_wp2_with (first | ((with_reducible refine gate_callee (f := 10) rfl ?_); refine goesL_ (some 23) rfl rfl Try.func10 (by kernel_rfl) rfl #[] rfl (by (try simp only [List.map_toArray, List.map_cons, List.map_nil]); first | done | rfl | (simp only [List.length_drop, List.length_take]; rfl)) ?_; (with_reducible refine (modillionlaw07_awake.calls kj4  t132 _ A17.out).mono ?_); rintro e w18 ⟨rfl, hb⟩; refine ⟨_, rfl, ?_⟩; have n0_ := Aside0.mk (blk_below (g := gb128) (o := .cells #[.int .i64 a0_0, .slice A0_1 l0_1.length c0_1] 24 (0, 0)) (by (with_reducible repeat (first | refine blk_drewN ?_ _ | refine blk_drew ?_ | refine blk_alloc ?_ _)); exact BK128.out) hb); have n1_ := Aside0.mk (blk_below (g := gb129) (o := .cells #[.string a1_0, .int .i64 a1_1, .int .i64 a1_2] 26 (0, 0)) (by (with_reducible repeat (first | refine blk_drewN ?_ _ | refine blk_drew ?_ | refine blk_alloc ?_ _)); exact BK129.out) hb); have n2_ := Aside0.mk (blk_below (g := gb130) (o := .cells #[.int .i64 a3_0, .int .i64 a3_1, .bool a3_2, .bool a3_3, .int .i64 a3_4] 28 (0, 0)) (by (with_reducible repeat (first | refine blk_drewN ?_ _ | refine blk_drew ?_ | refine blk_alloc ?_ _)); exact BK130.out) hb); have n3_ := Aside0.mk (below_step (by repeat (first | (with_reducible first | exact HB.out | apply below_alloc | apply pw_below_drewN | apply below_drew1 | refine below_set ?_ GE128.out | refine below_set ?_ GE129.out | refine below_set ?_ GE130.out) | exact HB.out)) hb); clear BK128; clear BK129; clear BK130; clear HB; have BK128 := n0_; have BK129 := n1_; have BK130 := n2_; have HB := n3_; clear n0_ n1_ n2_ n3_; (try clear hb); (try clear hb2); (try clear hk); (try clear hi)))
    go_ret
    exact ⟨by first | rfl | (simp [errW_none, errW_some] <;> rfl) | (simp [*, errW_none, errW_some] <;> rfl), by repeat (first | (with_reducible first | exact HB.out | apply below_alloc | apply pw_below_drewN | apply below_drew1 | refine below_set ?_ GE128.out | refine below_set ?_ GE129.out | refine below_set ?_ GE130.out) | exact HB.out)⟩
   ·replace c16 := Bool.eq_false_iff.mpr c16
    subst c16
    have H1 : ((modillionlaw07_own.f a0_0 l0_1).bind fun bt133 => ((prog_Step.f bt133.1 bt133.2 a1_0 a1_1 a1_2 a2 a3_0 a3_1 a3_2 a3_3 a3_4).bind fun bt137 => (if bt137.2.2.2.2.2.2 = 0 then (if a3_2 = true then (modillionlaw07_ProgQuiet.j1 kj4 bt137.2.2.2.2.2.1 false a0_0 l0_1 a1_0 a1_1 a1_2 a3_0 a3_1 a3_2 a3_3 a3_4 bt137.1 bt137.2.1 bt137.2.2.1 bt137.2.2.2.1 bt137.2.2.2.2.1) else (modillionlaw07_ProgQuiet.j1 kj4 bt137.2.2.2.2.2.1 (!a3_3) a0_0 l0_1 a1_0 a1_1 a1_2 a3_0 a3_1 a3_2 a3_3 a3_4 bt137.1 bt137.2.1 bt137.2.2.1 bt137.2.2.2.1 bt137.2.2.2.2.1)) else (if (bt137.2.2.2.2.2.1.length : Int) = 0 then (some (bt137.1 == 0 && (bt137.2.1 == 0 && (!bt137.2.2.1 && (!bt137.2.2.2.1 && (bt137.2.2.2.2.1 == 0)))))) else (some false))))) = some r := by rw [if_neg (show ¬ (false = true) by decide)] at H; exact H
    clear H
    have H := H1
    clear H1
    replace H := Option.bind_eq_some_iff.mp H
    obtain ⟨⟨t133, t134⟩, A190, H⟩ := H
    replace H : ((prog_Step.f t133 t134 a1_0 a1_1 a1_2 a2 a3_0 a3_1 a3_2 a3_3 a3_4).bind fun bt137 => (if bt137.2.2.2.2.2.2 = 0 then (if a3_2 = true then (modillionlaw07_ProgQuiet.j1 kj4 bt137.2.2.2.2.2.1 false a0_0 l0_1 a1_0 a1_1 a1_2 a3_0 a3_1 a3_2 a3_3 a3_4 bt137.1 bt137.2.1 bt137.2.2.1 bt137.2.2.2.1 bt137.2.2.2.2.1) else (modillionlaw07_ProgQuiet.j1 kj4 bt137.2.2.2.2.2.1 (!a3_3) a0_0 l0_1 a1_0 a1_1 a1_2 a3_0 a3_1 a3_2 a3_3 a3_4 bt137.1 bt137.2.1 bt137.2.2.1 bt137.2.2.2.1 bt137.2.2.2.2.1)) else (if (bt137.2.2.2.2.2.1.length : Int) = 0 then (some (bt137.1 == 0 && (bt137.2.1 == 0 && (!bt137.2.2.1 && (!bt137.2.2.2.1 && (bt137.2.2.2.2.1 == 0)))))) else (some false)))) = some r := H
    have A19 := Aside0.mk A190
    clear A190
    replace H := Option.bind_eq_some_iff.mp H
    obtain ⟨⟨t137, t138, t139, t140, t141, t142, t145⟩, A200, H⟩ := H
    replace H : (if t145 = 0 then (if a3_2 = true then (modillionlaw07_ProgQuiet.j1 kj4 t142 false a0_0 l0_1 a1_0 a1_1 a1_2 a3_0 a3_1 a3_2 a3_3 a3_4 t137 t138 t139 t140 t141) else (modillionlaw07_ProgQuiet.j1 kj4 t142 (!a3_3) a0_0 l0_1 a1_0 a1_1 a1_2 a3_0 a3_1 a3_2 a3_3 a3_4 t137 t138 t139 t140 t141)) else (if (t142.length : Int) = 0 then (some (t137 == 0 && (t138 == 0 && (!t139 && (!t140 && (t141 == 0)))))) else (some false))) = some r := H
    have A20 := Aside0.mk A200
    clear A200
    have HH_ := Aside0.mk H
    clear H
    try go_wp2
    have n0_ := Aside0.mk (blk_drew BK128.out)
    have n1_ := Aside0.mk (blk_drew BK129.out)
    have n2_ := Aside0.mk (blk_drew BK130.out)
    have n3_ := Aside0.mk (below_drew1 HB.out)
    clear BK128
    clear BK129
    clear BK130
    clear HB
    have BK128 := n0_
    have BK129 := n1_
    have BK130 := n2_
    have HB := n3_
    clear n0_ n1_ n2_ n3_
    refine start_ (n := 14) (S := fun w' => w'.cell? ⟨gb128, 0, none⟩ = some (.int .i64 a0_0) ∧ w'.cell? ⟨gb128, 1, none⟩ = some (.slice A0_1 l0_1.length c0_1) ∧ w'.cell? ⟨gb129, 0, none⟩ = some (.string a1_0) ∧ w'.cell? ⟨gb129, 1, none⟩ = some (.int .i64 a1_1) ∧ w'.cell? ⟨gb129, 2, none⟩ = some (.int .i64 a1_2) ∧ w'.cell? ⟨gb130, 0, none⟩ = some (.int .i64 a3_0) ∧ w'.cell? ⟨gb130, 1, none⟩ = some (.int .i64 a3_1) ∧ w'.cell? ⟨gb130, 2, none⟩ = some (.bool a3_2) ∧ w'.cell? ⟨gb130, 3, none⟩ = some (.bool a3_3) ∧ w'.cell? ⟨gb130, 4, none⟩ = some (.int .i64 a3_4)) (ds := []) #[false, false, false, false, false, false, false, false, false, false, false, false, false, false] (by kernel_rfl) rfl rfl ⟨(blk_cell BK128.out 0).trans rfl, (blk_cell BK128.out 1).trans rfl, (blk_cell BK129.out 0).trans rfl, (blk_cell BK129.out 1).trans rfl, (blk_cell BK129.out 2).trans rfl, (blk_cell BK130.out 0).trans rfl, (blk_cell BK130.out 1).trans rfl, (blk_cell BK130.out 2).trans rfl, (blk_cell BK130.out 3).trans rfl, (blk_cell BK130.out 4).trans rfl⟩ (fun hHeld => ?_); refine with_tabW modillionlaw07_ProgQuiet.tab3 modillionlaw07_ProgQuiet.bits3 (fun HT_ HW_ => ?_)
    generalize wc.drew = w23 at BK128 BK129 BK130 HB hHeld ⊢
    refine pure_ (i := 3) (N := some 28) (v := ?_) (a' := ?_) #[false, false, false, true, false, false, false, false, false, false, false, false, false, false] rfl rfl (any_of HT_.out (by kernel_rfl)) (fun _ _ _ h => h) (Or.inl ⟨by rfl, ?_⟩) ?_ ?_
    rotate_left
    ·intro w'
     go_simp
     with_reducible rfl
    rotate_left
    ·simp only [Act.put, q1_, q2_, q3_, i64_w, i32_w]
     rfl
    refine take_ (i := 0) (N := some 25) (v := ?_) (a' := ?_) #[true, false, false, true, false, false, false, false, false, false, false, false, false, false] rfl rfl (take_ofW HT_.out HW_.out (by kernel_rfl)) (fun _ _ _ h => h) (Or.inl ⟨by rfl, ?_⟩) hHeld ?_ ?_
    rotate_left
    ·rintro w' ⟨s0, s1, s2, s3, s4, s5, s6, s7, s8, s9⟩
     go_simp
     with_reducible rfl
    rotate_left
    ·simp only [Act.put, q1_, q2_, q3_, i64_w, i32_w]
     rfl
    refine take_ (i := 2) (N := some 27) (v := ?_) (a' := ?_) #[true, false, true, true, false, false, false, false, false, false, false, false, false, false] rfl rfl (take_ofW HT_.out HW_.out (by kernel_rfl)) (fun _ _ _ h => h) (Or.inl ⟨by rfl, ?_⟩) hHeld ?_ ?_
    rotate_left
    ·rintro w' ⟨s0, s1, s2, s3, s4, s5, s6, s7, s8, s9⟩
     go_simp
     with_reducible rfl
    rotate_left
    ·simp only [Act.put, q1_, q2_, q3_, i64_w, i32_w]
     rfl
    refine take_ (i := 4) (N := some 29) (v := ?_) (a' := ?_) #[true, false, true, true, true, false, false, false, false, false, false, false, false, false] rfl rfl (take_ofW HT_.out HW_.out (by kernel_rfl)) (fun _ _ _ h => h) (Or.inl ⟨by rfl, ?_⟩) hHeld ?_ ?_
    rotate_left
    ·rintro w' ⟨s0, s1, s2, s3, s4, s5, s6, s7, s8, s9⟩
     go_simp
     with_reducible rfl
    rotate_left
    ·simp only [Act.put, q1_, q2_, q3_, i64_w, i32_w]
     rfl
    refine join_ (σ := Value × Value × Nat) 3 #[true, true, true, true, true, true, true, true, true, true, true, false, false, false] (fun s_ => [(26, .agg #[.int .i64 t133, s_.1]), (30, .tuple #[.agg #[.int .i64 t137, .int .i64 t138, .bool t139, .bool t140, .int .i64 t141], s_.2.1, .int .i64 t145]), (9, .pointer (some ⟨s_.2.2, 0, none⟩)), (24, .tuple #[.agg #[.int .i64 t137, .int .i64 t138, .bool t139, .bool t140, .int .i64 t141], s_.2.1, .int .i64 t145]), (31, .agg #[.int .i64 t137, .int .i64 t138, .bool t139, .bool t140, .int .i64 t141]), (32, s_.2.1), (33, .int .i64 t145)]) (fun s_ w' => (w'.cell? ⟨gb128, 0, none⟩ = some (.int .i64 a0_0) ∧ w'.cell? ⟨gb128, 1, none⟩ = some (.slice A0_1 l0_1.length c0_1) ∧ w'.cell? ⟨gb129, 0, none⟩ = some (.string a1_0) ∧ w'.cell? ⟨gb129, 1, none⟩ = some (.int .i64 a1_1) ∧ w'.cell? ⟨gb129, 2, none⟩ = some (.int .i64 a1_2) ∧ w'.cell? ⟨gb130, 0, none⟩ = some (.int .i64 a3_0) ∧ w'.cell? ⟨gb130, 1, none⟩ = some (.int .i64 a3_1) ∧ w'.cell? ⟨gb130, 2, none⟩ = some (.bool a3_2) ∧ w'.cell? ⟨gb130, 3, none⟩ = some (.bool a3_3) ∧ w'.cell? ⟨gb130, 4, none⟩ = some (.int .i64 a3_4)) ∧ (Kd.R k46 46 w' w.heap.size (fun _ => True) s_.1 t134) ∧ (Kd.R k48 48 w' w.heap.size (fun _ => True) s_.2.1 t142) ∧ (w'.heap[gb128]? = some (.cells #[.int .i64 a0_0, .slice A0_1 l0_1.length c0_1] 24 (0, 0))) ∧ (w'.heap[gb129]? = some (.cells #[.string a1_0, .int .i64 a1_1, .int .i64 a1_2] 26 (0, 0))) ∧ (w'.heap[gb130]? = some (.cells #[.int .i64 a3_0, .int .i64 a3_1, .bool a3_2, .bool a3_3, .int .i64 a3_4] 28 (0, 0))) ∧ (w'.heap[s_.2.2]? = some (.cells #[.int .i64 0, .int .i64 0, .bool false, .bool false, .int .i64 0] 28 (0, 0))) ∧ (w.heap.size ≤ s_.2.2) ∧ (w.heap.size ≤ s_.2.2) ∧ (gb128 ≠ s_.2.2) ∧ (s_.2.2 ≠ gb128) ∧ (gb129 ≠ s_.2.2) ∧ (s_.2.2 ≠ gb129) ∧ (gb130 ≠ s_.2.2) ∧ (s_.2.2 ≠ gb130) ∧ (Below w.heap.size w w')) ?_ ?_
    rotate_left
    ·intro hCont
     refine two_ (i := 1) (j := 10) (Ni := some 26) (Nj := some 9) #[true, true, true, true, true, false, false, false, false, false, false, false, false, false] #[true, false, true, true, true, false, false, false, false, false, true, false, false, false] rfl rfl rfl rfl (two_of HT_.out (by kernel_rfl)) (by decide) (by decide) (fun K hK => ?_) (fun K hK => ?_)
     ·skip
      refine goes_ Try.func13 (by kernel_rfl) rfl #[.agg #[.int .i64 a0_0, .slice A0_1 l0_1.length c0_1]] (by rfl) rfl rfl (by (try simp only [List.map_toArray, List.map_cons, List.map_nil]); first | done | rfl | (simp only [List.length_drop, List.length_take]; rfl)) ?_
      with_reducible refine (modillionlaw07_own.calls a0_0 _ _ l0_1 t133 t134 _ ?side1 ?side2 A19.out).mono ?_
      (case side1 => repeat (first | exact (Kd.C_below HR0_1.out HB.out) | (with_reducible refine Kd.C_alloc ?_ _) | (with_reducible refine Kd.C_drewN ?_ _) | (with_reducible refine Kd.C_drew ?_)))
      (case side2 => exact HC0_1.out)
      rintro e w24 ⟨v135, rfl, ho0, hb⟩
      refine ⟨_, rfl, ?_⟩
      have n0_ := Aside0.mk (Kd.R_lower ho0 (below_size (by repeat (first | (with_reducible first | exact HB.out | apply below_alloc | apply pw_below_drewN | apply below_drew1 | refine below_set ?_ GE128.out | refine below_set ?_ GE129.out | refine below_set ?_ GE130.out) | exact HB.out))))
      have n1_ := Aside0.mk (blk_below (g := gb128) (o := .cells #[.int .i64 a0_0, .slice A0_1 l0_1.length c0_1] 24 (0, 0)) (by (with_reducible repeat (first | refine blk_drewN ?_ _ | refine blk_drew ?_ | refine blk_alloc ?_ _)); exact BK128.out) hb)
      have n2_ := Aside0.mk (blk_below (g := gb129) (o := .cells #[.string a1_0, .int .i64 a1_1, .int .i64 a1_2] 26 (0, 0)) (by (with_reducible repeat (first | refine blk_drewN ?_ _ | refine blk_drew ?_ | refine blk_alloc ?_ _)); exact BK129.out) hb)
      have n3_ := Aside0.mk (blk_below (g := gb130) (o := .cells #[.int .i64 a3_0, .int .i64 a3_1, .bool a3_2, .bool a3_3, .int .i64 a3_4] 28 (0, 0)) (by (with_reducible repeat (first | refine blk_drewN ?_ _ | refine blk_drew ?_ | refine blk_alloc ?_ _)); exact BK130.out) hb)
      have n4_ := Aside0.mk (below_step (by repeat (first | (with_reducible first | exact HB.out | apply below_alloc | apply pw_below_drewN | apply below_drew1 | refine below_set ?_ GE128.out | refine below_set ?_ GE129.out | refine below_set ?_ GE130.out) | exact HB.out)) hb)
      clear BK128
      clear BK129
      clear BK130
      clear HB
      have HO136 := n0_
      have BK128 := n1_
      have BK129 := n2_
      have BK130 := n3_
      have HB := n4_
      clear n0_ n1_ n2_ n3_ n4_
      (try clear hb)
      (try clear hb2)
      (try clear hk)
      (try clear hi)
      (try clear ho0)
      obtain ⟨Ao25, co25, eo25⟩ := Kd.R_slice HO136.out
      (first | subst eo25 | (injection eo25 with f1_ f2_ f3_; have f4_ := f1_.symm; have f5_ := f3_.symm; clear f1_ f2_ f3_; subst f4_; subst f5_))
      refine hK.out _ _ ⟨(blk_cell BK128.out 0).trans rfl, (blk_cell BK128.out 1).trans rfl, (blk_cell BK129.out 0).trans rfl, (blk_cell BK129.out 1).trans rfl, (blk_cell BK129.out 2).trans rfl, (blk_cell BK130.out 0).trans rfl, (blk_cell BK130.out 1).trans rfl, (blk_cell BK130.out 2).trans rfl, (blk_cell BK130.out 3).trans rfl, (blk_cell BK130.out 4).trans rfl⟩ (fun hHeld => ?_)
      clear hK K
      refine norm_ (a' := ?_) ?_ ?_
      rotate_left
      ·show Act.put _ (some 26) _ = _
       simp only [Act.put, q1_, q2_, q3_, i64_w, i32_w]
       rfl
      refine two_ (i := 5) (j := 10) (Ni := some 30) (Nj := some 9) #[true, true, true, true, true, true, false, false, false, false, false, false, false, false] #[true, true, true, true, true, false, false, false, false, false, true, false, false, false] rfl rfl rfl rfl (two_of HT_.out (by kernel_rfl)) (by decide) (by decide) (fun K hK => ?_) (fun K hK => ?_)
      ·skip
       refine goes_ Try.func12 (by kernel_rfl) rfl #[.agg #[.int .i64 t133, .slice Ao25 t134.length co25], .agg #[.string a1_0, .int .i64 a1_1, .int .i64 a1_2], .int .i64 a2, .agg #[.int .i64 a3_0, .int .i64 a3_1, .bool a3_2, .bool a3_3, .int .i64 a3_4]] (by rfl) rfl rfl (by (try simp only [List.map_toArray, List.map_cons, List.map_nil]); first | done | rfl | (simp only [List.length_drop, List.length_take]; rfl)) ?_
       with_reducible refine (prog_Step.calls t133 _ _ t134 a1_0 a1_1 a1_2 a2 a3_0 a3_1 a3_2 a3_3 a3_4 t137 t138 t139 t140 t141 t142 t145 _ ?side1 ?side2 A20.out).mono ?_
       (case side1 => repeat (first | exact (Kd.R_reads' HO136.out).2.2 | (with_reducible refine Kd.C_alloc ?_ _) | (with_reducible refine Kd.C_drewN ?_ _) | (with_reducible refine Kd.C_drew ?_)))
       (case side2 => exact (Kd.R_reads' HO136.out).2.1)
       rintro e w26 ⟨v143, rfl, ho0, hb⟩
       refine ⟨_, rfl, ?_⟩
       have n0_ := Aside0.mk (Kd.R_below (by (with_reducible repeat (first | apply Kd.R_alloc | apply Kd.R_drewN | apply Kd.R_drew)); exact HO136.out) hb)
       have n1_ := Aside0.mk (Kd.R_lower ho0 (below_size (by repeat (first | (with_reducible first | exact HB.out | apply below_alloc | apply pw_below_drewN | apply below_drew1 | refine below_set ?_ GE128.out | refine below_set ?_ GE129.out | refine below_set ?_ GE130.out) | exact HB.out))))
       have n2_ := Aside0.mk (blk_below (g := gb128) (o := .cells #[.int .i64 a0_0, .slice A0_1 l0_1.length c0_1] 24 (0, 0)) (by (with_reducible repeat (first | refine blk_drewN ?_ _ | refine blk_drew ?_ | refine blk_alloc ?_ _)); exact BK128.out) hb)
       have n3_ := Aside0.mk (blk_below (g := gb129) (o := .cells #[.string a1_0, .int .i64 a1_1, .int .i64 a1_2] 26 (0, 0)) (by (with_reducible repeat (first | refine blk_drewN ?_ _ | refine blk_drew ?_ | refine blk_alloc ?_ _)); exact BK129.out) hb)
       have n4_ := Aside0.mk (blk_below (g := gb130) (o := .cells #[.int .i64 a3_0, .int .i64 a3_1, .bool a3_2, .bool a3_3, .int .i64 a3_4] 28 (0, 0)) (by (with_reducible repeat (first | refine blk_drewN ?_ _ | refine blk_drew ?_ | refine blk_alloc ?_ _)); exact BK130.out) hb)
       have n5_ := Aside0.mk (below_step (by repeat (first | (with_reducible first | exact HB.out | apply below_alloc | apply pw_below_drewN | apply below_drew1 | refine below_set ?_ GE128.out | refine below_set ?_ GE129.out | refine below_set ?_ GE130.out) | exact HB.out)) hb)
       clear HO136
       clear BK128
       clear BK129
       clear BK130
       clear HB
       have HO136 := n0_
       have HO144 := n1_
       have BK128 := n2_
       have BK129 := n3_
       have BK130 := n4_
       have HB := n5_
       clear n0_ n1_ n2_ n3_ n4_ n5_
       (try clear hb)
       (try clear hb2)
       (try clear hk)
       (try clear hi)
       (try clear ho0)
       refine hK.out _ _ ⟨(blk_cell BK128.out 0).trans rfl, (blk_cell BK128.out 1).trans rfl, (blk_cell BK129.out 0).trans rfl, (blk_cell BK129.out 1).trans rfl, (blk_cell BK129.out 2).trans rfl, (blk_cell BK130.out 0).trans rfl, (blk_cell BK130.out 1).trans rfl, (blk_cell BK130.out 2).trans rfl, (blk_cell BK130.out 3).trans rfl, (blk_cell BK130.out 4).trans rfl⟩ (fun hHeld => ?_)
       clear hK K
       refine norm_ (a' := ?_) ?_ ?_
       rotate_left
       ·show Act.put _ (some 30) _ = _
        simp only [Act.put, q1_, q2_, q3_, i64_w, i32_w]
        rfl
       refine pure_ (i := 6) (N := some 24) (v := ?_) (a' := ?_) #[true, true, true, true, true, true, true, false, false, false, false, false, false, false] rfl rfl (any_of HT_.out (by kernel_rfl)) (fun _ _ _ h => h) (Or.inl ⟨by rfl, ?_⟩) ?_ ?_
       rotate_left
       ·intro w'
        go_simp
        with_reducible rfl
       rotate_left
       ·simp only [Act.put, q1_, q2_, q3_, i64_w, i32_w]
        rfl
       refine pure_ (i := 7) (N := some 31) (v := ?_) (a' := ?_) #[true, true, true, true, true, true, true, true, false, false, false, false, false, false] rfl rfl (any_of HT_.out (by kernel_rfl)) (fun _ _ _ h => h) (Or.inl ⟨by rfl, ?_⟩) ?_ ?_
       rotate_left
       ·intro w'
        go_simp
        with_reducible rfl
       rotate_left
       ·simp only [Act.put, q1_, q2_, q3_, i64_w, i32_w]
        rfl
       refine pure_ (i := 8) (N := some 32) (v := ?_) (a' := ?_) #[true, true, true, true, true, true, true, true, true, false, false, false, false, false] rfl rfl (any_of HT_.out (by kernel_rfl)) (fun _ _ _ h => h) (Or.inl ⟨by rfl, ?_⟩) ?_ ?_
       rotate_left
       ·intro w'
        go_simp
        with_reducible rfl
       rotate_left
       ·simp only [Act.put, q1_, q2_, q3_, i64_w, i32_w]
        rfl
       refine pure_ (i := 9) (N := some 33) (v := ?_) (a' := ?_) #[true, true, true, true, true, true, true, true, true, true, false, false, false, false] rfl rfl (any_of HT_.out (by kernel_rfl)) (fun _ _ _ h => h) (Or.inl ⟨by rfl, ?_⟩) ?_ ?_
       rotate_left
       ·intro w'
        go_simp
        with_reducible rfl
       rotate_left
       ·simp only [Act.put, q1_, q2_, q3_, i64_w, i32_w]
        rfl
       refine one_ (i := 10) (N := some 9) #[true, true, true, true, true, true, true, true, true, true, true, false, false, false] rfl rfl (one_of HT_.out (by kernel_rfl)) (by decide) (fun K hK => ?_)
       refine box_step ?hg (N := 9) ?hd (cs := #[.int .i64 0, .int .i64 0, .bool false, .bool false, .int .i64 0]) (t := 28) ?hr ?_; (case hd => rfl); (case hg => rfl); (case hr => first | (go_simp; done) | (go_simp; rfl))
       intro gb146 hg w27 hbox hb
       have n0_ := Aside0.mk (Kd.R_below (by (with_reducible repeat (first | apply Kd.R_alloc | apply Kd.R_drewN | apply Kd.R_drew)); exact HO136.out) hb)
       have n1_ := Aside0.mk (Kd.R_below (by (with_reducible repeat (first | apply Kd.R_alloc | apply Kd.R_drewN | apply Kd.R_drew)); exact HO144.out) hb)
       have n2_ := Aside0.mk (blk_below (g := gb128) (o := .cells #[.int .i64 a0_0, .slice A0_1 l0_1.length c0_1] 24 (0, 0)) (by (with_reducible repeat (first | refine blk_drewN ?_ _ | refine blk_drew ?_ | refine blk_alloc ?_ _)); exact BK128.out) hb)
       have n3_ := Aside0.mk (blk_below (g := gb129) (o := .cells #[.string a1_0, .int .i64 a1_1, .int .i64 a1_2] 26 (0, 0)) (by (with_reducible repeat (first | refine blk_drewN ?_ _ | refine blk_drew ?_ | refine blk_alloc ?_ _)); exact BK129.out) hb)
       have n4_ := Aside0.mk (blk_below (g := gb130) (o := .cells #[.int .i64 a3_0, .int .i64 a3_1, .bool a3_2, .bool a3_3, .int .i64 a3_4] 28 (0, 0)) (by (with_reducible repeat (first | refine blk_drewN ?_ _ | refine blk_drew ?_ | refine blk_alloc ?_ _)); exact BK130.out) hb)
       have n5_ := Aside0.mk (below_step (by repeat (first | (with_reducible first | exact HB.out | apply below_alloc | apply pw_below_drewN | apply below_drew1 | refine below_set ?_ GE128.out | refine below_set ?_ GE129.out | refine below_set ?_ GE130.out) | exact HB.out)) hb)
       have n6_ := Aside0.mk (hbox)
       have n7_ := Aside0.mk ((by rw [hg]; exact (below_size (by repeat (first | (with_reducible first | exact HB.out | apply below_alloc | apply pw_below_drewN | apply below_drew1 | refine below_set ?_ GE128.out | refine below_set ?_ GE129.out | refine below_set ?_ GE130.out) | exact HB.out))) : w.heap.size ≤ gb146))
       have n8_ := Aside0.mk ((by rw [hg]; exact (below_size (by repeat (first | (with_reducible first | exact HB.out | apply below_alloc | apply pw_below_drewN | apply below_drew1 | refine below_set ?_ GE128.out | refine below_set ?_ GE129.out | refine below_set ?_ GE130.out) | exact HB.out))) : w.heap.size ≤ gb146))
       have n9_ := Aside0.mk ((by rw [hg]; exact Nat.ne_of_lt (blk_lt (g := gb128) (o := .cells #[.int .i64 a0_0, .slice A0_1 l0_1.length c0_1] 24 (0, 0)) (by (with_reducible repeat (first | refine blk_drewN ?_ _ | refine blk_drew ?_ | refine blk_alloc ?_ _)); exact BK128.out)) : gb128 ≠ gb146))
       have n10_ := Aside0.mk ((by rw [hg]; exact Nat.ne_of_gt (blk_lt (g := gb128) (o := .cells #[.int .i64 a0_0, .slice A0_1 l0_1.length c0_1] 24 (0, 0)) (by (with_reducible repeat (first | refine blk_drewN ?_ _ | refine blk_drew ?_ | refine blk_alloc ?_ _)); exact BK128.out)) : gb146 ≠ gb128))
       have n11_ := Aside0.mk ((by rw [hg]; exact Nat.ne_of_lt (blk_lt (g := gb129) (o := .cells #[.string a1_0, .int .i64 a1_1, .int .i64 a1_2] 26 (0, 0)) (by (with_reducible repeat (first | refine blk_drewN ?_ _ | refine blk_drew ?_ | refine blk_alloc ?_ _)); exact BK129.out)) : gb129 ≠ gb146))
       have n12_ := Aside0.mk ((by rw [hg]; exact Nat.ne_of_gt (blk_lt (g := gb129) (o := .cells #[.string a1_0, .int .i64 a1_1, .int .i64 a1_2] 26 (0, 0)) (by (with_reducible repeat (first | refine blk_drewN ?_ _ | refine blk_drew ?_ | refine blk_alloc ?_ _)); exact BK129.out)) : gb146 ≠ gb129))
       have n13_ := Aside0.mk ((by rw [hg]; exact Nat.ne_of_lt (blk_lt (g := gb130) (o := .cells #[.int .i64 a3_0, .int .i64 a3_1, .bool a3_2, .bool a3_3, .int .i64 a3_4] 28 (0, 0)) (by (with_reducible repeat (first | refine blk_drewN ?_ _ | refine blk_drew ?_ | refine blk_alloc ?_ _)); exact BK130.out)) : gb130 ≠ gb146))
       have n14_ := Aside0.mk ((by rw [hg]; exact Nat.ne_of_gt (blk_lt (g := gb130) (o := .cells #[.int .i64 a3_0, .int .i64 a3_1, .bool a3_2, .bool a3_3, .int .i64 a3_4] 28 (0, 0)) (by (with_reducible repeat (first | refine blk_drewN ?_ _ | refine blk_drew ?_ | refine blk_alloc ?_ _)); exact BK130.out)) : gb146 ≠ gb130))
       clear HO136
       clear HO144
       clear BK128
       clear BK129
       clear BK130
       clear HB
       have HO136 := n0_
       have HO144 := n1_
       have BK128 := n2_
       have BK129 := n3_
       have BK130 := n4_
       have HB := n5_
       have BK146 := n6_
       have GW146 := n7_
       have GE146 := n8_
       have NB128_146 := n9_
       have NB146_128 := n10_
       have NB129_146 := n11_
       have NB146_129 := n12_
       have NB130_146 := n13_
       have NB146_130 := n14_
       clear n0_ n1_ n2_ n3_ n4_ n5_ n6_ n7_ n8_ n9_ n10_ n11_ n12_ n13_ n14_
       clear hb hbox hg
       refine hK.out _ _ ⟨(blk_cell BK128.out 0).trans rfl, (blk_cell BK128.out 1).trans rfl, (blk_cell BK129.out 0).trans rfl, (blk_cell BK129.out 1).trans rfl, (blk_cell BK129.out 2).trans rfl, (blk_cell BK130.out 0).trans rfl, (blk_cell BK130.out 1).trans rfl, (blk_cell BK130.out 2).trans rfl, (blk_cell BK130.out 3).trans rfl, (blk_cell BK130.out 4).trans rfl⟩ (fun hHeld => ?_)
       clear hK K
       refine norm_ (a' := ?_) ?_ ?_
       rotate_left
       ·show Act.put _ (some 9) _ = _
        simp only [Act.put, q1_, q2_, q3_, i64_w, i32_w]
        rfl
       exact norm_ (by simp only [putAll, Act.put, q1_, q2_, q3_]) (hCont (.slice Ao25 t134.length co25, v143, gb146) _ ⟨hHeld, (by (with_reducible repeat (first | apply Kd.R_alloc | apply Kd.R_drewN | apply Kd.R_drew)); exact HO136.out), (by (with_reducible repeat (first | apply Kd.R_alloc | apply Kd.R_drewN | apply Kd.R_drew)); exact HO144.out), (by (with_reducible repeat (first | refine blk_drewN ?_ _ | refine blk_drew ?_ | refine blk_alloc ?_ _)); exact BK128.out), (by (with_reducible repeat (first | refine blk_drewN ?_ _ | refine blk_drew ?_ | refine blk_alloc ?_ _)); exact BK129.out), (by (with_reducible repeat (first | refine blk_drewN ?_ _ | refine blk_drew ?_ | refine blk_alloc ?_ _)); exact BK130.out), (by (with_reducible repeat (first | refine blk_drewN ?_ _ | refine blk_drew ?_ | refine blk_alloc ?_ _)); exact BK146.out), GW146.out, GE146.out, NB128_146.out, NB146_128.out, NB129_146.out, NB146_129.out, NB130_146.out, NB146_130.out, (by repeat (first | (with_reducible first | exact HB.out | apply below_alloc | apply pw_below_drewN | apply below_drew1 | refine below_set ?_ GE128.out | refine below_set ?_ GE129.out | refine below_set ?_ GE130.out | refine below_set ?_ GE146.out) | exact HB.out))⟩)
      ·skip
       refine box_step ?hg (N := 9) ?hd (cs := #[.int .i64 0, .int .i64 0, .bool false, .bool false, .int .i64 0]) (t := 28) ?hr ?_; (case hd => rfl); (case hg => rfl); (case hr => first | (go_simp; done) | (go_simp; rfl))
       intro gb146 hg w25 hbox hb
       have n0_ := Aside0.mk (Kd.R_below (by (with_reducible repeat (first | apply Kd.R_alloc | apply Kd.R_drewN | apply Kd.R_drew)); exact HO136.out) hb)
       have n1_ := Aside0.mk (blk_below (g := gb128) (o := .cells #[.int .i64 a0_0, .slice A0_1 l0_1.length c0_1] 24 (0, 0)) (by (with_reducible repeat (first | refine blk_drewN ?_ _ | refine blk_drew ?_ | refine blk_alloc ?_ _)); exact BK128.out) hb)
       have n2_ := Aside0.mk (blk_below (g := gb129) (o := .cells #[.string a1_0, .int .i64 a1_1, .int .i64 a1_2] 26 (0, 0)) (by (with_reducible repeat (first | refine blk_drewN ?_ _ | refine blk_drew ?_ | refine blk_alloc ?_ _)); exact BK129.out) hb)
       have n3_ := Aside0.mk (blk_below (g := gb130) (o := .cells #[.int .i64 a3_0, .int .i64 a3_1, .bool a3_2, .bool a3_3, .int .i64 a3_4] 28 (0, 0)) (by (with_reducible repeat (first | refine blk_drewN ?_ _ | refine blk_drew ?_ | refine blk_alloc ?_ _)); exact BK130.out) hb)
       have n4_ := Aside0.mk (below_step (by repeat (first | (with_reducible first | exact HB.out | apply below_alloc | apply pw_below_drewN | apply below_drew1 | refine below_set ?_ GE128.out | refine below_set ?_ GE129.out | refine below_set ?_ GE130.out) | exact HB.out)) hb)
       have n5_ := Aside0.mk (hbox)
       have n6_ := Aside0.mk ((by rw [hg]; exact (below_size (by repeat (first | (with_reducible first | exact HB.out | apply below_alloc | apply pw_below_drewN | apply below_drew1 | refine below_set ?_ GE128.out | refine below_set ?_ GE129.out | refine below_set ?_ GE130.out) | exact HB.out))) : w.heap.size ≤ gb146))
       have n7_ := Aside0.mk ((by rw [hg]; exact (below_size (by repeat (first | (with_reducible first | exact HB.out | apply below_alloc | apply pw_below_drewN | apply below_drew1 | refine below_set ?_ GE128.out | refine below_set ?_ GE129.out | refine below_set ?_ GE130.out) | exact HB.out))) : w.heap.size ≤ gb146))
       have n8_ := Aside0.mk ((by rw [hg]; exact Nat.ne_of_lt (blk_lt (g := gb128) (o := .cells #[.int .i64 a0_0, .slice A0_1 l0_1.length c0_1] 24 (0, 0)) (by (with_reducible repeat (first | refine blk_drewN ?_ _ | refine blk_drew ?_ | refine blk_alloc ?_ _)); exact BK128.out)) : gb128 ≠ gb146))
       have n9_ := Aside0.mk ((by rw [hg]; exact Nat.ne_of_gt (blk_lt (g := gb128) (o := .cells #[.int .i64 a0_0, .slice A0_1 l0_1.length c0_1] 24 (0, 0)) (by (with_reducible repeat (first | refine blk_drewN ?_ _ | refine blk_drew ?_ | refine blk_alloc ?_ _)); exact BK128.out)) : gb146 ≠ gb128))
       have n10_ := Aside0.mk ((by rw [hg]; exact Nat.ne_of_lt (blk_lt (g := gb129) (o := .cells #[.string a1_0, .int .i64 a1_1, .int .i64 a1_2] 26 (0, 0)) (by (with_reducible repeat (first | refine blk_drewN ?_ _ | refine blk_drew ?_ | refine blk_alloc ?_ _)); exact BK129.out)) : gb129 ≠ gb146))
       have n11_ := Aside0.mk ((by rw [hg]; exact Nat.ne_of_gt (blk_lt (g := gb129) (o := .cells #[.string a1_0, .int .i64 a1_1, .int .i64 a1_2] 26 (0, 0)) (by (with_reducible repeat (first | refine blk_drewN ?_ _ | refine blk_drew ?_ | refine blk_alloc ?_ _)); exact BK129.out)) : gb146 ≠ gb129))
       have n12_ := Aside0.mk ((by rw [hg]; exact Nat.ne_of_lt (blk_lt (g := gb130) (o := .cells #[.int .i64 a3_0, .int .i64 a3_1, .bool a3_2, .bool a3_3, .int .i64 a3_4] 28 (0, 0)) (by (with_reducible repeat (first | refine blk_drewN ?_ _ | refine blk_drew ?_ | refine blk_alloc ?_ _)); exact BK130.out)) : gb130 ≠ gb146))
       have n13_ := Aside0.mk ((by rw [hg]; exact Nat.ne_of_gt (blk_lt (g := gb130) (o := .cells #[.int .i64 a3_0, .int .i64 a3_1, .bool a3_2, .bool a3_3, .int .i64 a3_4] 28 (0, 0)) (by (with_reducible repeat (first | refine blk_drewN ?_ _ | refine blk_drew ?_ | refine blk_alloc ?_ _)); exact BK130.out)) : gb146 ≠ gb130))
       clear HO136
       clear BK128
       clear BK129
       clear BK130
       clear HB
       have HO136 := n0_
       have BK128 := n1_
       have BK129 := n2_
       have BK130 := n3_
       have HB := n4_
       have BK146 := n5_
       have GW146 := n6_
       have GE146 := n7_
       have NB128_146 := n8_
       have NB146_128 := n9_
       have NB129_146 := n10_
       have NB146_129 := n11_
       have NB130_146 := n12_
       have NB146_130 := n13_
       clear n0_ n1_ n2_ n3_ n4_ n5_ n6_ n7_ n8_ n9_ n10_ n11_ n12_ n13_
       clear hb hbox hg
       obtain ⟨Ao26, co26, eo26⟩ := Kd.R_slice HO136.out
       (first | subst eo26 | (injection eo26 with f1_ f2_ f3_; have f4_ := f1_.symm; have f5_ := f3_.symm; clear f1_ f2_ f3_; subst f4_; subst f5_))
       refine hK.out _ _ ⟨(blk_cell BK128.out 0).trans rfl, (blk_cell BK128.out 1).trans rfl, (blk_cell BK129.out 0).trans rfl, (blk_cell BK129.out 1).trans rfl, (blk_cell BK129.out 2).trans rfl, (blk_cell BK130.out 0).trans rfl, (blk_cell BK130.out 1).trans rfl, (blk_cell BK130.out 2).trans rfl, (blk_cell BK130.out 3).trans rfl, (blk_cell BK130.out 4).trans rfl⟩ (fun hHeld => ?_)
       clear hK K
       refine norm_ (a' := ?_) ?_ ?_
       rotate_left
       ·show Act.put _ (some 9) _ = _
        simp only [Act.put, q1_, q2_, q3_, i64_w, i32_w]
        rfl
       refine one_ (i := 5) (N := some 30) #[true, true, true, true, true, true, false, false, false, false, true, false, false, false] rfl rfl (one_of HT_.out (by kernel_rfl)) (by decide) (fun K hK => ?_)
       refine goes_ Try.func12 (by kernel_rfl) rfl #[.agg #[.int .i64 t133, .slice Ao26 t134.length co26], .agg #[.string a1_0, .int .i64 a1_1, .int .i64 a1_2], .int .i64 a2, .agg #[.int .i64 a3_0, .int .i64 a3_1, .bool a3_2, .bool a3_3, .int .i64 a3_4]] (by rfl) rfl rfl (by (try simp only [List.map_toArray, List.map_cons, List.map_nil]); first | done | rfl | (simp only [List.length_drop, List.length_take]; rfl)) ?_
       with_reducible refine (prog_Step.calls t133 _ _ t134 a1_0 a1_1 a1_2 a2 a3_0 a3_1 a3_2 a3_3 a3_4 t137 t138 t139 t140 t141 t142 t145 _ ?side1 ?side2 A20.out).mono ?_
       (case side1 => repeat (first | exact (Kd.R_reads' HO136.out).2.2 | (with_reducible refine Kd.C_alloc ?_ _) | (with_reducible refine Kd.C_drewN ?_ _) | (with_reducible refine Kd.C_drew ?_)))
       (case side2 => exact (Kd.R_reads' HO136.out).2.1)
       rintro e w27 ⟨v143, rfl, ho0, hb⟩
       refine ⟨_, rfl, ?_⟩
       have n0_ := Aside0.mk (Kd.R_below (by (with_reducible repeat (first | apply Kd.R_alloc | apply Kd.R_drewN | apply Kd.R_drew)); exact HO136.out) hb)
       have n1_ := Aside0.mk (Kd.R_lower ho0 (below_size (by repeat (first | (with_reducible first | exact HB.out | apply below_alloc | apply pw_below_drewN | apply below_drew1 | refine below_set ?_ GE128.out | refine below_set ?_ GE129.out | refine below_set ?_ GE130.out | refine below_set ?_ GE146.out) | exact HB.out))))
       have n2_ := Aside0.mk (blk_below (g := gb128) (o := .cells #[.int .i64 a0_0, .slice A0_1 l0_1.length c0_1] 24 (0, 0)) (by (with_reducible repeat (first | refine blk_drewN ?_ _ | refine blk_drew ?_ | refine blk_alloc ?_ _)); exact BK128.out) hb)
       have n3_ := Aside0.mk (blk_below (g := gb129) (o := .cells #[.string a1_0, .int .i64 a1_1, .int .i64 a1_2] 26 (0, 0)) (by (with_reducible repeat (first | refine blk_drewN ?_ _ | refine blk_drew ?_ | refine blk_alloc ?_ _)); exact BK129.out) hb)
       have n4_ := Aside0.mk (blk_below (g := gb130) (o := .cells #[.int .i64 a3_0, .int .i64 a3_1, .bool a3_2, .bool a3_3, .int .i64 a3_4] 28 (0, 0)) (by (with_reducible repeat (first | refine blk_drewN ?_ _ | refine blk_drew ?_ | refine blk_alloc ?_ _)); exact BK130.out) hb)
       have n5_ := Aside0.mk (blk_below (g := gb146) (o := .cells #[.int .i64 0, .int .i64 0, .bool false, .bool false, .int .i64 0] 28 (0, 0)) (by (with_reducible repeat (first | refine blk_drewN ?_ _ | refine blk_drew ?_ | refine blk_alloc ?_ _)); exact BK146.out) hb)
       have n6_ := Aside0.mk (below_step (by repeat (first | (with_reducible first | exact HB.out | apply below_alloc | apply pw_below_drewN | apply below_drew1 | refine below_set ?_ GE128.out | refine below_set ?_ GE129.out | refine below_set ?_ GE130.out | refine below_set ?_ GE146.out) | exact HB.out)) hb)
       clear HO136
       clear BK128
       clear BK129
       clear BK130
       clear BK146
       clear HB
       have HO136 := n0_
       have HO144 := n1_
       have BK128 := n2_
       have BK129 := n3_
       have BK130 := n4_
       have BK146 := n5_
       have HB := n6_
       clear n0_ n1_ n2_ n3_ n4_ n5_ n6_
       (try clear hb)
       (try clear hb2)
       (try clear hk)
       (try clear hi)
       (try clear ho0)
       refine hK.out _ _ ⟨(blk_cell BK128.out 0).trans rfl, (blk_cell BK128.out 1).trans rfl, (blk_cell BK129.out 0).trans rfl, (blk_cell BK129.out 1).trans rfl, (blk_cell BK129.out 2).trans rfl, (blk_cell BK130.out 0).trans rfl, (blk_cell BK130.out 1).trans rfl, (blk_cell BK130.out 2).trans rfl, (blk_cell BK130.out 3).trans rfl, (blk_cell BK130.out 4).trans rfl⟩ (fun hHeld => ?_)
       clear hK K
       refine norm_ (a' := ?_) ?_ ?_
       rotate_left
       ·show Act.put _ (some 30) _ = _
        simp only [Act.put, q1_, q2_, q3_, i64_w, i32_w]
        rfl
       refine pure_ (i := 6) (N := some 24) (v := ?_) (a' := ?_) #[true, true, true, true, true, true, true, false, false, false, true, false, false, false] rfl rfl (any_of HT_.out (by kernel_rfl)) (fun _ _ _ h => h) (Or.inl ⟨by rfl, ?_⟩) ?_ ?_
       rotate_left
       ·intro w'
        go_simp
        with_reducible rfl
       rotate_left
       ·simp only [Act.put, q1_, q2_, q3_, i64_w, i32_w]
        rfl
       refine pure_ (i := 7) (N := some 31) (v := ?_) (a' := ?_) #[true, true, true, true, true, true, true, true, false, false, true, false, false, false] rfl rfl (any_of HT_.out (by kernel_rfl)) (fun _ _ _ h => h) (Or.inl ⟨by rfl, ?_⟩) ?_ ?_
       rotate_left
       ·intro w'
        go_simp
        with_reducible rfl
       rotate_left
       ·simp only [Act.put, q1_, q2_, q3_, i64_w, i32_w]
        rfl
       refine pure_ (i := 8) (N := some 32) (v := ?_) (a' := ?_) #[true, true, true, true, true, true, true, true, true, false, true, false, false, false] rfl rfl (any_of HT_.out (by kernel_rfl)) (fun _ _ _ h => h) (Or.inl ⟨by rfl, ?_⟩) ?_ ?_
       rotate_left
       ·intro w'
        go_simp
        with_reducible rfl
       rotate_left
       ·simp only [Act.put, q1_, q2_, q3_, i64_w, i32_w]
        rfl
       refine pure_ (i := 9) (N := some 33) (v := ?_) (a' := ?_) #[true, true, true, true, true, true, true, true, true, true, true, false, false, false] rfl rfl (any_of HT_.out (by kernel_rfl)) (fun _ _ _ h => h) (Or.inl ⟨by rfl, ?_⟩) ?_ ?_
       rotate_left
       ·intro w'
        go_simp
        with_reducible rfl
       rotate_left
       ·simp only [Act.put, q1_, q2_, q3_, i64_w, i32_w]
        rfl
       exact norm_ (by simp only [putAll, Act.put, q1_, q2_, q3_]) (hCont (.slice Ao26 t134.length co26, v143, gb146) _ ⟨hHeld, (by (with_reducible repeat (first | apply Kd.R_alloc | apply Kd.R_drewN | apply Kd.R_drew)); exact HO136.out), (by (with_reducible repeat (first | apply Kd.R_alloc | apply Kd.R_drewN | apply Kd.R_drew)); exact HO144.out), (by (with_reducible repeat (first | refine blk_drewN ?_ _ | refine blk_drew ?_ | refine blk_alloc ?_ _)); exact BK128.out), (by (with_reducible repeat (first | refine blk_drewN ?_ _ | refine blk_drew ?_ | refine blk_alloc ?_ _)); exact BK129.out), (by (with_reducible repeat (first | refine blk_drewN ?_ _ | refine blk_drew ?_ | refine blk_alloc ?_ _)); exact BK130.out), (by (with_reducible repeat (first | refine blk_drewN ?_ _ | refine blk_drew ?_ | refine blk_alloc ?_ _)); exact BK146.out), GW146.out, GE146.out, NB128_146.out, NB146_128.out, NB129_146.out, NB146_129.out, NB130_146.out, NB146_130.out, (by repeat (first | (with_reducible first | exact HB.out | apply below_alloc | apply pw_below_drewN | apply below_drew1 | refine below_set ?_ GE128.out | refine below_set ?_ GE129.out | refine below_set ?_ GE130.out | refine below_set ?_ GE146.out) | exact HB.out))⟩)
     ·skip
      refine box_step ?hg (N := 9) ?hd (cs := #[.int .i64 0, .int .i64 0, .bool false, .bool false, .int .i64 0]) (t := 28) ?hr ?_; (case hd => rfl); (case hg => rfl); (case hr => first | (go_simp; done) | (go_simp; rfl))
      intro gb146 hg w24 hbox hb
      have n0_ := Aside0.mk (blk_below (g := gb128) (o := .cells #[.int .i64 a0_0, .slice A0_1 l0_1.length c0_1] 24 (0, 0)) (by (with_reducible repeat (first | refine blk_drewN ?_ _ | refine blk_drew ?_ | refine blk_alloc ?_ _)); exact BK128.out) hb)
      have n1_ := Aside0.mk (blk_below (g := gb129) (o := .cells #[.string a1_0, .int .i64 a1_1, .int .i64 a1_2] 26 (0, 0)) (by (with_reducible repeat (first | refine blk_drewN ?_ _ | refine blk_drew ?_ | refine blk_alloc ?_ _)); exact BK129.out) hb)
      have n2_ := Aside0.mk (blk_below (g := gb130) (o := .cells #[.int .i64 a3_0, .int .i64 a3_1, .bool a3_2, .bool a3_3, .int .i64 a3_4] 28 (0, 0)) (by (with_reducible repeat (first | refine blk_drewN ?_ _ | refine blk_drew ?_ | refine blk_alloc ?_ _)); exact BK130.out) hb)
      have n3_ := Aside0.mk (below_step (by repeat (first | (with_reducible first | exact HB.out | apply below_alloc | apply pw_below_drewN | apply below_drew1 | refine below_set ?_ GE128.out | refine below_set ?_ GE129.out | refine below_set ?_ GE130.out) | exact HB.out)) hb)
      have n4_ := Aside0.mk (hbox)
      have n5_ := Aside0.mk ((by rw [hg]; exact (below_size (by repeat (first | (with_reducible first | exact HB.out | apply below_alloc | apply pw_below_drewN | apply below_drew1 | refine below_set ?_ GE128.out | refine below_set ?_ GE129.out | refine below_set ?_ GE130.out) | exact HB.out))) : w.heap.size ≤ gb146))
      have n6_ := Aside0.mk ((by rw [hg]; exact (below_size (by repeat (first | (with_reducible first | exact HB.out | apply below_alloc | apply pw_below_drewN | apply below_drew1 | refine below_set ?_ GE128.out | refine below_set ?_ GE129.out | refine below_set ?_ GE130.out) | exact HB.out))) : w.heap.size ≤ gb146))
      have n7_ := Aside0.mk ((by rw [hg]; exact Nat.ne_of_lt (blk_lt (g := gb128) (o := .cells #[.int .i64 a0_0, .slice A0_1 l0_1.length c0_1] 24 (0, 0)) (by (with_reducible repeat (first | refine blk_drewN ?_ _ | refine blk_drew ?_ | refine blk_alloc ?_ _)); exact BK128.out)) : gb128 ≠ gb146))
      have n8_ := Aside0.mk ((by rw [hg]; exact Nat.ne_of_gt (blk_lt (g := gb128) (o := .cells #[.int .i64 a0_0, .slice A0_1 l0_1.length c0_1] 24 (0, 0)) (by (with_reducible repeat (first | refine blk_drewN ?_ _ | refine blk_drew ?_ | refine blk_alloc ?_ _)); exact BK128.out)) : gb146 ≠ gb128))
      have n9_ := Aside0.mk ((by rw [hg]; exact Nat.ne_of_lt (blk_lt (g := gb129) (o := .cells #[.string a1_0, .int .i64 a1_1, .int .i64 a1_2] 26 (0, 0)) (by (with_reducible repeat (first | refine blk_drewN ?_ _ | refine blk_drew ?_ | refine blk_alloc ?_ _)); exact BK129.out)) : gb129 ≠ gb146))
      have n10_ := Aside0.mk ((by rw [hg]; exact Nat.ne_of_gt (blk_lt (g := gb129) (o := .cells #[.string a1_0, .int .i64 a1_1, .int .i64 a1_2] 26 (0, 0)) (by (with_reducible repeat (first | refine blk_drewN ?_ _ | refine blk_drew ?_ | refine blk_alloc ?_ _)); exact BK129.out)) : gb146 ≠ gb129))
      have n11_ := Aside0.mk ((by rw [hg]; exact Nat.ne_of_lt (blk_lt (g := gb130) (o := .cells #[.int .i64 a3_0, .int .i64 a3_1, .bool a3_2, .bool a3_3, .int .i64 a3_4] 28 (0, 0)) (by (with_reducible repeat (first | refine blk_drewN ?_ _ | refine blk_drew ?_ | refine blk_alloc ?_ _)); exact BK130.out)) : gb130 ≠ gb146))
      have n12_ := Aside0.mk ((by rw [hg]; exact Nat.ne_of_gt (blk_lt (g := gb130) (o := .cells #[.int .i64 a3_0, .int .i64 a3_1, .bool a3_2, .bool a3_3, .int .i64 a3_4] 28 (0, 0)) (by (with_reducible repeat (first | refine blk_drewN ?_ _ | refine blk_drew ?_ | refine blk_alloc ?_ _)); exact BK130.out)) : gb146 ≠ gb130))
      clear BK128
      clear BK129
      clear BK130
      clear HB
      have BK128 := n0_
      have BK129 := n1_
      have BK130 := n2_
      have HB := n3_
      have BK146 := n4_
      have GW146 := n5_
      have GE146 := n6_
      have NB128_146 := n7_
      have NB146_128 := n8_
      have NB129_146 := n9_
      have NB146_129 := n10_
      have NB130_146 := n11_
      have NB146_130 := n12_
      clear n0_ n1_ n2_ n3_ n4_ n5_ n6_ n7_ n8_ n9_ n10_ n11_ n12_
      clear hb hbox hg
      refine hK.out _ _ ⟨(blk_cell BK128.out 0).trans rfl, (blk_cell BK128.out 1).trans rfl, (blk_cell BK129.out 0).trans rfl, (blk_cell BK129.out 1).trans rfl, (blk_cell BK129.out 2).trans rfl, (blk_cell BK130.out 0).trans rfl, (blk_cell BK130.out 1).trans rfl, (blk_cell BK130.out 2).trans rfl, (blk_cell BK130.out 3).trans rfl, (blk_cell BK130.out 4).trans rfl⟩ (fun hHeld => ?_)
      clear hK K
      refine norm_ (a' := ?_) ?_ ?_
      rotate_left
      ·show Act.put _ (some 9) _ = _
       simp only [Act.put, q1_, q2_, q3_, i64_w, i32_w]
       rfl
      refine one_ (i := 1) (N := some 26) #[true, true, true, true, true, false, false, false, false, false, true, false, false, false] rfl rfl (one_of HT_.out (by kernel_rfl)) (by decide) (fun K hK => ?_)
      refine goes_ Try.func13 (by kernel_rfl) rfl #[.agg #[.int .i64 a0_0, .slice A0_1 l0_1.length c0_1]] (by rfl) rfl rfl (by (try simp only [List.map_toArray, List.map_cons, List.map_nil]); first | done | rfl | (simp only [List.length_drop, List.length_take]; rfl)) ?_
      with_reducible refine (modillionlaw07_own.calls a0_0 _ _ l0_1 t133 t134 _ ?side1 ?side2 A19.out).mono ?_
      (case side1 => repeat (first | exact (Kd.C_below HR0_1.out HB.out) | (with_reducible refine Kd.C_alloc ?_ _) | (with_reducible refine Kd.C_drewN ?_ _) | (with_reducible refine Kd.C_drew ?_)))
      (case side2 => exact HC0_1.out)
      rintro e w25 ⟨v135, rfl, ho0, hb⟩
      refine ⟨_, rfl, ?_⟩
      have n0_ := Aside0.mk (Kd.R_lower ho0 (below_size (by repeat (first | (with_reducible first | exact HB.out | apply below_alloc | apply pw_below_drewN | apply below_drew1 | refine below_set ?_ GE128.out | refine below_set ?_ GE129.out | refine below_set ?_ GE130.out | refine below_set ?_ GE146.out) | exact HB.out))))
      have n1_ := Aside0.mk (blk_below (g := gb128) (o := .cells #[.int .i64 a0_0, .slice A0_1 l0_1.length c0_1] 24 (0, 0)) (by (with_reducible repeat (first | refine blk_drewN ?_ _ | refine blk_drew ?_ | refine blk_alloc ?_ _)); exact BK128.out) hb)
      have n2_ := Aside0.mk (blk_below (g := gb129) (o := .cells #[.string a1_0, .int .i64 a1_1, .int .i64 a1_2] 26 (0, 0)) (by (with_reducible repeat (first | refine blk_drewN ?_ _ | refine blk_drew ?_ | refine blk_alloc ?_ _)); exact BK129.out) hb)
      have n3_ := Aside0.mk (blk_below (g := gb130) (o := .cells #[.int .i64 a3_0, .int .i64 a3_1, .bool a3_2, .bool a3_3, .int .i64 a3_4] 28 (0, 0)) (by (with_reducible repeat (first | refine blk_drewN ?_ _ | refine blk_drew ?_ | refine blk_alloc ?_ _)); exact BK130.out) hb)
      have n4_ := Aside0.mk (blk_below (g := gb146) (o := .cells #[.int .i64 0, .int .i64 0, .bool false, .bool false, .int .i64 0] 28 (0, 0)) (by (with_reducible repeat (first | refine blk_drewN ?_ _ | refine blk_drew ?_ | refine blk_alloc ?_ _)); exact BK146.out) hb)
      have n5_ := Aside0.mk (below_step (by repeat (first | (with_reducible first | exact HB.out | apply below_alloc | apply pw_below_drewN | apply below_drew1 | refine below_set ?_ GE128.out | refine below_set ?_ GE129.out | refine below_set ?_ GE130.out | refine below_set ?_ GE146.out) | exact HB.out)) hb)
      clear BK128
      clear BK129
      clear BK130
      clear BK146
      clear HB
      have HO136 := n0_
      have BK128 := n1_
      have BK129 := n2_
      have BK130 := n3_
      have BK146 := n4_
      have HB := n5_
      clear n0_ n1_ n2_ n3_ n4_ n5_
      (try clear hb)
      (try clear hb2)
      (try clear hk)
      (try clear hi)
      (try clear ho0)
      obtain ⟨Ao26, co26, eo26⟩ := Kd.R_slice HO136.out
      (first | subst eo26 | (injection eo26 with f1_ f2_ f3_; have f4_ := f1_.symm; have f5_ := f3_.symm; clear f1_ f2_ f3_; subst f4_; subst f5_))
      refine hK.out _ _ ⟨(blk_cell BK128.out 0).trans rfl, (blk_cell BK128.out 1).trans rfl, (blk_cell BK129.out 0).trans rfl, (blk_cell BK129.out 1).trans rfl, (blk_cell BK129.out 2).trans rfl, (blk_cell BK130.out 0).trans rfl, (blk_cell BK130.out 1).trans rfl, (blk_cell BK130.out 2).trans rfl, (blk_cell BK130.out 3).trans rfl, (blk_cell BK130.out 4).trans rfl⟩ (fun hHeld => ?_)
      clear hK K
      refine norm_ (a' := ?_) ?_ ?_
      rotate_left
      ·show Act.put _ (some 26) _ = _
       simp only [Act.put, q1_, q2_, q3_, i64_w, i32_w]
       rfl
      refine one_ (i := 5) (N := some 30) #[true, true, true, true, true, true, false, false, false, false, true, false, false, false] rfl rfl (one_of HT_.out (by kernel_rfl)) (by decide) (fun K hK => ?_)
      refine goes_ Try.func12 (by kernel_rfl) rfl #[.agg #[.int .i64 t133, .slice Ao26 t134.length co26], .agg #[.string a1_0, .int .i64 a1_1, .int .i64 a1_2], .int .i64 a2, .agg #[.int .i64 a3_0, .int .i64 a3_1, .bool a3_2, .bool a3_3, .int .i64 a3_4]] (by rfl) rfl rfl (by (try simp only [List.map_toArray, List.map_cons, List.map_nil]); first | done | rfl | (simp only [List.length_drop, List.length_take]; rfl)) ?_
      with_reducible refine (prog_Step.calls t133 _ _ t134 a1_0 a1_1 a1_2 a2 a3_0 a3_1 a3_2 a3_3 a3_4 t137 t138 t139 t140 t141 t142 t145 _ ?side1 ?side2 A20.out).mono ?_
      (case side1 => repeat (first | exact (Kd.R_reads' HO136.out).2.2 | (with_reducible refine Kd.C_alloc ?_ _) | (with_reducible refine Kd.C_drewN ?_ _) | (with_reducible refine Kd.C_drew ?_)))
      (case side2 => exact (Kd.R_reads' HO136.out).2.1)
      rintro e w27 ⟨v143, rfl, ho0, hb⟩
      refine ⟨_, rfl, ?_⟩
      have n0_ := Aside0.mk (Kd.R_below (by (with_reducible repeat (first | apply Kd.R_alloc | apply Kd.R_drewN | apply Kd.R_drew)); exact HO136.out) hb)
      have n1_ := Aside0.mk (Kd.R_lower ho0 (below_size (by repeat (first | (with_reducible first | exact HB.out | apply below_alloc | apply pw_below_drewN | apply below_drew1 | refine below_set ?_ GE128.out | refine below_set ?_ GE129.out | refine below_set ?_ GE130.out | refine below_set ?_ GE146.out) | exact HB.out))))
      have n2_ := Aside0.mk (blk_below (g := gb128) (o := .cells #[.int .i64 a0_0, .slice A0_1 l0_1.length c0_1] 24 (0, 0)) (by (with_reducible repeat (first | refine blk_drewN ?_ _ | refine blk_drew ?_ | refine blk_alloc ?_ _)); exact BK128.out) hb)
      have n3_ := Aside0.mk (blk_below (g := gb129) (o := .cells #[.string a1_0, .int .i64 a1_1, .int .i64 a1_2] 26 (0, 0)) (by (with_reducible repeat (first | refine blk_drewN ?_ _ | refine blk_drew ?_ | refine blk_alloc ?_ _)); exact BK129.out) hb)
      have n4_ := Aside0.mk (blk_below (g := gb130) (o := .cells #[.int .i64 a3_0, .int .i64 a3_1, .bool a3_2, .bool a3_3, .int .i64 a3_4] 28 (0, 0)) (by (with_reducible repeat (first | refine blk_drewN ?_ _ | refine blk_drew ?_ | refine blk_alloc ?_ _)); exact BK130.out) hb)
      have n5_ := Aside0.mk (blk_below (g := gb146) (o := .cells #[.int .i64 0, .int .i64 0, .bool false, .bool false, .int .i64 0] 28 (0, 0)) (by (with_reducible repeat (first | refine blk_drewN ?_ _ | refine blk_drew ?_ | refine blk_alloc ?_ _)); exact BK146.out) hb)
      have n6_ := Aside0.mk (below_step (by repeat (first | (with_reducible first | exact HB.out | apply below_alloc | apply pw_below_drewN | apply below_drew1 | refine below_set ?_ GE128.out | refine below_set ?_ GE129.out | refine below_set ?_ GE130.out | refine below_set ?_ GE146.out) | exact HB.out)) hb)
      clear HO136
      clear BK128
      clear BK129
      clear BK130
      clear BK146
      clear HB
      have HO136 := n0_
      have HO144 := n1_
      have BK128 := n2_
      have BK129 := n3_
      have BK130 := n4_
      have BK146 := n5_
      have HB := n6_
      clear n0_ n1_ n2_ n3_ n4_ n5_ n6_
      (try clear hb)
      (try clear hb2)
      (try clear hk)
      (try clear hi)
      (try clear ho0)
      refine hK.out _ _ ⟨(blk_cell BK128.out 0).trans rfl, (blk_cell BK128.out 1).trans rfl, (blk_cell BK129.out 0).trans rfl, (blk_cell BK129.out 1).trans rfl, (blk_cell BK129.out 2).trans rfl, (blk_cell BK130.out 0).trans rfl, (blk_cell BK130.out 1).trans rfl, (blk_cell BK130.out 2).trans rfl, (blk_cell BK130.out 3).trans rfl, (blk_cell BK130.out 4).trans rfl⟩ (fun hHeld => ?_)
      clear hK K
      refine norm_ (a' := ?_) ?_ ?_
      rotate_left
      ·show Act.put _ (some 30) _ = _
       simp only [Act.put, q1_, q2_, q3_, i64_w, i32_w]
       rfl
      refine pure_ (i := 6) (N := some 24) (v := ?_) (a' := ?_) #[true, true, true, true, true, true, true, false, false, false, true, false, false, false] rfl rfl (any_of HT_.out (by kernel_rfl)) (fun _ _ _ h => h) (Or.inl ⟨by rfl, ?_⟩) ?_ ?_
      rotate_left
      ·intro w'
       go_simp
       with_reducible rfl
      rotate_left
      ·simp only [Act.put, q1_, q2_, q3_, i64_w, i32_w]
       rfl
      refine pure_ (i := 7) (N := some 31) (v := ?_) (a' := ?_) #[true, true, true, true, true, true, true, true, false, false, true, false, false, false] rfl rfl (any_of HT_.out (by kernel_rfl)) (fun _ _ _ h => h) (Or.inl ⟨by rfl, ?_⟩) ?_ ?_
      rotate_left
      ·intro w'
       go_simp
       with_reducible rfl
      rotate_left
      ·simp only [Act.put, q1_, q2_, q3_, i64_w, i32_w]
       rfl
      refine pure_ (i := 8) (N := some 32) (v := ?_) (a' := ?_) #[true, true, true, true, true, true, true, true, true, false, true, false, false, false] rfl rfl (any_of HT_.out (by kernel_rfl)) (fun _ _ _ h => h) (Or.inl ⟨by rfl, ?_⟩) ?_ ?_
      rotate_left
      ·intro w'
       go_simp
       with_reducible rfl
      rotate_left
      ·simp only [Act.put, q1_, q2_, q3_, i64_w, i32_w]
       rfl
      refine pure_ (i := 9) (N := some 33) (v := ?_) (a' := ?_) #[true, true, true, true, true, true, true, true, true, true, true, false, false, false] rfl rfl (any_of HT_.out (by kernel_rfl)) (fun _ _ _ h => h) (Or.inl ⟨by rfl, ?_⟩) ?_ ?_
      rotate_left
      ·intro w'
       go_simp
       with_reducible rfl
      rotate_left
      ·simp only [Act.put, q1_, q2_, q3_, i64_w, i32_w]
       rfl
      exact norm_ (by simp only [putAll, Act.put, q1_, q2_, q3_]) (hCont (.slice Ao26 t134.length co26, v143, gb146) _ ⟨hHeld, (by (with_reducible repeat (first | apply Kd.R_alloc | apply Kd.R_drewN | apply Kd.R_drew)); exact HO136.out), (by (with_reducible repeat (first | apply Kd.R_alloc | apply Kd.R_drewN | apply Kd.R_drew)); exact HO144.out), (by (with_reducible repeat (first | refine blk_drewN ?_ _ | refine blk_drew ?_ | refine blk_alloc ?_ _)); exact BK128.out), (by (with_reducible repeat (first | refine blk_drewN ?_ _ | refine blk_drew ?_ | refine blk_alloc ?_ _)); exact BK129.out), (by (with_reducible repeat (first | refine blk_drewN ?_ _ | refine blk_drew ?_ | refine blk_alloc ?_ _)); exact BK130.out), (by (with_reducible repeat (first | refine blk_drewN ?_ _ | refine blk_drew ?_ | refine blk_alloc ?_ _)); exact BK146.out), GW146.out, GE146.out, NB128_146.out, NB146_128.out, NB129_146.out, NB146_129.out, NB130_146.out, NB146_130.out, (by repeat (first | (with_reducible first | exact HB.out | apply below_alloc | apply pw_below_drewN | apply below_drew1 | refine below_set ?_ GE128.out | refine below_set ?_ GE129.out | refine below_set ?_ GE130.out | refine below_set ?_ GE146.out) | exact HB.out))⟩)
    rintro ⟨v135, v143, gb146⟩ w28 ⟨hS_, h0_, h1_, h2_, h3_, h4_, h5_, h6_, h7_, h8_, h9_, h10_, h11_, h12_, h13_, h14_⟩
    have n0_ : Aside0 (Kd.R k46 46 w28 w.heap.size (fun _ => True) v135 t134) := ⟨h0_⟩
    have n1_ : Aside0 (Kd.R k48 48 w28 w.heap.size (fun _ => True) v143 t142) := ⟨h1_⟩
    have n2_ : Aside0 (w28.heap[gb128]? = some (.cells #[.int .i64 a0_0, .slice A0_1 l0_1.length c0_1] 24 (0, 0))) := ⟨h2_⟩
    have n3_ : Aside0 (w28.heap[gb129]? = some (.cells #[.string a1_0, .int .i64 a1_1, .int .i64 a1_2] 26 (0, 0))) := ⟨h3_⟩
    have n4_ : Aside0 (w28.heap[gb130]? = some (.cells #[.int .i64 a3_0, .int .i64 a3_1, .bool a3_2, .bool a3_3, .int .i64 a3_4] 28 (0, 0))) := ⟨h4_⟩
    have n5_ : Aside0 (w28.heap[gb146]? = some (.cells #[.int .i64 0, .int .i64 0, .bool false, .bool false, .int .i64 0] 28 (0, 0))) := ⟨h5_⟩
    have n6_ : Aside0 (w.heap.size ≤ gb146) := ⟨h6_⟩
    have n7_ : Aside0 (w.heap.size ≤ gb146) := ⟨h7_⟩
    have n8_ : Aside0 (gb128 ≠ gb146) := ⟨h8_⟩
    have n9_ : Aside0 (gb146 ≠ gb128) := ⟨h9_⟩
    have n10_ : Aside0 (gb129 ≠ gb146) := ⟨h10_⟩
    have n11_ : Aside0 (gb146 ≠ gb129) := ⟨h11_⟩
    have n12_ : Aside0 (gb130 ≠ gb146) := ⟨h12_⟩
    have n13_ : Aside0 (gb146 ≠ gb130) := ⟨h13_⟩
    have n14_ : Aside0 (Below w.heap.size w w28) := ⟨h14_⟩
    clear BK128
    clear BK129
    clear BK130
    clear HB
    clear h0_ h1_ h2_ h3_ h4_ h5_ h6_ h7_ h8_ h9_ h10_ h11_ h12_ h13_ h14_
    have HO136 := n0_
    have HO144 := n1_
    have BK128 := n2_
    have BK129 := n3_
    have BK130 := n4_
    have BK146 := n5_
    have GW146 := n6_
    have GE146 := n7_
    have NB128_146 := n8_
    have NB146_128 := n9_
    have NB129_146 := n10_
    have NB146_129 := n11_
    have NB130_146 := n12_
    have NB146_130 := n13_
    have HB := n14_
    clear n0_ n1_ n2_ n3_ n4_ n5_ n6_ n7_ n8_ n9_ n10_ n11_ n12_ n13_ n14_
    have hHeld : w28.cell? ⟨gb128, 0, none⟩ = some (.int .i64 a0_0) ∧ w28.cell? ⟨gb128, 1, none⟩ = some (.slice A0_1 l0_1.length c0_1) ∧ w28.cell? ⟨gb129, 0, none⟩ = some (.string a1_0) ∧ w28.cell? ⟨gb129, 1, none⟩ = some (.int .i64 a1_1) ∧ w28.cell? ⟨gb129, 2, none⟩ = some (.int .i64 a1_2) ∧ w28.cell? ⟨gb130, 0, none⟩ = some (.int .i64 a3_0) ∧ w28.cell? ⟨gb130, 1, none⟩ = some (.int .i64 a3_1) ∧ w28.cell? ⟨gb130, 2, none⟩ = some (.bool a3_2) ∧ w28.cell? ⟨gb130, 3, none⟩ = some (.bool a3_3) ∧ w28.cell? ⟨gb130, 4, none⟩ = some (.int .i64 a3_4) := hS_
    refine norm_ (a' := ?_) ?_ ?_
    rotate_left
    ·simp only [putAll, Act.put, q1_, q2_, q3_]
     rfl
    refine one_ (i := 11) (N := none) #[true, true, true, true, true, true, true, true, true, true, true, true, false, false] rfl rfl (one_of HT_.out (by kernel_rfl)) (by decide) (fun K hK => ?_)
    have hs29 : w28.cell? ⟨gb146, 0, none⟩ = some (.int .i64 0) := (blk_cell BK146.out 0).trans rfl
    have hfs29 := blk_frozen BK146.out 0
    have hns29_0 := NB128_146.out
    have hns29_1 := NB129_146.out
    have hns29_2 := NB130_146.out
    have hms29_0 := NB146_128.out
    have hms29_1 := NB146_129.out
    have hms29_2 := NB146_130.out
    have hs30 : w28.cell? ⟨gb146, 1, none⟩ = some (.int .i64 0) := (blk_cell BK146.out 1).trans rfl
    have hfs30 := blk_frozen BK146.out 1
    have hns30_0 := NB128_146.out
    have hns30_1 := NB129_146.out
    have hns30_2 := NB130_146.out
    have hms30_0 := NB146_128.out
    have hms30_1 := NB146_129.out
    have hms30_2 := NB146_130.out
    have hs31 : w28.cell? ⟨gb146, 2, none⟩ = some (.bool false) := (blk_cell BK146.out 2).trans rfl
    have hfs31 := blk_frozen BK146.out 2
    have hns31_0 := NB128_146.out
    have hns31_1 := NB129_146.out
    have hns31_2 := NB130_146.out
    have hms31_0 := NB146_128.out
    have hms31_1 := NB146_129.out
    have hms31_2 := NB146_130.out
    have hs32 : w28.cell? ⟨gb146, 3, none⟩ = some (.bool false) := (blk_cell BK146.out 3).trans rfl
    have hfs32 := blk_frozen BK146.out 3
    have hns32_0 := NB128_146.out
    have hns32_1 := NB129_146.out
    have hns32_2 := NB130_146.out
    have hms32_0 := NB146_128.out
    have hms32_1 := NB146_129.out
    have hms32_2 := NB146_130.out
    have hs33 : w28.cell? ⟨gb146, 4, none⟩ = some (.int .i64 0) := (blk_cell BK146.out 4).trans rfl
    have hfs33 := blk_frozen BK146.out 4
    have hns33_0 := NB128_146.out
    have hns33_1 := NB129_146.out
    have hns33_2 := NB130_146.out
    have hms33_0 := NB146_128.out
    have hms33_1 := NB146_129.out
    have hms33_2 := NB146_130.out
    refine skip_ (w1 := ?_) (by rfl) rfl ?_ ?_
    rotate_left
    ·go_simp
     rfl
    refine hK.out _ _ ⟨((cell_far (p := ⟨gb146, _, none⟩) NB128_146.out _).trans (((cell_far (p := ⟨gb146, _, none⟩) NB128_146.out _).trans (((cell_far (p := ⟨gb146, _, none⟩) NB128_146.out _).trans (((cell_far (p := ⟨gb146, _, none⟩) NB128_146.out _).trans (((cell_far (p := ⟨gb146, _, none⟩) NB128_146.out _).trans (hHeld.1)))))))))), ((cell_far (p := ⟨gb146, _, none⟩) NB128_146.out _).trans (((cell_far (p := ⟨gb146, _, none⟩) NB128_146.out _).trans (((cell_far (p := ⟨gb146, _, none⟩) NB128_146.out _).trans (((cell_far (p := ⟨gb146, _, none⟩) NB128_146.out _).trans (((cell_far (p := ⟨gb146, _, none⟩) NB128_146.out _).trans (hHeld.2.1)))))))))), ((cell_far (p := ⟨gb146, _, none⟩) NB129_146.out _).trans (((cell_far (p := ⟨gb146, _, none⟩) NB129_146.out _).trans (((cell_far (p := ⟨gb146, _, none⟩) NB129_146.out _).trans (((cell_far (p := ⟨gb146, _, none⟩) NB129_146.out _).trans (((cell_far (p := ⟨gb146, _, none⟩) NB129_146.out _).trans (hHeld.2.2.1)))))))))), ((cell_far (p := ⟨gb146, _, none⟩) NB129_146.out _).trans (((cell_far (p := ⟨gb146, _, none⟩) NB129_146.out _).trans (((cell_far (p := ⟨gb146, _, none⟩) NB129_146.out _).trans (((cell_far (p := ⟨gb146, _, none⟩) NB129_146.out _).trans (((cell_far (p := ⟨gb146, _, none⟩) NB129_146.out _).trans (hHeld.2.2.2.1)))))))))), ((cell_far (p := ⟨gb146, _, none⟩) NB129_146.out _).trans (((cell_far (p := ⟨gb146, _, none⟩) NB129_146.out _).trans (((cell_far (p := ⟨gb146, _, none⟩) NB129_146.out _).trans (((cell_far (p := ⟨gb146, _, none⟩) NB129_146.out _).trans (((cell_far (p := ⟨gb146, _, none⟩) NB129_146.out _).trans (hHeld.2.2.2.2.1)))))))))), ((cell_far (p := ⟨gb146, _, none⟩) NB130_146.out _).trans (((cell_far (p := ⟨gb146, _, none⟩) NB130_146.out _).trans (((cell_far (p := ⟨gb146, _, none⟩) NB130_146.out _).trans (((cell_far (p := ⟨gb146, _, none⟩) NB130_146.out _).trans (((cell_far (p := ⟨gb146, _, none⟩) NB130_146.out _).trans (hHeld.2.2.2.2.2.1)))))))))), ((cell_far (p := ⟨gb146, _, none⟩) NB130_146.out _).trans (((cell_far (p := ⟨gb146, _, none⟩) NB130_146.out _).trans (((cell_far (p := ⟨gb146, _, none⟩) NB130_146.out _).trans (((cell_far (p := ⟨gb146, _, none⟩) NB130_146.out _).trans (((cell_far (p := ⟨gb146, _, none⟩) NB130_146.out _).trans (hHeld.2.2.2.2.2.2.1)))))))))), ((cell_far (p := ⟨gb146, _, none⟩) NB130_146.out _).trans (((cell_far (p := ⟨gb146, _, none⟩) NB130_146.out _).trans (((cell_far (p := ⟨gb146, _, none⟩) NB130_146.out _).trans (((cell_far (p := ⟨gb146, _, none⟩) NB130_146.out _).trans (((cell_far (p := ⟨gb146, _, none⟩) NB130_146.out _).trans (hHeld.2.2.2.2.2.2.2.1)))))))))), ((cell_far (p := ⟨gb146, _, none⟩) NB130_146.out _).trans (((cell_far (p := ⟨gb146, _, none⟩) NB130_146.out _).trans (((cell_far (p := ⟨gb146, _, none⟩) NB130_146.out _).trans (((cell_far (p := ⟨gb146, _, none⟩) NB130_146.out _).trans (((cell_far (p := ⟨gb146, _, none⟩) NB130_146.out _).trans (hHeld.2.2.2.2.2.2.2.2.1)))))))))), ((cell_far (p := ⟨gb146, _, none⟩) NB130_146.out _).trans (((cell_far (p := ⟨gb146, _, none⟩) NB130_146.out _).trans (((cell_far (p := ⟨gb146, _, none⟩) NB130_146.out _).trans (((cell_far (p := ⟨gb146, _, none⟩) NB130_146.out _).trans (((cell_far (p := ⟨gb146, _, none⟩) NB130_146.out _).trans (hHeld.2.2.2.2.2.2.2.2.2))))))))))⟩ (fun hHeld => ?_)
    clear hK K
    refine pure_ (i := 12) (N := some 10) (v := ?_) (a' := ?_) #[true, true, true, true, true, true, true, true, true, true, true, true, true, false] rfl rfl (any_of HT_.out (by kernel_rfl)) (fun _ _ _ h => h) (Or.inl ⟨by rfl, ?_⟩) ?_ ?_
    rotate_left
    ·intro w'
     go_simp
     with_reducible rfl
    rotate_left
    ·simp only [Act.put, q1_, q2_, q3_, i64_w, i32_w]
     rfl
    refine pure_ (i := 13) (N := some 11) (v := ?_) (a' := ?_) #[true, true, true, true, true, true, true, true, true, true, true, true, true, true] rfl rfl (any_of HT_.out (by kernel_rfl)) (fun _ _ _ h => h) (Or.inl ⟨by rfl, ?_⟩) ?_ ?_
    rotate_left
    ·intro w'
     go_simp
     with_reducible rfl
    rotate_left
    ·simp only [Act.put, q1_, q2_, q3_, i64_w, i32_w]
     rfl
    refine done_ (done_of HT_.out (by kernel_rfl)) ?_
    have H := HH_.out
    clear HH_
    by_cases c21 : t145 = 0
    ·rw [if_pos c21] at H
     have c21b0 : (t145 == 0) = true := beq_iff_eq.mpr c21
     have c21b1 : (t145 != 0) = false := bne_eq_false_iff_eq.mpr c21
     clear c21
     (first | rw [c21b0] | simp only [c21b0] | skip)
     have HC22 := Aside0.mk H
     clear H
     go_upto_region 6 with (fail)
     go_cut [51] (fun v51 wc => ∃ (kq : Nat) (x51_21 : Bool), v51 = .bool x51_21 ∧ Aside0 (modillionlaw07_ProgQuiet.j1 kq t142 x51_21 a0_0 l0_1 a1_0 a1_1 a1_2 a3_0 a3_1 a3_2 a3_3 a3_4 t137 t138 t139 t140 t141 = some r) ∧ Aside0 (kq ≤ kj4) ∧ Aside0 (Kd.R k48 48 wc w.heap.size (fun _ => True) v143 t142) ∧ Aside0 (wc.heap[gb128]? = some (.cells #[.int .i64 a0_0, (.slice A0_1 l0_1.length c0_1)] 24 (0, 0))) ∧ Aside0 (wc.heap[gb129]? = some (.cells #[.string a1_0, .int .i64 a1_1, .int .i64 a1_2] 26 (0, 0))) ∧ Aside0 (wc.heap[gb130]? = some (.cells #[.int .i64 a3_0, .int .i64 a3_1, .bool a3_2, .bool a3_3, .int .i64 a3_4] 28 (0, 0))) ∧ Aside0 (wc.heap[gb146]? = some (.cells #[.int .i64 t137, .int .i64 t138, .bool t139, .bool t140, .int .i64 t141] 28 (0, 0))) ∧ Aside0 (Below w.heap.size w wc))
     case first =>
      have H := HC22.out
      clear HC22
      by_cases c34 : a3_2 = true
      ·subst c34
       have H1 : (modillionlaw07_ProgQuiet.j1 kj4 t142 false a0_0 l0_1 a1_0 a1_1 a1_2 a3_0 a3_1 true a3_3 a3_4 t137 t138 t139 t140 t141) = some r := by rw [if_pos rfl] at H; exact H
       clear H
       have H := H1
       clear H1
       have H' := Aside0.mk H
       clear H
       have hnb35 := NB130_128.out
       have hnc35 := NB128_130.out
       have hnb36 := NB130_129.out
       have hnc36 := NB129_130.out
       have hnb37 := NB130_146.out
       have hnc37 := NB146_130.out
       have hcz38_0 : w28.cell? ⟨gb130, 0, none⟩ = some (.int .i64 a3_0) := (blk_cell BK130.out 0).trans rfl
       have hcz38_1 : w28.cell? ⟨gb130, 1, none⟩ = some (.int .i64 a3_1) := (blk_cell BK130.out 1).trans rfl
       have hcz38_2 : w28.cell? ⟨gb130, 2, none⟩ = some (.bool true) := (blk_cell BK130.out 2).trans rfl
       have hcz38_3 : w28.cell? ⟨gb130, 3, none⟩ = some (.bool a3_3) := (blk_cell BK130.out 3).trans rfl
       have hcz38_4 : w28.cell? ⟨gb130, 4, none⟩ = some (.int .i64 a3_4) := (blk_cell BK130.out 4).trans rfl
       have hfz38_0 := blk_frozen BK130.out 0
       have hfz38_1 := blk_frozen BK130.out 1
       have hfz38_2 := blk_frozen BK130.out 2
       have hfz38_3 := blk_frozen BK130.out 3
       have hfz38_4 := blk_frozen BK130.out 4
       go_wp2
       go_meet
       case rel => exact ⟨_, (false), (by first | rfl | (simp; done) | (simp [*]; done)), H', ⟨by have := HJ4.out; first | omega | exact Nat.le_refl _⟩, ⟨by (with_reducible repeat (first | apply Kd.R_alloc | apply Kd.R_drewN | apply Kd.R_drew)); exact Kd.R_mono (Kd.R_far (p := ⟨gb146, 4, none⟩) (Kd.R_far (p := ⟨gb146, 3, none⟩) (Kd.R_far (p := ⟨gb146, 2, none⟩) (Kd.R_far (p := ⟨gb146, 1, none⟩) (Kd.R_far (p := ⟨gb146, 0, none⟩) (Kd.R_types HO144.out BK146.out (by decide)) (fun _ hk => hk.2) (.int .i64 t137)) (fun _ hk => hk.2) (.int .i64 t138)) (fun _ hk => hk.2) (.bool t139)) (fun _ hk => hk.2) (.bool t140)) (fun _ hk => hk.2) (.int .i64 t141)) (fun _ hk => trivial)⟩, ⟨by (with_reducible repeat (first | refine blk_drewN ?_ _ | refine blk_drew ?_ | refine blk_alloc ?_ _)); refine blk_far ?_ NB128_146.out _; (with_reducible repeat (first | refine blk_drewN ?_ _ | refine blk_drew ?_ | refine blk_alloc ?_ _)); refine blk_far ?_ NB128_146.out _; (with_reducible repeat (first | refine blk_drewN ?_ _ | refine blk_drew ?_ | refine blk_alloc ?_ _)); refine blk_far ?_ NB128_146.out _; (with_reducible repeat (first | refine blk_drewN ?_ _ | refine blk_drew ?_ | refine blk_alloc ?_ _)); refine blk_far ?_ NB128_146.out _; (with_reducible repeat (first | refine blk_drewN ?_ _ | refine blk_drew ?_ | refine blk_alloc ?_ _)); refine blk_far ?_ NB128_146.out _; (with_reducible repeat (first | refine blk_drewN ?_ _ | refine blk_drew ?_ | refine blk_alloc ?_ _)); exact BK128.out⟩, ⟨by (with_reducible repeat (first | refine blk_drewN ?_ _ | refine blk_drew ?_ | refine blk_alloc ?_ _)); refine blk_far ?_ NB129_146.out _; (with_reducible repeat (first | refine blk_drewN ?_ _ | refine blk_drew ?_ | refine blk_alloc ?_ _)); refine blk_far ?_ NB129_146.out _; (with_reducible repeat (first | refine blk_drewN ?_ _ | refine blk_drew ?_ | refine blk_alloc ?_ _)); refine blk_far ?_ NB129_146.out _; (with_reducible repeat (first | refine blk_drewN ?_ _ | refine blk_drew ?_ | refine blk_alloc ?_ _)); refine blk_far ?_ NB129_146.out _; (with_reducible repeat (first | refine blk_drewN ?_ _ | refine blk_drew ?_ | refine blk_alloc ?_ _)); refine blk_far ?_ NB129_146.out _; (with_reducible repeat (first | refine blk_drewN ?_ _ | refine blk_drew ?_ | refine blk_alloc ?_ _)); exact BK129.out⟩, ⟨by (with_reducible repeat (first | refine blk_drewN ?_ _ | refine blk_drew ?_ | refine blk_alloc ?_ _)); refine blk_far ?_ NB130_146.out _; (with_reducible repeat (first | refine blk_drewN ?_ _ | refine blk_drew ?_ | refine blk_alloc ?_ _)); refine blk_far ?_ NB130_146.out _; (with_reducible repeat (first | refine blk_drewN ?_ _ | refine blk_drew ?_ | refine blk_alloc ?_ _)); refine blk_far ?_ NB130_146.out _; (with_reducible repeat (first | refine blk_drewN ?_ _ | refine blk_drew ?_ | refine blk_alloc ?_ _)); refine blk_far ?_ NB130_146.out _; (with_reducible repeat (first | refine blk_drewN ?_ _ | refine blk_drew ?_ | refine blk_alloc ?_ _)); refine blk_far ?_ NB130_146.out _; (with_reducible repeat (first | refine blk_drewN ?_ _ | refine blk_drew ?_ | refine blk_alloc ?_ _)); exact BK130.out⟩, ⟨by (with_reducible repeat (first | refine blk_drewN ?_ _ | refine blk_drew ?_ | refine blk_alloc ?_ _)); refine blk_put (cs := #[.int .i64 t137, .int .i64 t138, .bool t139, .bool t140, .int .i64 0]) ?_ 4 _ rfl; (with_reducible repeat (first | refine blk_drewN ?_ _ | refine blk_drew ?_ | refine blk_alloc ?_ _)); refine blk_put (cs := #[.int .i64 t137, .int .i64 t138, .bool t139, .bool false, .int .i64 0]) ?_ 3 _ rfl; (with_reducible repeat (first | refine blk_drewN ?_ _ | refine blk_drew ?_ | refine blk_alloc ?_ _)); refine blk_put (cs := #[.int .i64 t137, .int .i64 t138, .bool false, .bool false, .int .i64 0]) ?_ 2 _ rfl; (with_reducible repeat (first | refine blk_drewN ?_ _ | refine blk_drew ?_ | refine blk_alloc ?_ _)); refine blk_put (cs := #[.int .i64 t137, .int .i64 0, .bool false, .bool false, .int .i64 0]) ?_ 1 _ rfl; (with_reducible repeat (first | refine blk_drewN ?_ _ | refine blk_drew ?_ | refine blk_alloc ?_ _)); refine blk_put (cs := #[.int .i64 0, .int .i64 0, .bool false, .bool false, .int .i64 0]) ?_ 0 _ rfl; (with_reducible repeat (first | refine blk_drewN ?_ _ | refine blk_drew ?_ | refine blk_alloc ?_ _)); exact BK146.out⟩, ⟨by repeat (first | (with_reducible first | exact HB.out | apply below_alloc | apply pw_below_drewN | apply below_drew1 | refine below_set ?_ GE128.out | refine below_set ?_ GE129.out | refine below_set ?_ GE130.out | refine below_set ?_ GE146.out) | exact HB.out)⟩⟩
      ·replace c34 := Bool.eq_false_iff.mpr c34
       subst c34
       have H1 : (modillionlaw07_ProgQuiet.j1 kj4 t142 (!a3_3) a0_0 l0_1 a1_0 a1_1 a1_2 a3_0 a3_1 false a3_3 a3_4 t137 t138 t139 t140 t141) = some r := by rw [if_neg (show ¬ (false = true) by decide)] at H; exact H
       clear H
       have H := H1
       clear H1
       have H' := Aside0.mk H
       clear H
       have hnb39 := NB130_128.out
       have hnc39 := NB128_130.out
       have hnb40 := NB130_129.out
       have hnc40 := NB129_130.out
       have hnb41 := NB130_146.out
       have hnc41 := NB146_130.out
       have hcz42_0 : w28.cell? ⟨gb130, 0, none⟩ = some (.int .i64 a3_0) := (blk_cell BK130.out 0).trans rfl
       have hcz42_1 : w28.cell? ⟨gb130, 1, none⟩ = some (.int .i64 a3_1) := (blk_cell BK130.out 1).trans rfl
       have hcz42_2 : w28.cell? ⟨gb130, 2, none⟩ = some (.bool false) := (blk_cell BK130.out 2).trans rfl
       have hcz42_3 : w28.cell? ⟨gb130, 3, none⟩ = some (.bool a3_3) := (blk_cell BK130.out 3).trans rfl
       have hcz42_4 : w28.cell? ⟨gb130, 4, none⟩ = some (.int .i64 a3_4) := (blk_cell BK130.out 4).trans rfl
       have hfz42_0 := blk_frozen BK130.out 0
       have hfz42_1 := blk_frozen BK130.out 1
       have hfz42_2 := blk_frozen BK130.out 2
       have hfz42_3 := blk_frozen BK130.out 3
       have hfz42_4 := blk_frozen BK130.out 4
       go_wp2
       go_meet
       case rel => exact ⟨_, (!a3_3), (by first | rfl | (simp; done) | (simp [*]; done)), H', ⟨by have := HJ4.out; first | omega | exact Nat.le_refl _⟩, ⟨by (with_reducible repeat (first | apply Kd.R_alloc | apply Kd.R_drewN | apply Kd.R_drew)); exact Kd.R_mono (Kd.R_far (p := ⟨gb146, 4, none⟩) (Kd.R_far (p := ⟨gb146, 3, none⟩) (Kd.R_far (p := ⟨gb146, 2, none⟩) (Kd.R_far (p := ⟨gb146, 1, none⟩) (Kd.R_far (p := ⟨gb146, 0, none⟩) (Kd.R_types HO144.out BK146.out (by decide)) (fun _ hk => hk.2) (.int .i64 t137)) (fun _ hk => hk.2) (.int .i64 t138)) (fun _ hk => hk.2) (.bool t139)) (fun _ hk => hk.2) (.bool t140)) (fun _ hk => hk.2) (.int .i64 t141)) (fun _ hk => trivial)⟩, ⟨by (with_reducible repeat (first | refine blk_drewN ?_ _ | refine blk_drew ?_ | refine blk_alloc ?_ _)); refine blk_far ?_ NB128_146.out _; (with_reducible repeat (first | refine blk_drewN ?_ _ | refine blk_drew ?_ | refine blk_alloc ?_ _)); refine blk_far ?_ NB128_146.out _; (with_reducible repeat (first | refine blk_drewN ?_ _ | refine blk_drew ?_ | refine blk_alloc ?_ _)); refine blk_far ?_ NB128_146.out _; (with_reducible repeat (first | refine blk_drewN ?_ _ | refine blk_drew ?_ | refine blk_alloc ?_ _)); refine blk_far ?_ NB128_146.out _; (with_reducible repeat (first | refine blk_drewN ?_ _ | refine blk_drew ?_ | refine blk_alloc ?_ _)); refine blk_far ?_ NB128_146.out _; (with_reducible repeat (first | refine blk_drewN ?_ _ | refine blk_drew ?_ | refine blk_alloc ?_ _)); exact BK128.out⟩, ⟨by (with_reducible repeat (first | refine blk_drewN ?_ _ | refine blk_drew ?_ | refine blk_alloc ?_ _)); refine blk_far ?_ NB129_146.out _; (with_reducible repeat (first | refine blk_drewN ?_ _ | refine blk_drew ?_ | refine blk_alloc ?_ _)); refine blk_far ?_ NB129_146.out _; (with_reducible repeat (first | refine blk_drewN ?_ _ | refine blk_drew ?_ | refine blk_alloc ?_ _)); refine blk_far ?_ NB129_146.out _; (with_reducible repeat (first | refine blk_drewN ?_ _ | refine blk_drew ?_ | refine blk_alloc ?_ _)); refine blk_far ?_ NB129_146.out _; (with_reducible repeat (first | refine blk_drewN ?_ _ | refine blk_drew ?_ | refine blk_alloc ?_ _)); refine blk_far ?_ NB129_146.out _; (with_reducible repeat (first | refine blk_drewN ?_ _ | refine blk_drew ?_ | refine blk_alloc ?_ _)); exact BK129.out⟩, ⟨by (with_reducible repeat (first | refine blk_drewN ?_ _ | refine blk_drew ?_ | refine blk_alloc ?_ _)); refine blk_far ?_ NB130_146.out _; (with_reducible repeat (first | refine blk_drewN ?_ _ | refine blk_drew ?_ | refine blk_alloc ?_ _)); refine blk_far ?_ NB130_146.out _; (with_reducible repeat (first | refine blk_drewN ?_ _ | refine blk_drew ?_ | refine blk_alloc ?_ _)); refine blk_far ?_ NB130_146.out _; (with_reducible repeat (first | refine blk_drewN ?_ _ | refine blk_drew ?_ | refine blk_alloc ?_ _)); refine blk_far ?_ NB130_146.out _; (with_reducible repeat (first | refine blk_drewN ?_ _ | refine blk_drew ?_ | refine blk_alloc ?_ _)); refine blk_far ?_ NB130_146.out _; (with_reducible repeat (first | refine blk_drewN ?_ _ | refine blk_drew ?_ | refine blk_alloc ?_ _)); exact BK130.out⟩, ⟨by (with_reducible repeat (first | refine blk_drewN ?_ _ | refine blk_drew ?_ | refine blk_alloc ?_ _)); refine blk_put (cs := #[.int .i64 t137, .int .i64 t138, .bool t139, .bool t140, .int .i64 0]) ?_ 4 _ rfl; (with_reducible repeat (first | refine blk_drewN ?_ _ | refine blk_drew ?_ | refine blk_alloc ?_ _)); refine blk_put (cs := #[.int .i64 t137, .int .i64 t138, .bool t139, .bool false, .int .i64 0]) ?_ 3 _ rfl; (with_reducible repeat (first | refine blk_drewN ?_ _ | refine blk_drew ?_ | refine blk_alloc ?_ _)); refine blk_put (cs := #[.int .i64 t137, .int .i64 t138, .bool false, .bool false, .int .i64 0]) ?_ 2 _ rfl; (with_reducible repeat (first | refine blk_drewN ?_ _ | refine blk_drew ?_ | refine blk_alloc ?_ _)); refine blk_put (cs := #[.int .i64 t137, .int .i64 0, .bool false, .bool false, .int .i64 0]) ?_ 1 _ rfl; (with_reducible repeat (first | refine blk_drewN ?_ _ | refine blk_drew ?_ | refine blk_alloc ?_ _)); refine blk_put (cs := #[.int .i64 0, .int .i64 0, .bool false, .bool false, .int .i64 0]) ?_ 0 _ rfl; (with_reducible repeat (first | refine blk_drewN ?_ _ | refine blk_drew ?_ | refine blk_alloc ?_ _)); exact BK146.out⟩, ⟨by repeat (first | (with_reducible first | exact HB.out | apply below_alloc | apply pw_below_drewN | apply below_drew1 | refine below_set ?_ GE128.out | refine below_set ?_ GE129.out | refine below_set ?_ GE130.out | refine below_set ?_ GE146.out) | exact HB.out)⟩⟩
     case rest =>
      clear HC22
      try clear c1
      try clear p2
      try clear c3
      try clear c4
      try clear c12
      try clear c13
      try clear c34
      try clear c35
      try clear c36
      try clear c37
      try clear c39
      try clear c40
      try clear c41
      try clear hcz38_0
      try clear hcz38_1
      try clear hcz38_2
      try clear hcz38_3
      try clear hcz38_4
      try clear hcz42_0
      try clear hcz42_1
      try clear hcz42_2
      try clear hcz42_3
      try clear hcz42_4
      try clear hfz38_0
      try clear hfz38_1
      try clear hfz38_2
      try clear hfz38_3
      try clear hfz38_4
      try clear hfz42_0
      try clear hfz42_1
      try clear hfz42_2
      try clear hfz42_3
      try clear hfz42_4
      obtain ⟨kq, x51_21, rfl, HA, HJ21, HO_10, BK128, BK129, BK130, BK146, HB⟩ := hcut
      cases kq with
      | zero => exact absurd HA.out (by simp [modillionlaw07_ProgQuiet.j1])
      | succ kj21 =>
       have H := HA.out
       clear HA
       simp only [modillionlaw07_ProgQuiet.j1] at H
       by_cases c43 : x51_21 = true
       ·subst c43
        have H1 : (if (t137 == a3_0 && (t138 == a3_1 && (t139 == a3_2 && (t140 == a3_3 && (t141 == a3_4))))) = true then (some ((t142.length : Int) == 0)) else (some false)) = some r := by rw [if_pos rfl] at H; exact H
        clear H
        have H := H1
        clear H1
        by_cases c44 : (t137 == a3_0 && (t138 == a3_1 && (t139 == a3_2 && (t140 == a3_3 && (t141 == a3_4))))) = true
        ·rw [if_pos c44] at H
         have c44b0 : (t137 == a3_0 && (t138 == a3_1 && (t139 == a3_2 && (t140 == a3_3 && (t141 == a3_4))))) = true := c44
         (try (have c44b1 : decide (t137 = a3_0 && (t138 == a3_1 && (t139 == a3_2 && (t140 == a3_3 && (t141 == a3_4))))) = true := by simpa using c44))
         (try (have c44b2 : (t137 == a3_0 && (t138 == a3_1 && (t139 == a3_2 && (t140 == a3_3 && (t141 == a3_4))))) = true := by simpa using c44))
         clear c44
         obtain rfl := Option.some.inj H
         have hnb45 := NB146_128.out
         have hnc45 := NB128_146.out
         have hnb46 := NB146_129.out
         have hnc46 := NB129_146.out
         have hnb47 := NB146_130.out
         have hnc47 := NB130_146.out
         have hcz48_0 : wc.cell? ⟨gb146, 0, none⟩ = some (.int .i64 t137) := (blk_cell BK146.out 0).trans rfl
         have hcz48_1 : wc.cell? ⟨gb146, 1, none⟩ = some (.int .i64 t138) := (blk_cell BK146.out 1).trans rfl
         have hcz48_2 : wc.cell? ⟨gb146, 2, none⟩ = some (.bool t139) := (blk_cell BK146.out 2).trans rfl
         have hcz48_3 : wc.cell? ⟨gb146, 3, none⟩ = some (.bool t140) := (blk_cell BK146.out 3).trans rfl
         have hcz48_4 : wc.cell? ⟨gb146, 4, none⟩ = some (.int .i64 t141) := (blk_cell BK146.out 4).trans rfl
         have hfz48_0 := blk_frozen BK146.out 0
         have hfz48_1 := blk_frozen BK146.out 1
         have hfz48_2 := blk_frozen BK146.out 2
         have hfz48_3 := blk_frozen BK146.out 3
         have hfz48_4 := blk_frozen BK146.out 4
         have hnb49 := NB130_128.out
         have hnc49 := NB128_130.out
         have hnb50 := NB130_129.out
         have hnc50 := NB129_130.out
         have hcz51_0 : wc.cell? ⟨gb130, 0, none⟩ = some (.int .i64 a3_0) := (blk_cell BK130.out 0).trans rfl
         have hcz51_1 : wc.cell? ⟨gb130, 1, none⟩ = some (.int .i64 a3_1) := (blk_cell BK130.out 1).trans rfl
         have hcz51_2 : wc.cell? ⟨gb130, 2, none⟩ = some (.bool a3_2) := (blk_cell BK130.out 2).trans rfl
         have hcz51_3 : wc.cell? ⟨gb130, 3, none⟩ = some (.bool a3_3) := (blk_cell BK130.out 3).trans rfl
         have hcz51_4 : wc.cell? ⟨gb130, 4, none⟩ = some (.int .i64 a3_4) := (blk_cell BK130.out 4).trans rfl
         have hfz51_0 := blk_frozen BK130.out 0
         have hfz51_1 := blk_frozen BK130.out 1
         have hfz51_2 := blk_frozen BK130.out 2
         have hfz51_3 := blk_frozen BK130.out 3
         have hfz51_4 := blk_frozen BK130.out 4
         obtain ⟨Ao52, co52, eo52⟩ := Kd.R_slice HO_10.out
         subst eo52
         go_wp2
         go_ret
         exact ⟨by first | rfl | (simp [errW_none, errW_some] <;> rfl) | (simp [*, errW_none, errW_some] <;> rfl), by repeat (first | (with_reducible first | exact HB.out | apply below_alloc | apply pw_below_drewN | apply below_drew1 | refine below_set ?_ GE128.out | refine below_set ?_ GE129.out | refine below_set ?_ GE130.out | refine below_set ?_ GE146.out) | exact HB.out)⟩
        ·rw [if_neg c44] at H
         have c44b0 : (t137 == a3_0 && (t138 == a3_1 && (t139 == a3_2 && (t140 == a3_3 && (t141 == a3_4))))) = false := by simpa using c44
         (try (have c44b1 : decide (t137 = a3_0 && (t138 == a3_1 && (t139 == a3_2 && (t140 == a3_3 && (t141 == a3_4))))) = false := by simpa using c44))
         (try (have c44b2 : (t137 == a3_0 && (t138 == a3_1 && (t139 == a3_2 && (t140 == a3_3 && (t141 == a3_4))))) = false := by simpa using c44))
         (try (have c44b3 : ¬ (t137 = a3_0 && (t138 == a3_1 && (t139 == a3_2 && (t140 == a3_3 && (t141 == a3_4))))) := by simpa using c44))
         clear c44
         obtain rfl := Option.some.inj H
         have hnb53 := NB146_128.out
         have hnc53 := NB128_146.out
         have hnb54 := NB146_129.out
         have hnc54 := NB129_146.out
         have hnb55 := NB146_130.out
         have hnc55 := NB130_146.out
         have hcz56_0 : wc.cell? ⟨gb146, 0, none⟩ = some (.int .i64 t137) := (blk_cell BK146.out 0).trans rfl
         have hcz56_1 : wc.cell? ⟨gb146, 1, none⟩ = some (.int .i64 t138) := (blk_cell BK146.out 1).trans rfl
         have hcz56_2 : wc.cell? ⟨gb146, 2, none⟩ = some (.bool t139) := (blk_cell BK146.out 2).trans rfl
         have hcz56_3 : wc.cell? ⟨gb146, 3, none⟩ = some (.bool t140) := (blk_cell BK146.out 3).trans rfl
         have hcz56_4 : wc.cell? ⟨gb146, 4, none⟩ = some (.int .i64 t141) := (blk_cell BK146.out 4).trans rfl
         have hfz56_0 := blk_frozen BK146.out 0
         have hfz56_1 := blk_frozen BK146.out 1
         have hfz56_2 := blk_frozen BK146.out 2
         have hfz56_3 := blk_frozen BK146.out 3
         have hfz56_4 := blk_frozen BK146.out 4
         have hnb57 := NB130_128.out
         have hnc57 := NB128_130.out
         have hnb58 := NB130_129.out
         have hnc58 := NB129_130.out
         have hcz59_0 : wc.cell? ⟨gb130, 0, none⟩ = some (.int .i64 a3_0) := (blk_cell BK130.out 0).trans rfl
         have hcz59_1 : wc.cell? ⟨gb130, 1, none⟩ = some (.int .i64 a3_1) := (blk_cell BK130.out 1).trans rfl
         have hcz59_2 : wc.cell? ⟨gb130, 2, none⟩ = some (.bool a3_2) := (blk_cell BK130.out 2).trans rfl
         have hcz59_3 : wc.cell? ⟨gb130, 3, none⟩ = some (.bool a3_3) := (blk_cell BK130.out 3).trans rfl
         have hcz59_4 : wc.cell? ⟨gb130, 4, none⟩ = some (.int .i64 a3_4) := (blk_cell BK130.out 4).trans rfl
         have hfz59_0 := blk_frozen BK130.out 0
         have hfz59_1 := blk_frozen BK130.out 1
         have hfz59_2 := blk_frozen BK130.out 2
         have hfz59_3 := blk_frozen BK130.out 3
         have hfz59_4 := blk_frozen BK130.out 4
         go_wp2
         go_ret
         exact ⟨by first | rfl | (simp [errW_none, errW_some] <;> rfl) | (simp [*, errW_none, errW_some] <;> rfl), by repeat (first | (with_reducible first | exact HB.out | apply below_alloc | apply pw_below_drewN | apply below_drew1 | refine below_set ?_ GE128.out | refine below_set ?_ GE129.out | refine below_set ?_ GE130.out | refine below_set ?_ GE146.out) | exact HB.out)⟩
       ·replace c43 := Bool.eq_false_iff.mpr c43
        subst c43
        have H1 : (modillionlaw07_ProgQuiet.l0 kj21 t142 0 a0_0 l0_1 a1_0 a1_1 a1_2 a3_0 a3_1 a3_2 a3_3 a3_4 t137 t138 t139 t140 t141) = some r := by rw [if_neg (show ¬ (false = true) by decide)] at H; exact H
        clear H
        have H := H1
        clear H1
        have H' := Aside0.mk H
        clear H
        go_wp2
        go_loopg [12] kj21 (fun kq v12 w' => ∃ (x12_3 : Int), v12 = .int .i64 x12_3 ∧ Aside0 (modillionlaw07_ProgQuiet.l0 kq t142 x12_3 a0_0 l0_1 a1_0 a1_1 a1_2 a3_0 a3_1 a3_2 a3_3 a3_4 t137 t138 t139 t140 t141 = some r) ∧ Aside0 (kq ≤ kj21) ∧ Aside0 (Kd.R k48 48 w' w.heap.size (fun _ => True) v143 t142) ∧ Aside0 (w'.heap[gb128]? = some (.cells #[.int .i64 a0_0, (.slice A0_1 l0_1.length c0_1)] 24 (0, 0))) ∧ Aside0 (w'.heap[gb129]? = some (.cells #[.string a1_0, .int .i64 a1_1, .int .i64 a1_2] 26 (0, 0))) ∧ Aside0 (w'.heap[gb130]? = some (.cells #[.int .i64 a3_0, .int .i64 a3_1, .bool a3_2, .bool a3_3, .int .i64 a3_4] 28 (0, 0))) ∧ Aside0 (w'.heap[gb146]? = some (.cells #[.int .i64 t137, .int .i64 t138, .bool t139, .bool t140, .int .i64 t141] 28 (0, 0))) ∧ Aside0 (Below w.heap.size w w'))
        case atStart => exact ⟨(0), (by first | rfl | (simp; done) | (simp [*]; done)), H', ⟨Nat.le_refl _⟩, ⟨by (with_reducible repeat (first | apply Kd.R_alloc | apply Kd.R_drewN | apply Kd.R_drew)); exact HO_10.out⟩, ⟨by (with_reducible repeat (first | refine blk_drewN ?_ _ | refine blk_drew ?_ | refine blk_alloc ?_ _)); exact BK128.out⟩, ⟨by (with_reducible repeat (first | refine blk_drewN ?_ _ | refine blk_drew ?_ | refine blk_alloc ?_ _)); exact BK129.out⟩, ⟨by (with_reducible repeat (first | refine blk_drewN ?_ _ | refine blk_drew ?_ | refine blk_alloc ?_ _)); exact BK130.out⟩, ⟨by (with_reducible repeat (first | refine blk_drewN ?_ _ | refine blk_drew ?_ | refine blk_alloc ?_ _)); exact BK146.out⟩, ⟨by repeat (first | (with_reducible first | exact HB.out | apply below_alloc | apply pw_below_drewN | apply below_drew1 | refine below_set ?_ GE128.out | refine below_set ?_ GE129.out | refine below_set ?_ GE130.out | refine below_set ?_ GE146.out) | exact HB.out)⟩⟩
        case round =>
         clear H'
         try clear c1
         try clear p2
         try clear c3
         try clear c4
         try clear c5
         try clear c12
         try clear c13
         try clear c34
         try clear c35
         try clear c36
         try clear c37
         try clear c39
         try clear c40
         try clear c41
         try clear c43
         try clear c44
         try clear c44b0
         try clear c44b1
         try clear c44b2
         try clear c45
         try clear c46
         try clear c47
         try clear c49
         try clear c50
         try clear c53
         try clear c54
         try clear c55
         try clear c57
         try clear c58
         try clear hcz38_0
         try clear hcz38_1
         try clear hcz38_2
         try clear hcz38_3
         try clear hcz38_4
         try clear hcz42_0
         try clear hcz42_1
         try clear hcz42_2
         try clear hcz42_3
         try clear hcz42_4
         try clear hcz48_0
         try clear hcz48_1
         try clear hcz48_2
         try clear hcz48_3
         try clear hcz48_4
         try clear hcz51_0
         try clear hcz51_1
         try clear hcz51_2
         try clear hcz51_3
         try clear hcz51_4
         try clear hcz56_0
         try clear hcz56_1
         try clear hcz56_2
         try clear hcz56_3
         try clear hcz56_4
         try clear hcz59_0
         try clear hcz59_1
         try clear hcz59_2
         try clear hcz59_3
         try clear hcz59_4
         try clear hfz38_0
         try clear hfz38_1
         try clear hfz38_2
         try clear hfz38_3
         try clear hfz38_4
         try clear hfz42_0
         try clear hfz42_1
         try clear hfz42_2
         try clear hfz42_3
         try clear hfz42_4
         try clear hfz48_0
         try clear hfz48_1
         try clear hfz48_2
         try clear hfz48_3
         try clear hfz48_4
         try clear hfz51_0
         try clear hfz51_1
         try clear hfz51_2
         try clear hfz51_3
         try clear hfz51_4
         try clear hfz56_0
         try clear hfz56_1
         try clear hfz56_2
         try clear hfz56_3
         try clear hfz56_4
         try clear hfz59_0
         try clear hfz59_1
         try clear hfz59_2
         try clear hfz59_3
         try clear hfz59_4
         try clear p2
         obtain ⟨x12_3, rfl, HA, HK3, HO_10, BK128, BK129, BK130, BK146, HB⟩ := hrel
         cases gk with
         | zero => exact absurd HA.out (by simp [modillionlaw07_ProgQuiet.l0])
         | succ k3 =>
          have H := HA.out
          clear HA
          simp only [modillionlaw07_ProgQuiet.l0] at H
          by_cases c60 : x12_3 < (t142.length : Int)
          ·rw [if_pos c60] at H
           have c60b0 : decide (x12_3 < (t142.length : Int)) = true := decide_eq_true c60
           clear c60
           have H' := Aside0.mk H
           clear H
           obtain ⟨Ao61, co61, eo61⟩ := Kd.R_slice HO_10.out
           subst eo61
           go_wp2
           go_loopg [13, 14] k3 (fun kq v13 v14 w' => ∃ (x13_4 : Bool) (x14_4 : Int), v13 = .bool x13_4 ∧ v14 = .int .i64 x14_4 ∧ Aside0 (modillionlaw07_ProgQuiet.l1 kq t142 x12_3 x13_4 x14_4 a0_0 l0_1 a1_0 a1_1 a1_2 a3_0 a3_1 a3_2 a3_3 a3_4 t137 t138 t139 t140 t141 = some r) ∧ Aside0 (kq ≤ k3) ∧ Aside0 (Kd.R k48 48 w' w.heap.size (fun _ => True) (.slice Ao61 t142.length co61) t142) ∧ Aside0 (w'.heap[gb128]? = some (.cells #[.int .i64 a0_0, (.slice A0_1 l0_1.length c0_1)] 24 (0, 0))) ∧ Aside0 (w'.heap[gb129]? = some (.cells #[.string a1_0, .int .i64 a1_1, .int .i64 a1_2] 26 (0, 0))) ∧ Aside0 (w'.heap[gb130]? = some (.cells #[.int .i64 a3_0, .int .i64 a3_1, .bool a3_2, .bool a3_3, .int .i64 a3_4] 28 (0, 0))) ∧ Aside0 (w'.heap[gb146]? = some (.cells #[.int .i64 t137, .int .i64 t138, .bool t139, .bool t140, .int .i64 t141] 28 (0, 0))) ∧ Aside0 (Below w.heap.size w w'))
           case atStart => exact ⟨(false), (0), (by first | rfl | (simp; done) | (simp [*]; done)), (by first | rfl | (simp; done) | (simp [*]; done)), H', ⟨Nat.le_refl _⟩, ⟨by (with_reducible repeat (first | apply Kd.R_alloc | apply Kd.R_drewN | apply Kd.R_drew)); exact HO_10.out⟩, ⟨by (with_reducible repeat (first | refine blk_drewN ?_ _ | refine blk_drew ?_ | refine blk_alloc ?_ _)); exact BK128.out⟩, ⟨by (with_reducible repeat (first | refine blk_drewN ?_ _ | refine blk_drew ?_ | refine blk_alloc ?_ _)); exact BK129.out⟩, ⟨by (with_reducible repeat (first | refine blk_drewN ?_ _ | refine blk_drew ?_ | refine blk_alloc ?_ _)); exact BK130.out⟩, ⟨by (with_reducible repeat (first | refine blk_drewN ?_ _ | refine blk_drew ?_ | refine blk_alloc ?_ _)); exact BK146.out⟩, ⟨by repeat (first | (with_reducible first | exact HB.out | apply below_alloc | apply pw_below_drewN | apply below_drew1 | refine below_set ?_ GE128.out | refine below_set ?_ GE129.out | refine below_set ?_ GE130.out | refine below_set ?_ GE146.out) | exact HB.out)⟩⟩
           case round =>
            clear H'
            try clear c1
            try clear p2
            try clear c3
            try clear c4
            try clear c5
            try clear c6
            try clear c12
            try clear c13
            try clear c34
            try clear c35
            try clear c36
            try clear c37
            try clear c39
            try clear c40
            try clear c41
            try clear c43
            try clear c44
            try clear c44b0
            try clear c44b1
            try clear c44b2
            try clear c45
            try clear c46
            try clear c47
            try clear c49
            try clear c50
            try clear c53
            try clear c54
            try clear c55
            try clear c57
            try clear c58
            try clear c60
            try clear c60b0
            try clear hcz38_0
            try clear hcz38_1
            try clear hcz38_2
            try clear hcz38_3
            try clear hcz38_4
            try clear hcz42_0
            try clear hcz42_1
            try clear hcz42_2
            try clear hcz42_3
            try clear hcz42_4
            try clear hcz48_0
            try clear hcz48_1
            try clear hcz48_2
            try clear hcz48_3
            try clear hcz48_4
            try clear hcz51_0
            try clear hcz51_1
            try clear hcz51_2
            try clear hcz51_3
            try clear hcz51_4
            try clear hcz56_0
            try clear hcz56_1
            try clear hcz56_2
            try clear hcz56_3
            try clear hcz56_4
            try clear hcz59_0
            try clear hcz59_1
            try clear hcz59_2
            try clear hcz59_3
            try clear hcz59_4
            try clear hfz38_0
            try clear hfz38_1
            try clear hfz38_2
            try clear hfz38_3
            try clear hfz38_4
            try clear hfz42_0
            try clear hfz42_1
            try clear hfz42_2
            try clear hfz42_3
            try clear hfz42_4
            try clear hfz48_0
            try clear hfz48_1
            try clear hfz48_2
            try clear hfz48_3
            try clear hfz48_4
            try clear hfz51_0
            try clear hfz51_1
            try clear hfz51_2
            try clear hfz51_3
            try clear hfz51_4
            try clear hfz56_0
            try clear hfz56_1
            try clear hfz56_2
            try clear hfz56_3
            try clear hfz56_4
            try clear hfz59_0
            try clear hfz59_1
            try clear hfz59_2
            try clear hfz59_3
            try clear hfz59_4
            try clear p2
            obtain ⟨x13_4, x14_4, rfl, rfl, HA, HK4, HO_10, BK128, BK129, BK130, BK146, HB⟩ := hrel
            cases gk with
            | zero => exact absurd HA.out (by simp [modillionlaw07_ProgQuiet.l1])
            | succ k4 =>
             have H := HA.out
             clear HA
             simp only [modillionlaw07_ProgQuiet.l1] at H
             by_cases c62 : x14_4 < (l0_1.length : Int)
             ·rw [if_pos c62] at H
              have c62b0 : decide (x14_4 < (l0_1.length : Int)) = true := decide_eq_true c62
              clear c62
              by_cases c63 : x13_4 = true
              ·subst c63
               have H1 : (modillionlaw07_ProgQuiet.l1 k4 t142 x12_3 true (wrap64 (x14_4 + 1)) a0_0 l0_1 a1_0 a1_1 a1_2 a3_0 a3_1 a3_2 a3_3 a3_4 t137 t138 t139 t140 t141) = some r := by rw [if_pos rfl] at H; exact H
               clear H
               have H := H1
               clear H1
               have H' := Aside0.mk H
               clear H
               have hnb64 := NB128_129.out
               have hnc64 := NB129_128.out
               have hnb65 := NB128_130.out
               have hnc65 := NB130_128.out
               have hnb66 := NB128_146.out
               have hnc66 := NB146_128.out
               have hcz67_0 : wr.cell? ⟨gb128, 0, none⟩ = some (.int .i64 a0_0) := (blk_cell BK128.out 0).trans rfl
               have hcz67_1 : wr.cell? ⟨gb128, 1, none⟩ = some (.slice A0_1 l0_1.length c0_1) := (blk_cell BK128.out 1).trans rfl
               have hfz67_0 := blk_frozen BK128.out 0
               have hfz67_1 := blk_frozen BK128.out 1
               try go_wp2
               have n0_ := Aside0.mk (Kd.R_drew HO_10.out)
               have n1_ := Aside0.mk (blk_drew BK128.out)
               have n2_ := Aside0.mk (blk_drew BK129.out)
               have n3_ := Aside0.mk (blk_drew BK130.out)
               have n4_ := Aside0.mk (blk_drew BK146.out)
               have n5_ := Aside0.mk (below_drew1 HB.out)
               clear HO_10
               clear BK128
               clear BK129
               clear BK130
               clear BK146
               clear HB
               have HO_10 := n0_
               have BK128 := n1_
               have BK129 := n2_
               have BK130 := n3_
               have BK146 := n4_
               have HB := n5_
               clear n0_ n1_ n2_ n3_ n4_ n5_
               refine start_ (n := 27) (S := fun w' => True) (ds := []) #[false, false, false, false, false, false, false, false, false, false, false, false, false, false, false, false, false, false, false, false, false, false, false, false, false, false, false] (by kernel_rfl) rfl rfl trivial (fun hHeld => ?_); refine with_tabW modillionlaw07_ProgQuiet.tab15 modillionlaw07_ProgQuiet.bits15 (fun HT_ HW_ => ?_)
               generalize wr.drew = w68 at HO_10 BK128 BK129 BK130 BK146 HB hHeld ⊢
               refine pure_ (i := 0) (N := some 73) (v := ?_) (a' := ?_) #[true, false, false, false, false, false, false, false, false, false, false, false, false, false, false, false, false, false, false, false, false, false, false, false, false, false, false] rfl rfl (any_of HT_.out (by kernel_rfl)) (fun _ _ _ h => h) (Or.inl ⟨by rfl, ?_⟩) ?_ ?_
               rotate_left
               ·intro w'
                go_simp
                with_reducible rfl
               rotate_left
               ·simp only [Act.put, q1_, q2_, q3_, i64_w, i32_w]
                rfl
               refine pure_ (i := 1) (N := some 74) (v := ?_) (a' := ?_) #[true, true, false, false, false, false, false, false, false, false, false, false, false, false, false, false, false, false, false, false, false, false, false, false, false, false, false] rfl rfl (any_of HT_.out (by kernel_rfl)) (fun _ _ _ h => h) (Or.inl ⟨by rfl, ?_⟩) ?_ ?_
               rotate_left
               ·intro w'
                go_simp
                with_reducible rfl
               rotate_left
               ·simp only [Act.put, q1_, q2_, q3_, i64_w, i32_w]
                rfl
               refine pure_ (i := 2) (N := some 75) (v := undef) (a' := ?_) #[true, true, true, false, false, false, false, false, false, false, false, false, false, false, false, false, false, false, false, false, false, false, false, false, false, false, false] rfl rfl (any_of HT_.out (by kernel_rfl)) (fun _ _ _ h => h) (Or.inr ⟨by rfl, rfl⟩) ?_ ?_
               rotate_left
               ·simp only [Act.put, q1_, q2_, q3_, i64_w, i32_w]
                rfl
               refine pure_ (i := 3) (N := some 76) (v := undef) (a' := ?_) #[true, true, true, true, false, false, false, false, false, false, false, false, false, false, false, false, false, false, false, false, false, false, false, false, false, false, false] rfl rfl (any_of HT_.out (by kernel_rfl)) (fun _ _ _ h => h) (Or.inr ⟨by rfl, rfl⟩) ?_ ?_
               rotate_left
               ·simp only [Act.put, q1_, q2_, q3_, i64_w, i32_w]
                rfl
               refine pure_ (i := 4) (N := some 77) (v := undef) (a' := ?_) #[true, true, true, true, true, false, false, false, false, false, false, false, false, false, false, false, false, false, false, false, false, false, false, false, false, false, false] rfl rfl (any_of HT_.out (by kernel_rfl)) (fun _ _ _ h => h) (Or.inr ⟨by rfl, rfl⟩) ?_ ?_
               rotate_left
               ·simp only [Act.put, q1_, q2_, q3_, i64_w, i32_w]
                rfl
               refine pure_ (i := 5) (N := some 78) (v := undef) (a' := ?_) #[true, true, true, true, true, true, false, false, false, false, false, false, false, false, false, false, false, false, false, false, false, false, false, false, false, false, false] rfl rfl (any_of HT_.out (by kernel_rfl)) (fun _ _ _ h => h) (Or.inr ⟨by rfl, rfl⟩) ?_ ?_
               rotate_left
               ·simp only [Act.put, q1_, q2_, q3_, i64_w, i32_w]
                rfl
               refine pure_ (i := 6) (N := some 79) (v := undef) (a' := ?_) #[true, true, true, true, true, true, true, false, false, false, false, false, false, false, false, false, false, false, false, false, false, false, false, false, false, false, false] rfl rfl (any_of HT_.out (by kernel_rfl)) (fun _ _ _ h => h) (Or.inr ⟨by rfl, rfl⟩) ?_ ?_
               rotate_left
               ·simp only [Act.put, q1_, q2_, q3_, i64_w, i32_w]
                rfl
               refine pure_ (i := 7) (N := some 80) (v := undef) (a' := ?_) #[true, true, true, true, true, true, true, true, false, false, false, false, false, false, false, false, false, false, false, false, false, false, false, false, false, false, false] rfl rfl (any_of HT_.out (by kernel_rfl)) (fun _ _ _ h => h) (Or.inr ⟨by rfl, rfl⟩) ?_ ?_
               rotate_left
               ·simp only [Act.put, q1_, q2_, q3_, i64_w, i32_w]
                rfl
               refine pure_ (i := 8) (N := some 81) (v := undef) (a' := ?_) #[true, true, true, true, true, true, true, true, true, false, false, false, false, false, false, false, false, false, false, false, false, false, false, false, false, false, false] rfl rfl (any_of HT_.out (by kernel_rfl)) (fun _ _ _ h => h) (Or.inr ⟨by rfl, rfl⟩) ?_ ?_
               rotate_left
               ·simp only [Act.put, q1_, q2_, q3_, i64_w, i32_w]
                rfl
               refine pure_ (i := 9) (N := some 82) (v := undef) (a' := ?_) #[true, true, true, true, true, true, true, true, true, true, false, false, false, false, false, false, false, false, false, false, false, false, false, false, false, false, false] rfl rfl (any_of HT_.out (by kernel_rfl)) (fun _ _ _ h => h) (Or.inr ⟨by rfl, rfl⟩) ?_ ?_
               rotate_left
               ·simp only [Act.put, q1_, q2_, q3_, i64_w, i32_w]
                rfl
               refine pure_ (i := 10) (N := some 83) (v := undef) (a' := ?_) #[true, true, true, true, true, true, true, true, true, true, true, false, false, false, false, false, false, false, false, false, false, false, false, false, false, false, false] rfl rfl (any_of HT_.out (by kernel_rfl)) (fun _ _ _ h => h) (Or.inr ⟨by rfl, rfl⟩) ?_ ?_
               rotate_left
               ·simp only [Act.put, q1_, q2_, q3_, i64_w, i32_w]
                rfl
               refine pure_ (i := 11) (N := some 84) (v := undef) (a' := ?_) #[true, true, true, true, true, true, true, true, true, true, true, true, false, false, false, false, false, false, false, false, false, false, false, false, false, false, false] rfl rfl (any_of HT_.out (by kernel_rfl)) (fun _ _ _ h => h) (Or.inr ⟨by rfl, rfl⟩) ?_ ?_
               rotate_left
               ·simp only [Act.put, q1_, q2_, q3_, i64_w, i32_w]
                rfl
               refine pure_ (i := 12) (N := some 85) (v := undef) (a' := ?_) #[true, true, true, true, true, true, true, true, true, true, true, true, true, false, false, false, false, false, false, false, false, false, false, false, false, false, false] rfl rfl (any_of HT_.out (by kernel_rfl)) (fun _ _ _ h => h) (Or.inr ⟨by rfl, rfl⟩) ?_ ?_
               rotate_left
               ·simp only [Act.put, q1_, q2_, q3_, i64_w, i32_w]
                rfl
               refine pure_ (i := 13) (N := some 86) (v := undef) (a' := ?_) #[true, true, true, true, true, true, true, true, true, true, true, true, true, true, false, false, false, false, false, false, false, false, false, false, false, false, false] rfl rfl (any_of HT_.out (by kernel_rfl)) (fun _ _ _ h => h) (Or.inr ⟨by rfl, rfl⟩) ?_ ?_
               rotate_left
               ·simp only [Act.put, q1_, q2_, q3_, i64_w, i32_w]
                rfl
               refine pure_ (i := 14) (N := some 87) (v := undef) (a' := ?_) #[true, true, true, true, true, true, true, true, true, true, true, true, true, true, true, false, false, false, false, false, false, false, false, false, false, false, false] rfl rfl (any_of HT_.out (by kernel_rfl)) (fun _ _ _ h => h) (Or.inr ⟨by rfl, rfl⟩) ?_ ?_
               rotate_left
               ·simp only [Act.put, q1_, q2_, q3_, i64_w, i32_w]
                rfl
               refine pure_ (i := 15) (N := some 88) (v := undef) (a' := ?_) #[true, true, true, true, true, true, true, true, true, true, true, true, true, true, true, true, false, false, false, false, false, false, false, false, false, false, false] rfl rfl (any_of HT_.out (by kernel_rfl)) (fun _ _ _ h => h) (Or.inr ⟨by rfl, rfl⟩) ?_ ?_
               rotate_left
               ·simp only [Act.put, q1_, q2_, q3_, i64_w, i32_w]
                rfl
               refine pure_ (i := 16) (N := some 89) (v := undef) (a' := ?_) #[true, true, true, true, true, true, true, true, true, true, true, true, true, true, true, true, true, false, false, false, false, false, false, false, false, false, false] rfl rfl (any_of HT_.out (by kernel_rfl)) (fun _ _ _ h => h) (Or.inr ⟨by rfl, rfl⟩) ?_ ?_
               rotate_left
               ·simp only [Act.put, q1_, q2_, q3_, i64_w, i32_w]
                rfl
               refine pure_ (i := 17) (N := some 90) (v := undef) (a' := ?_) #[true, true, true, true, true, true, true, true, true, true, true, true, true, true, true, true, true, true, false, false, false, false, false, false, false, false, false] rfl rfl (any_of HT_.out (by kernel_rfl)) (fun _ _ _ h => h) (Or.inr ⟨by rfl, rfl⟩) ?_ ?_
               rotate_left
               ·simp only [Act.put, q1_, q2_, q3_, i64_w, i32_w]
                rfl
               refine pure_ (i := 18) (N := some 91) (v := undef) (a' := ?_) #[true, true, true, true, true, true, true, true, true, true, true, true, true, true, true, true, true, true, true, false, false, false, false, false, false, false, false] rfl rfl (any_of HT_.out (by kernel_rfl)) (fun _ _ _ h => h) (Or.inr ⟨by rfl, rfl⟩) ?_ ?_
               rotate_left
               ·simp only [Act.put, q1_, q2_, q3_, i64_w, i32_w]
                rfl
               refine pure_ (i := 19) (N := some 92) (v := undef) (a' := ?_) #[true, true, true, true, true, true, true, true, true, true, true, true, true, true, true, true, true, true, true, true, false, false, false, false, false, false, false] rfl rfl (any_of HT_.out (by kernel_rfl)) (fun _ _ _ h => h) (Or.inr ⟨by rfl, rfl⟩) ?_ ?_
               rotate_left
               ·simp only [Act.put, q1_, q2_, q3_, i64_w, i32_w]
                rfl
               refine pure_ (i := 20) (N := some 93) (v := undef) (a' := ?_) #[true, true, true, true, true, true, true, true, true, true, true, true, true, true, true, true, true, true, true, true, true, false, false, false, false, false, false] rfl rfl (any_of HT_.out (by kernel_rfl)) (fun _ _ _ h => h) (Or.inr ⟨by rfl, rfl⟩) ?_ ?_
               rotate_left
               ·simp only [Act.put, q1_, q2_, q3_, i64_w, i32_w]
                rfl
               refine pure_ (i := 21) (N := some 94) (v := undef) (a' := ?_) #[true, true, true, true, true, true, true, true, true, true, true, true, true, true, true, true, true, true, true, true, true, true, false, false, false, false, false] rfl rfl (any_of HT_.out (by kernel_rfl)) (fun _ _ _ h => h) (Or.inr ⟨by rfl, rfl⟩) ?_ ?_
               rotate_left
               ·simp only [Act.put, q1_, q2_, q3_, i64_w, i32_w]
                rfl
               refine pure_ (i := 22) (N := some 95) (v := undef) (a' := ?_) #[true, true, true, true, true, true, true, true, true, true, true, true, true, true, true, true, true, true, true, true, true, true, true, false, false, false, false] rfl rfl (any_of HT_.out (by kernel_rfl)) (fun _ _ _ h => h) (Or.inr ⟨by rfl, rfl⟩) ?_ ?_
               rotate_left
               ·simp only [Act.put, q1_, q2_, q3_, i64_w, i32_w]
                rfl
               refine pure_ (i := 23) (N := some 96) (v := undef) (a' := ?_) #[true, true, true, true, true, true, true, true, true, true, true, true, true, true, true, true, true, true, true, true, true, true, true, true, false, false, false] rfl rfl (any_of HT_.out (by kernel_rfl)) (fun _ _ _ h => h) (Or.inr ⟨by rfl, rfl⟩) ?_ ?_
               rotate_left
               ·simp only [Act.put, q1_, q2_, q3_, i64_w, i32_w]
                rfl
               refine pure_ (i := 24) (N := some 97) (v := undef) (a' := ?_) #[true, true, true, true, true, true, true, true, true, true, true, true, true, true, true, true, true, true, true, true, true, true, true, true, true, false, false] rfl rfl (any_of HT_.out (by kernel_rfl)) (fun _ _ _ h => h) (Or.inr ⟨by rfl, rfl⟩) ?_ ?_
               rotate_left
               ·simp only [Act.put, q1_, q2_, q3_, i64_w, i32_w]
                rfl
               refine pure_ (i := 25) (N := some 98) (v := ?_) (a' := ?_) #[true, true, true, true, true, true, true, true, true, true, true, true, true, true, true, true, true, true, true, true, true, true, true, true, true, true, false] rfl rfl (any_of HT_.out (by kernel_rfl)) (fun _ _ _ h => h) (Or.inl ⟨by rfl, ?_⟩) ?_ ?_
               rotate_left
               ·intro w'
                go_simp
                with_reducible rfl
               rotate_left
               ·simp only [Act.put, q1_, q2_, q3_, i64_w, i32_w]
                rfl
               refine pure_ (i := 26) (N := some 13) (v := ?_) (a' := ?_) #[true, true, true, true, true, true, true, true, true, true, true, true, true, true, true, true, true, true, true, true, true, true, true, true, true, true, true] rfl rfl (any_of HT_.out (by kernel_rfl)) (fun _ _ _ h => h) (Or.inl ⟨by rfl, ?_⟩) ?_ ?_
               rotate_left
               ·intro w'
                go_simp
                with_reducible rfl
               rotate_left
               ·simp only [Act.put, q1_, q2_, q3_, i64_w, i32_w]
                rfl
               refine done_ (done_of HT_.out (by kernel_rfl)) ?_
               try go_wp2
               go_roundg k4
               case measure => have := HJ4.out; have := HJ21.out; have := HK3.out; have := HK4.out; omega
               case rel => exact ⟨(true), (wrap64 (x14_4 + 1)), (by first | rfl | (simp; done) | (simp [*]; done)), (by first | rfl | (simp; done) | (simp [*]; done)), H', ⟨by have := HJ4.out; have := HJ21.out; have := HK3.out; have := HK4.out; omega⟩, ⟨by (with_reducible repeat (first | apply Kd.R_alloc | apply Kd.R_drewN | apply Kd.R_drew)); exact HO_10.out⟩, ⟨by (with_reducible repeat (first | refine blk_drewN ?_ _ | refine blk_drew ?_ | refine blk_alloc ?_ _)); exact BK128.out⟩, ⟨by (with_reducible repeat (first | refine blk_drewN ?_ _ | refine blk_drew ?_ | refine blk_alloc ?_ _)); exact BK129.out⟩, ⟨by (with_reducible repeat (first | refine blk_drewN ?_ _ | refine blk_drew ?_ | refine blk_alloc ?_ _)); exact BK130.out⟩, ⟨by (with_reducible repeat (first | refine blk_drewN ?_ _ | refine blk_drew ?_ | refine blk_alloc ?_ _)); exact BK146.out⟩, ⟨by repeat (first | (with_reducible first | exact HB.out | apply below_alloc | apply pw_below_drewN | apply below_drew1 | refine below_set ?_ GE128.out | refine below_set ?_ GE129.out | refine below_set ?_ GE130.out | refine below_set ?_ GE146.out) | exact HB.out)⟩⟩
              ·replace c63 := Bool.eq_false_iff.mpr c63
               subst c63
               have H1 : (if 0 ≤ x14_4 then (if ((rd_T46 l0_1 x14_4).f0) = a3_0 then (if 0 ≤ x12_3 then (if x12_3 < (t142.length : Int) then (modillionlaw07_ProgQuiet.l1 k4 t142 x12_3 (((rd_T46 l0_1 x14_4).f1) == ((rd_T48 t142 x12_3).f1)) (wrap64 (x14_4 + 1)) a0_0 l0_1 a1_0 a1_1 a1_2 a3_0 a3_1 a3_2 a3_3 a3_4 t137 t138 t139 t140 t141) else (none)) else (none)) else (modillionlaw07_ProgQuiet.l1 k4 t142 x12_3 false (wrap64 (x14_4 + 1)) a0_0 l0_1 a1_0 a1_1 a1_2 a3_0 a3_1 a3_2 a3_3 a3_4 t137 t138 t139 t140 t141)) else (none)) = some r := by rw [if_neg (show ¬ (false = true) by decide)] at H; exact H
               clear H
               have H := H1
               clear H1
               by_cases c69 : 0 ≤ x14_4
               ·rw [if_pos c69] at H
                have c69b0 : decide (0 ≤ x14_4) = true := decide_eq_true c69
                clear c69
                by_cases c70 : ((rd_T46 l0_1 x14_4).f0) = a3_0
                ·rw [if_pos c70] at H
                 have c70b0 : (((rd_T46 l0_1 x14_4).f0) == a3_0) = true := beq_iff_eq.mpr c70
                 have c70b1 : (((rd_T46 l0_1 x14_4).f0) != a3_0) = false := bne_eq_false_iff_eq.mpr c70
                 clear c70
                 by_cases c71 : 0 ≤ x12_3
                 ·rw [if_pos c71] at H
                  have c71b0 : decide (0 ≤ x12_3) = true := decide_eq_true c71
                  clear c71
                  by_cases c72 : x12_3 < (t142.length : Int)
                  ·rw [if_pos c72] at H
                   have c72b0 : decide (x12_3 < (t142.length : Int)) = true := decide_eq_true c72
                   clear c72
                   have H' := Aside0.mk H
                   clear H
                   have hnb73 := NB128_129.out
                   have hnc73 := NB129_128.out
                   have hnb74 := NB128_130.out
                   have hnc74 := NB130_128.out
                   have hnb75 := NB128_146.out
                   have hnc75 := NB146_128.out
                   have hcz76_0 : wr.cell? ⟨gb128, 0, none⟩ = some (.int .i64 a0_0) := (blk_cell BK128.out 0).trans rfl
                   have hcz76_1 : wr.cell? ⟨gb128, 1, none⟩ = some (.slice A0_1 l0_1.length c0_1) := (blk_cell BK128.out 1).trans rfl
                   have hfz76_0 := blk_frozen BK128.out 0
                   have hfz76_1 := blk_frozen BK128.out 1
                   try go_wp2
                   have n0_ := Aside0.mk (Kd.R_drew HO_10.out)
                   have n1_ := Aside0.mk (blk_drew BK128.out)
                   have n2_ := Aside0.mk (blk_drew BK129.out)
                   have n3_ := Aside0.mk (blk_drew BK130.out)
                   have n4_ := Aside0.mk (blk_drew BK146.out)
                   have n5_ := Aside0.mk (below_drew1 HB.out)
                   clear HO_10
                   clear BK128
                   clear BK129
                   clear BK130
                   clear BK146
                   clear HB
                   have HO_10 := n0_
                   have BK128 := n1_
                   have BK129 := n2_
                   have BK130 := n3_
                   have BK146 := n4_
                   have HB := n5_
                   clear n0_ n1_ n2_ n3_ n4_ n5_
                   have p147 : 0 ≤ (x14_4 : Int) := of_decide_eq_true (by first | (with_reducible assumption) | assumption)
                   have q147 : x14_4 < (l0_1.length : Int) := of_decide_eq_true (by first | (with_reducible assumption) | assumption)
                   obtain ⟨ad147, e147, hx147_0, hx147_1, hx147_2⟩ := at_T46 HR0_1.out x14_4 p147 q147
                   have hw147_2 := hx147_2
                   have hw147_1 := hx147_1
                   have hw147_0 := hx147_0
                   cases e147
                   replace hx147_0 := (HB.out.cell (World.block_lt_of_cell? w _ hx147_0)).trans hx147_0
                   replace hx147_1 := (HB.out.cell (World.block_lt_of_cell? w _ hx147_1)).trans hx147_1
                   replace hx147_2 := (HB.out.cell (World.block_lt_of_cell? w _ hx147_2)).trans hx147_2
                   replace p147 := eq_true p147
                   replace q147 := eq_true q147
                   have p148 : 0 ≤ (x14_4 : Int) := of_decide_eq_true (by first | (with_reducible assumption) | assumption)
                   have q148 : x14_4 < (l0_1.length : Int) := of_decide_eq_true (by first | (with_reducible assumption) | assumption)
                   obtain ⟨ad148, e148, hx148_0, hx148_1, hx148_2⟩ := at_T46 HR0_1.out x14_4 p148 q148
                   have hw148_2 := hx148_2
                   have hw148_1 := hx148_1
                   have hw148_0 := hx148_0
                   obtain rfl : ad147 = ad148 := (by injection e148)
                   replace hx148_0 := (HB.out.cell (World.block_lt_of_cell? w _ hx148_0)).trans hx148_0
                   replace hx148_1 := (HB.out.cell (World.block_lt_of_cell? w _ hx148_1)).trans hx148_1
                   replace hx148_2 := (HB.out.cell (World.block_lt_of_cell? w _ hx148_2)).trans hx148_2
                   replace p148 := eq_true p148
                   replace q148 := eq_true q148
                   have p149 : 0 ≤ (x12_3 : Int) := of_decide_eq_true (by first | (with_reducible assumption) | assumption)
                   have q149 : x12_3 < (t142.length : Int) := of_decide_eq_true (by first | (with_reducible assumption) | assumption)
                   obtain ⟨ad149, e149, hx149_0, hx149_1, hx149_2⟩ := at_T48 (Kd.R_reads' HO_10.out).2.2 x12_3 p149 q149
                   cases e149
                   replace p149 := eq_true p149
                   replace q149 := eq_true q149
                   refine start_ (n := 27) (S := fun w' => w'.cell? ⟨gb128, 0, none⟩ = some (.int .i64 a0_0) ∧ w'.cell? ⟨gb128, 1, none⟩ = some (.slice (some ad147) l0_1.length c0_1) ∧ w'.cell? ⟨gb130, 0, none⟩ = some (.int .i64 a3_0) ∧ w'.cell? ⟨gb130, 1, none⟩ = some (.int .i64 a3_1) ∧ w'.cell? ⟨gb130, 2, none⟩ = some (.bool a3_2) ∧ w'.cell? ⟨gb130, 3, none⟩ = some (.bool a3_3) ∧ w'.cell? ⟨gb130, 4, none⟩ = some (.int .i64 a3_4) ∧ w'.cell? (ad147.add ((x14_4).toNat * 3)) = some (.int .i64 ((rd_T46 l0_1 x14_4).f0)) ∧ w'.cell? ⟨(ad147.add ((x14_4).toNat * 3)).block, (ad147.add ((x14_4).toNat * 3)).off + 1, none⟩ = some (.int .i64 ((rd_T46 l0_1 x14_4).f1)) ∧ w'.cell? ⟨(ad147.add ((x14_4).toNat * 3)).block, (ad147.add ((x14_4).toNat * 3)).off + 2, none⟩ = some (.int .i64 ((rd_T46 l0_1 x14_4).f2)) ∧ w'.cell? (ad147.add ((x14_4).toNat * 3)) = some (.int .i64 ((rd_T46 l0_1 x14_4).f0)) ∧ w'.cell? ⟨(ad147.add ((x14_4).toNat * 3)).block, (ad147.add ((x14_4).toNat * 3)).off + 1, none⟩ = some (.int .i64 ((rd_T46 l0_1 x14_4).f1)) ∧ w'.cell? ⟨(ad147.add ((x14_4).toNat * 3)).block, (ad147.add ((x14_4).toNat * 3)).off + 2, none⟩ = some (.int .i64 ((rd_T46 l0_1 x14_4).f2)) ∧ w'.cell? (ad149.add ((x12_3).toNat * 3)) = some (.int .i64 ((rd_T48 t142 x12_3).f0)) ∧ w'.cell? ⟨(ad149.add ((x12_3).toNat * 3)).block, (ad149.add ((x12_3).toNat * 3)).off + 1, none⟩ = some (.int .i64 ((rd_T48 t142 x12_3).f1)) ∧ w'.cell? ⟨(ad149.add ((x12_3).toNat * 3)).block, (ad149.add ((x12_3).toNat * 3)).off + 2, none⟩ = some (.int .i64 ((rd_T48 t142 x12_3).f2))) (ds := []) #[false, false, false, false, false, false, false, false, false, false, false, false, false, false, false, false, false, false, false, false, false, false, false, false, false, false, false] (by kernel_rfl) rfl rfl ⟨(blk_cell BK128.out 0).trans rfl, (blk_cell BK128.out 1).trans rfl, (blk_cell BK130.out 0).trans rfl, (blk_cell BK130.out 1).trans rfl, (blk_cell BK130.out 2).trans rfl, (blk_cell BK130.out 3).trans rfl, (blk_cell BK130.out 4).trans rfl, ((HB.out.cell (World.block_lt_of_cell? w _ hw147_0)).trans hw147_0), ((HB.out.cell (World.block_lt_of_cell? w _ hw147_1)).trans hw147_1), ((HB.out.cell (World.block_lt_of_cell? w _ hw147_2)).trans hw147_2), ((HB.out.cell (World.block_lt_of_cell? w _ hw148_0)).trans hw148_0), ((HB.out.cell (World.block_lt_of_cell? w _ hw148_1)).trans hw148_1), ((HB.out.cell (World.block_lt_of_cell? w _ hw148_2)).trans hw148_2), hx149_0, hx149_1, hx149_2⟩ (fun hHeld => ?_); refine with_tabW modillionlaw07_ProgQuiet.tab15 modillionlaw07_ProgQuiet.bits15 (fun HT_ HW_ => ?_)
                   generalize wr.drew = w77 at HO_10 BK128 BK129 BK130 BK146 HB hx147_0 hx147_1 hx147_2 hx148_0 hx148_1 hx148_2 hx149_0 hx149_1 hx149_2 hHeld ⊢
                   refine pure_ (i := 0) (N := some 73) (v := ?_) (a' := ?_) #[true, false, false, false, false, false, false, false, false, false, false, false, false, false, false, false, false, false, false, false, false, false, false, false, false, false, false] rfl rfl (any_of HT_.out (by kernel_rfl)) (fun _ _ _ h => h) (Or.inl ⟨by rfl, ?_⟩) ?_ ?_
                   rotate_left
                   ·intro w'
                    go_simp
                    with_reducible rfl
                   rotate_left
                   ·simp only [Act.put, q1_, q2_, q3_, i64_w, i32_w]
                    rfl
                   refine pure_ (i := 1) (N := some 74) (v := ?_) (a' := ?_) #[true, true, false, false, false, false, false, false, false, false, false, false, false, false, false, false, false, false, false, false, false, false, false, false, false, false, false] rfl rfl (any_of HT_.out (by kernel_rfl)) (fun _ _ _ h => h) (Or.inl ⟨by rfl, ?_⟩) ?_ ?_
                   rotate_left
                   ·intro w'
                    go_simp
                    with_reducible rfl
                   rotate_left
                   ·simp only [Act.put, q1_, q2_, q3_, i64_w, i32_w]
                    rfl
                   refine pure_ (i := 2) (N := some 75) (v := ?_) (a' := ?_) #[true, true, true, false, false, false, false, false, false, false, false, false, false, false, false, false, false, false, false, false, false, false, false, false, false, false, false] rfl rfl (any_of HT_.out (by kernel_rfl)) (fun _ _ _ h => h) (Or.inl ⟨by rfl, ?_⟩) ?_ ?_
                   rotate_left
                   ·intro w'
                    go_simp
                    with_reducible rfl
                   rotate_left
                   ·simp only [Act.put, q1_, q2_, q3_, i64_w, i32_w]
                    rfl
                   refine pure_ (i := 4) (N := some 77) (v := ?_) (a' := ?_) #[true, true, true, false, true, false, false, false, false, false, false, false, false, false, false, false, false, false, false, false, false, false, false, false, false, false, false] rfl rfl (any_of HT_.out (by kernel_rfl)) (fun _ _ _ h => h) (Or.inl ⟨by rfl, ?_⟩) ?_ ?_
                   rotate_left
                   ·intro w'
                    go_simp
                    with_reducible rfl
                   rotate_left
                   ·simp only [Act.put, q1_, q2_, q3_, i64_w, i32_w]
                    rfl
                   refine pure_ (i := 8) (N := some 81) (v := ?_) (a' := ?_) #[true, true, true, false, true, false, false, false, true, false, false, false, false, false, false, false, false, false, false, false, false, false, false, false, false, false, false] rfl rfl (any_of HT_.out (by kernel_rfl)) (fun _ _ _ h => h) (Or.inl ⟨by rfl, ?_⟩) ?_ ?_
                   rotate_left
                   ·intro w'
                    go_simp
                    with_reducible rfl
                   rotate_left
                   ·simp only [Act.put, q1_, q2_, q3_, i64_w, i32_w]
                    rfl
                   refine take_ (i := 3) (N := some 76) (v := ?_) (a' := ?_) #[true, true, true, true, true, false, false, false, true, false, false, false, false, false, false, false, false, false, false, false, false, false, false, false, false, false, false] rfl rfl (take_ofW HT_.out HW_.out (by kernel_rfl)) (fun _ _ _ h => h) (Or.inl ⟨by rfl, ?_⟩) hHeld ?_ ?_
                   rotate_left
                   ·rintro w' ⟨s0, s1, s2, s3, s4, s5, s6, s7, s8, s9, s10, s11, s12, s13, s14, s15⟩
                    go_simp
                    with_reducible rfl
                   rotate_left
                   ·simp only [Act.put, q1_, q2_, q3_, i64_w, i32_w]
                    rfl
                   refine pure_ (i := 5) (N := some 78) (v := ?_) (a' := ?_) #[true, true, true, true, true, true, false, false, true, false, false, false, false, false, false, false, false, false, false, false, false, false, false, false, false, false, false] rfl rfl (any_of HT_.out (by kernel_rfl)) (fun _ _ _ h => h) (Or.inl ⟨by rfl, ?_⟩) ?_ ?_
                   rotate_left
                   ·intro w'
                    go_simp
                    with_reducible rfl
                   rotate_left
                   ·simp only [Act.put, q1_, q2_, q3_, i64_w, i32_w]
                    rfl
                   refine pure_ (i := 6) (N := some 79) (v := ?_) (a' := ?_) #[true, true, true, true, true, true, true, false, true, false, false, false, false, false, false, false, false, false, false, false, false, false, false, false, false, false, false] rfl rfl (any_of HT_.out (by kernel_rfl)) (fun _ _ _ h => h) (Or.inl ⟨by rfl, ?_⟩) ?_ ?_
                   rotate_left
                   ·intro w'
                    go_simp
                    with_reducible rfl
                   rotate_left
                   ·simp only [Act.put, q1_, q2_, q3_, i64_w, i32_w]
                    rfl
                   refine take_ (i := 7) (N := some 80) (v := ?_) (a' := ?_) #[true, true, true, true, true, true, true, true, true, false, false, false, false, false, false, false, false, false, false, false, false, false, false, false, false, false, false] rfl rfl (take_ofW HT_.out HW_.out (by kernel_rfl)) (fun _ _ _ h => h) (Or.inl ⟨by rfl, ?_⟩) hHeld ?_ ?_
                   rotate_left
                   ·rintro w' ⟨s0, s1, s2, s3, s4, s5, s6, s7, s8, s9, s10, s11, s12, s13, s14, s15⟩
                    go_simp
                    with_reducible rfl
                   rotate_left
                   ·simp only [Act.put, q1_, q2_, q3_, i64_w, i32_w]
                    rfl
                   refine take_ (i := 9) (N := some 82) (v := ?_) (a' := ?_) #[true, true, true, true, true, true, true, true, true, true, false, false, false, false, false, false, false, false, false, false, false, false, false, false, false, false, false] rfl rfl (take_ofW HT_.out HW_.out (by kernel_rfl)) (fun _ _ _ h => h) (Or.inl ⟨by rfl, ?_⟩) hHeld ?_ ?_
                   rotate_left
                   ·rintro w' ⟨s0, s1, s2, s3, s4, s5, s6, s7, s8, s9, s10, s11, s12, s13, s14, s15⟩
                    go_simp
                    with_reducible rfl
                   rotate_left
                   ·simp only [Act.put, q1_, q2_, q3_, i64_w, i32_w]
                    rfl
                   refine pure_ (i := 10) (N := some 83) (v := ?_) (a' := ?_) #[true, true, true, true, true, true, true, true, true, true, true, false, false, false, false, false, false, false, false, false, false, false, false, false, false, false, false] rfl rfl (any_of HT_.out (by kernel_rfl)) (fun _ _ _ h => h) (Or.inl ⟨by rfl, ?_⟩) ?_ ?_
                   rotate_left
                   ·intro w'
                    go_simp
                    with_reducible rfl
                   rotate_left
                   ·simp only [Act.put, q1_, q2_, q3_, i64_w, i32_w]
                    rfl
                   refine pure_ (i := 11) (N := some 84) (v := ?_) (a' := ?_) #[true, true, true, true, true, true, true, true, true, true, true, true, false, false, false, false, false, false, false, false, false, false, false, false, false, false, false] rfl rfl (any_of HT_.out (by kernel_rfl)) (fun _ _ _ h => h) (Or.inl ⟨by rfl, ?_⟩) ?_ ?_
                   rotate_left
                   ·intro w'
                    go_simp
                    with_reducible rfl
                   rotate_left
                   ·simp only [Act.put, q1_, q2_, q3_, i64_w, i32_w]
                    rfl
                   refine pure_ (i := 12) (N := some 85) (v := ?_) (a' := ?_) #[true, true, true, true, true, true, true, true, true, true, true, true, true, false, false, false, false, false, false, false, false, false, false, false, false, false, false] rfl rfl (any_of HT_.out (by kernel_rfl)) (fun _ _ _ h => h) (Or.inl ⟨by rfl, ?_⟩) ?_ ?_
                   rotate_left
                   ·intro w'
                    go_simp
                    with_reducible rfl
                   rotate_left
                   ·simp only [Act.put, q1_, q2_, q3_, i64_w, i32_w]
                    rfl
                   refine pure_ (i := 14) (N := some 87) (v := ?_) (a' := ?_) #[true, true, true, true, true, true, true, true, true, true, true, true, true, false, true, false, false, false, false, false, false, false, false, false, false, false, false] rfl rfl (any_of HT_.out (by kernel_rfl)) (fun _ _ _ h => h) (Or.inl ⟨by rfl, ?_⟩) ?_ ?_
                   rotate_left
                   ·intro w'
                    go_simp
                    with_reducible rfl
                   rotate_left
                   ·simp only [Act.put, q1_, q2_, q3_, i64_w, i32_w]
                    rfl
                   refine pure_ (i := 18) (N := some 91) (v := ?_) (a' := ?_) #[true, true, true, true, true, true, true, true, true, true, true, true, true, false, true, false, false, false, true, false, false, false, false, false, false, false, false] rfl rfl (any_of HT_.out (by kernel_rfl)) (fun _ _ _ h => h) (Or.inl ⟨by rfl, ?_⟩) ?_ ?_
                   rotate_left
                   ·intro w'
                    go_simp
                    with_reducible rfl
                   rotate_left
                   ·simp only [Act.put, q1_, q2_, q3_, i64_w, i32_w]
                    rfl
                   refine pure_ (i := 19) (N := some 92) (v := ?_) (a' := ?_) #[true, true, true, true, true, true, true, true, true, true, true, true, true, false, true, false, false, false, true, true, false, false, false, false, false, false, false] rfl rfl (any_of HT_.out (by kernel_rfl)) (fun _ _ _ h => h) (Or.inl ⟨by rfl, ?_⟩) ?_ ?_
                   rotate_left
                   ·intro w'
                    go_simp
                    with_reducible rfl
                   rotate_left
                   ·simp only [Act.put, q1_, q2_, q3_, i64_w, i32_w]
                    rfl
                   refine pure_ (i := 20) (N := some 93) (v := ?_) (a' := ?_) #[true, true, true, true, true, true, true, true, true, true, true, true, true, false, true, false, false, false, true, true, true, false, false, false, false, false, false] rfl rfl (any_of HT_.out (by kernel_rfl)) (fun _ _ _ h => h) (Or.inl ⟨by rfl, ?_⟩) ?_ ?_
                   rotate_left
                   ·intro w'
                    go_simp
                    with_reducible rfl
                   rotate_left
                   ·simp only [Act.put, q1_, q2_, q3_, i64_w, i32_w]
                    rfl
                   refine pure_ (i := 21) (N := some 94) (v := ?_) (a' := ?_) #[true, true, true, true, true, true, true, true, true, true, true, true, true, false, true, false, false, false, true, true, true, true, false, false, false, false, false] rfl rfl (any_of HT_.out (by kernel_rfl)) (fun _ _ _ h => h) (Or.inl ⟨by rfl, ?_⟩) ?_ ?_
                   rotate_left
                   ·intro w'
                    go_simp
                    with_reducible rfl
                   rotate_left
                   ·simp only [Act.put, q1_, q2_, q3_, i64_w, i32_w]
                    rfl
                   refine take_ (i := 13) (N := some 86) (v := ?_) (a' := ?_) #[true, true, true, true, true, true, true, true, true, true, true, true, true, true, true, false, false, false, true, true, true, true, false, false, false, false, false] rfl rfl (take_ofW HT_.out HW_.out (by kernel_rfl)) (fun _ _ _ h => h) (Or.inl ⟨by rfl, ?_⟩) hHeld ?_ ?_
                   rotate_left
                   ·rintro w' ⟨s0, s1, s2, s3, s4, s5, s6, s7, s8, s9, s10, s11, s12, s13, s14, s15⟩
                    go_simp
                    with_reducible rfl
                   rotate_left
                   ·simp only [Act.put, q1_, q2_, q3_, i64_w, i32_w]
                    rfl
                   refine pure_ (i := 15) (N := some 88) (v := ?_) (a' := ?_) #[true, true, true, true, true, true, true, true, true, true, true, true, true, true, true, true, false, false, true, true, true, true, false, false, false, false, false] rfl rfl (any_of HT_.out (by kernel_rfl)) (fun _ _ _ h => h) (Or.inl ⟨by rfl, ?_⟩) ?_ ?_
                   rotate_left
                   ·intro w'
                    go_simp
                    with_reducible rfl
                   rotate_left
                   ·simp only [Act.put, q1_, q2_, q3_, i64_w, i32_w]
                    rfl
                   refine pure_ (i := 16) (N := some 89) (v := ?_) (a' := ?_) #[true, true, true, true, true, true, true, true, true, true, true, true, true, true, true, true, true, false, true, true, true, true, false, false, false, false, false] rfl rfl (any_of HT_.out (by kernel_rfl)) (fun _ _ _ h => h) (Or.inl ⟨by rfl, ?_⟩) ?_ ?_
                   rotate_left
                   ·intro w'
                    go_simp
                    with_reducible rfl
                   rotate_left
                   ·simp only [Act.put, q1_, q2_, q3_, i64_w, i32_w]
                    rfl
                   refine take_ (i := 17) (N := some 90) (v := ?_) (a' := ?_) #[true, true, true, true, true, true, true, true, true, true, true, true, true, true, true, true, true, true, true, true, true, true, false, false, false, false, false] rfl rfl (take_ofW HT_.out HW_.out (by kernel_rfl)) (fun _ _ _ h => h) (Or.inl ⟨by rfl, ?_⟩) hHeld ?_ ?_
                   rotate_left
                   ·rintro w' ⟨s0, s1, s2, s3, s4, s5, s6, s7, s8, s9, s10, s11, s12, s13, s14, s15⟩
                    go_simp
                    with_reducible rfl
                   rotate_left
                   ·simp only [Act.put, q1_, q2_, q3_, i64_w, i32_w]
                    rfl
                   refine take_ (i := 22) (N := some 95) (v := ?_) (a' := ?_) #[true, true, true, true, true, true, true, true, true, true, true, true, true, true, true, true, true, true, true, true, true, true, true, false, false, false, false] rfl rfl (take_ofW HT_.out HW_.out (by kernel_rfl)) (fun _ _ _ h => h) (Or.inl ⟨by rfl, ?_⟩) hHeld ?_ ?_
                   rotate_left
                   ·rintro w' ⟨s0, s1, s2, s3, s4, s5, s6, s7, s8, s9, s10, s11, s12, s13, s14, s15⟩
                    go_simp
                    with_reducible rfl
                   rotate_left
                   ·simp only [Act.put, q1_, q2_, q3_, i64_w, i32_w]
                    rfl
                   refine pure_ (i := 23) (N := some 96) (v := ?_) (a' := ?_) #[true, true, true, true, true, true, true, true, true, true, true, true, true, true, true, true, true, true, true, true, true, true, true, true, false, false, false] rfl rfl (any_of HT_.out (by kernel_rfl)) (fun _ _ _ h => h) (Or.inl ⟨by rfl, ?_⟩) ?_ ?_
                   rotate_left
                   ·intro w'
                    go_simp
                    with_reducible rfl
                   rotate_left
                   ·simp only [Act.put, q1_, q2_, q3_, i64_w, i32_w]
                    rfl
                   refine pure_ (i := 24) (N := some 97) (v := ?_) (a' := ?_) #[true, true, true, true, true, true, true, true, true, true, true, true, true, true, true, true, true, true, true, true, true, true, true, true, true, false, false] rfl rfl (any_of HT_.out (by kernel_rfl)) (fun _ _ _ h => h) (Or.inl ⟨by rfl, ?_⟩) ?_ ?_
                   rotate_left
                   ·intro w'
                    go_simp
                    with_reducible rfl
                   rotate_left
                   ·simp only [Act.put, q1_, q2_, q3_, i64_w, i32_w]
                    rfl
                   refine pure_ (i := 25) (N := some 98) (v := ?_) (a' := ?_) #[true, true, true, true, true, true, true, true, true, true, true, true, true, true, true, true, true, true, true, true, true, true, true, true, true, true, false] rfl rfl (any_of HT_.out (by kernel_rfl)) (fun _ _ _ h => h) (Or.inl ⟨by rfl, ?_⟩) ?_ ?_
                   rotate_left
                   ·intro w'
                    go_simp
                    with_reducible rfl
                   rotate_left
                   ·simp only [Act.put, q1_, q2_, q3_, i64_w, i32_w]
                    rfl
                   refine pure_ (i := 26) (N := some 13) (v := ?_) (a' := ?_) #[true, true, true, true, true, true, true, true, true, true, true, true, true, true, true, true, true, true, true, true, true, true, true, true, true, true, true] rfl rfl (any_of HT_.out (by kernel_rfl)) (fun _ _ _ h => h) (Or.inl ⟨by rfl, ?_⟩) ?_ ?_
                   rotate_left
                   ·intro w'
                    go_simp
                    with_reducible rfl
                   rotate_left
                   ·simp only [Act.put, q1_, q2_, q3_, i64_w, i32_w]
                    rfl
                   refine done_ (done_of HT_.out (by kernel_rfl)) ?_
                   try go_wp2
                   go_roundg k4
                   case measure => have := HJ4.out; have := HJ21.out; have := HK3.out; have := HK4.out; omega
                   case rel => exact ⟨((((rd_T46 l0_1 x14_4).f1) == ((rd_T48 t142 x12_3).f1))), (wrap64 (x14_4 + 1)), (by first | rfl | (simp; done) | (simp [*]; done)), (by first | rfl | (simp; done) | (simp [*]; done)), H', ⟨by have := HJ4.out; have := HJ21.out; have := HK3.out; have := HK4.out; omega⟩, ⟨by (with_reducible repeat (first | apply Kd.R_alloc | apply Kd.R_drewN | apply Kd.R_drew)); exact HO_10.out⟩, ⟨by (with_reducible repeat (first | refine blk_drewN ?_ _ | refine blk_drew ?_ | refine blk_alloc ?_ _)); exact BK128.out⟩, ⟨by (with_reducible repeat (first | refine blk_drewN ?_ _ | refine blk_drew ?_ | refine blk_alloc ?_ _)); exact BK129.out⟩, ⟨by (with_reducible repeat (first | refine blk_drewN ?_ _ | refine blk_drew ?_ | refine blk_alloc ?_ _)); exact BK130.out⟩, ⟨by (with_reducible repeat (first | refine blk_drewN ?_ _ | refine blk_drew ?_ | refine blk_alloc ?_ _)); exact BK146.out⟩, ⟨by repeat (first | (with_reducible first | exact HB.out | apply below_alloc | apply pw_below_drewN | apply below_drew1 | refine below_set ?_ GE128.out | refine below_set ?_ GE129.out | refine below_set ?_ GE130.out | refine below_set ?_ GE146.out) | exact HB.out)⟩⟩
                  ·rw [if_neg c72] at H
                   exact absurd H (by simp)
                 ·rw [if_neg c71] at H
                  exact absurd H (by simp)
                ·rw [if_neg c70] at H
                 have c70b0 : (((rd_T46 l0_1 x14_4).f0) == a3_0) = false := beq_eq_false_iff_ne.mpr c70
                 have c70b1 : (((rd_T46 l0_1 x14_4).f0) != a3_0) = true := bne_iff_ne.mpr c70
                 have H' := Aside0.mk H
                 clear H
                 have hnb78 := NB128_129.out
                 have hnc78 := NB129_128.out
                 have hnb79 := NB128_130.out
                 have hnc79 := NB130_128.out
                 have hnb80 := NB128_146.out
                 have hnc80 := NB146_128.out
                 have hcz81_0 : wr.cell? ⟨gb128, 0, none⟩ = some (.int .i64 a0_0) := (blk_cell BK128.out 0).trans rfl
                 have hcz81_1 : wr.cell? ⟨gb128, 1, none⟩ = some (.slice A0_1 l0_1.length c0_1) := (blk_cell BK128.out 1).trans rfl
                 have hfz81_0 := blk_frozen BK128.out 0
                 have hfz81_1 := blk_frozen BK128.out 1
                 try go_wp2
                 have n0_ := Aside0.mk (Kd.R_drew HO_10.out)
                 have n1_ := Aside0.mk (blk_drew BK128.out)
                 have n2_ := Aside0.mk (blk_drew BK129.out)
                 have n3_ := Aside0.mk (blk_drew BK130.out)
                 have n4_ := Aside0.mk (blk_drew BK146.out)
                 have n5_ := Aside0.mk (below_drew1 HB.out)
                 clear HO_10
                 clear BK128
                 clear BK129
                 clear BK130
                 clear BK146
                 clear HB
                 have HO_10 := n0_
                 have BK128 := n1_
                 have BK129 := n2_
                 have BK130 := n3_
                 have BK146 := n4_
                 have HB := n5_
                 clear n0_ n1_ n2_ n3_ n4_ n5_
                 have p147 : 0 ≤ (x14_4 : Int) := of_decide_eq_true (by first | (with_reducible assumption) | assumption)
                 have q147 : x14_4 < (l0_1.length : Int) := of_decide_eq_true (by first | (with_reducible assumption) | assumption)
                 obtain ⟨ad147, e147, hx147_0, hx147_1, hx147_2⟩ := at_T46 HR0_1.out x14_4 p147 q147
                 have hw147_2 := hx147_2
                 have hw147_1 := hx147_1
                 have hw147_0 := hx147_0
                 cases e147
                 replace hx147_0 := (HB.out.cell (World.block_lt_of_cell? w _ hx147_0)).trans hx147_0
                 replace hx147_1 := (HB.out.cell (World.block_lt_of_cell? w _ hx147_1)).trans hx147_1
                 replace hx147_2 := (HB.out.cell (World.block_lt_of_cell? w _ hx147_2)).trans hx147_2
                 replace p147 := eq_true p147
                 replace q147 := eq_true q147
                 refine start_ (n := 27) (S := fun w' => w'.cell? ⟨gb128, 0, none⟩ = some (.int .i64 a0_0) ∧ w'.cell? ⟨gb128, 1, none⟩ = some (.slice (some ad147) l0_1.length c0_1) ∧ w'.cell? ⟨gb130, 0, none⟩ = some (.int .i64 a3_0) ∧ w'.cell? ⟨gb130, 1, none⟩ = some (.int .i64 a3_1) ∧ w'.cell? ⟨gb130, 2, none⟩ = some (.bool a3_2) ∧ w'.cell? ⟨gb130, 3, none⟩ = some (.bool a3_3) ∧ w'.cell? ⟨gb130, 4, none⟩ = some (.int .i64 a3_4) ∧ w'.cell? (ad147.add ((x14_4).toNat * 3)) = some (.int .i64 ((rd_T46 l0_1 x14_4).f0)) ∧ w'.cell? ⟨(ad147.add ((x14_4).toNat * 3)).block, (ad147.add ((x14_4).toNat * 3)).off + 1, none⟩ = some (.int .i64 ((rd_T46 l0_1 x14_4).f1)) ∧ w'.cell? ⟨(ad147.add ((x14_4).toNat * 3)).block, (ad147.add ((x14_4).toNat * 3)).off + 2, none⟩ = some (.int .i64 ((rd_T46 l0_1 x14_4).f2))) (ds := []) #[false, false, false, false, false, false, false, false, false, false, false, false, false, false, false, false, false, false, false, false, false, false, false, false, false, false, false] (by kernel_rfl) rfl rfl ⟨(blk_cell BK128.out 0).trans rfl, (blk_cell BK128.out 1).trans rfl, (blk_cell BK130.out 0).trans rfl, (blk_cell BK130.out 1).trans rfl, (blk_cell BK130.out 2).trans rfl, (blk_cell BK130.out 3).trans rfl, (blk_cell BK130.out 4).trans rfl, ((HB.out.cell (World.block_lt_of_cell? w _ hw147_0)).trans hw147_0), ((HB.out.cell (World.block_lt_of_cell? w _ hw147_1)).trans hw147_1), ((HB.out.cell (World.block_lt_of_cell? w _ hw147_2)).trans hw147_2)⟩ (fun hHeld => ?_); refine with_tabW modillionlaw07_ProgQuiet.tab15 modillionlaw07_ProgQuiet.bits15 (fun HT_ HW_ => ?_)
                 generalize wr.drew = w82 at HO_10 BK128 BK129 BK130 BK146 HB hx147_0 hx147_1 hx147_2 hHeld ⊢
                 refine pure_ (i := 0) (N := some 73) (v := ?_) (a' := ?_) #[true, false, false, false, false, false, false, false, false, false, false, false, false, false, false, false, false, false, false, false, false, false, false, false, false, false, false] rfl rfl (any_of HT_.out (by kernel_rfl)) (fun _ _ _ h => h) (Or.inl ⟨by rfl, ?_⟩) ?_ ?_
                 rotate_left
                 ·intro w'
                  go_simp
                  with_reducible rfl
                 rotate_left
                 ·simp only [Act.put, q1_, q2_, q3_, i64_w, i32_w]
                  rfl
                 refine pure_ (i := 1) (N := some 74) (v := ?_) (a' := ?_) #[true, true, false, false, false, false, false, false, false, false, false, false, false, false, false, false, false, false, false, false, false, false, false, false, false, false, false] rfl rfl (any_of HT_.out (by kernel_rfl)) (fun _ _ _ h => h) (Or.inl ⟨by rfl, ?_⟩) ?_ ?_
                 rotate_left
                 ·intro w'
                  go_simp
                  with_reducible rfl
                 rotate_left
                 ·simp only [Act.put, q1_, q2_, q3_, i64_w, i32_w]
                  rfl
                 refine pure_ (i := 2) (N := some 75) (v := ?_) (a' := ?_) #[true, true, true, false, false, false, false, false, false, false, false, false, false, false, false, false, false, false, false, false, false, false, false, false, false, false, false] rfl rfl (any_of HT_.out (by kernel_rfl)) (fun _ _ _ h => h) (Or.inl ⟨by rfl, ?_⟩) ?_ ?_
                 rotate_left
                 ·intro w'
                  go_simp
                  with_reducible rfl
                 rotate_left
                 ·simp only [Act.put, q1_, q2_, q3_, i64_w, i32_w]
                  rfl
                 refine pure_ (i := 4) (N := some 77) (v := ?_) (a' := ?_) #[true, true, true, false, true, false, false, false, false, false, false, false, false, false, false, false, false, false, false, false, false, false, false, false, false, false, false] rfl rfl (any_of HT_.out (by kernel_rfl)) (fun _ _ _ h => h) (Or.inl ⟨by rfl, ?_⟩) ?_ ?_
                 rotate_left
                 ·intro w'
                  go_simp
                  with_reducible rfl
                 rotate_left
                 ·simp only [Act.put, q1_, q2_, q3_, i64_w, i32_w]
                  rfl
                 refine pure_ (i := 8) (N := some 81) (v := ?_) (a' := ?_) #[true, true, true, false, true, false, false, false, true, false, false, false, false, false, false, false, false, false, false, false, false, false, false, false, false, false, false] rfl rfl (any_of HT_.out (by kernel_rfl)) (fun _ _ _ h => h) (Or.inl ⟨by rfl, ?_⟩) ?_ ?_
                 rotate_left
                 ·intro w'
                  go_simp
                  with_reducible rfl
                 rotate_left
                 ·simp only [Act.put, q1_, q2_, q3_, i64_w, i32_w]
                  rfl
                 refine take_ (i := 3) (N := some 76) (v := ?_) (a' := ?_) #[true, true, true, true, true, false, false, false, true, false, false, false, false, false, false, false, false, false, false, false, false, false, false, false, false, false, false] rfl rfl (take_ofW HT_.out HW_.out (by kernel_rfl)) (fun _ _ _ h => h) (Or.inl ⟨by rfl, ?_⟩) hHeld ?_ ?_
                 rotate_left
                 ·rintro w' ⟨s0, s1, s2, s3, s4, s5, s6, s7, s8, s9⟩
                  go_simp
                  with_reducible rfl
                 rotate_left
                 ·simp only [Act.put, q1_, q2_, q3_, i64_w, i32_w]
                  rfl
                 refine pure_ (i := 5) (N := some 78) (v := ?_) (a' := ?_) #[true, true, true, true, true, true, false, false, true, false, false, false, false, false, false, false, false, false, false, false, false, false, false, false, false, false, false] rfl rfl (any_of HT_.out (by kernel_rfl)) (fun _ _ _ h => h) (Or.inl ⟨by rfl, ?_⟩) ?_ ?_
                 rotate_left
                 ·intro w'
                  go_simp
                  with_reducible rfl
                 rotate_left
                 ·simp only [Act.put, q1_, q2_, q3_, i64_w, i32_w]
                  rfl
                 refine pure_ (i := 6) (N := some 79) (v := ?_) (a' := ?_) #[true, true, true, true, true, true, true, false, true, false, false, false, false, false, false, false, false, false, false, false, false, false, false, false, false, false, false] rfl rfl (any_of HT_.out (by kernel_rfl)) (fun _ _ _ h => h) (Or.inl ⟨by rfl, ?_⟩) ?_ ?_
                 rotate_left
                 ·intro w'
                  go_simp
                  with_reducible rfl
                 rotate_left
                 ·simp only [Act.put, q1_, q2_, q3_, i64_w, i32_w]
                  rfl
                 refine take_ (i := 7) (N := some 80) (v := ?_) (a' := ?_) #[true, true, true, true, true, true, true, true, true, false, false, false, false, false, false, false, false, false, false, false, false, false, false, false, false, false, false] rfl rfl (take_ofW HT_.out HW_.out (by kernel_rfl)) (fun _ _ _ h => h) (Or.inl ⟨by rfl, ?_⟩) hHeld ?_ ?_
                 rotate_left
                 ·rintro w' ⟨s0, s1, s2, s3, s4, s5, s6, s7, s8, s9⟩
                  go_simp
                  with_reducible rfl
                 rotate_left
                 ·simp only [Act.put, q1_, q2_, q3_, i64_w, i32_w]
                  rfl
                 refine take_ (i := 9) (N := some 82) (v := ?_) (a' := ?_) #[true, true, true, true, true, true, true, true, true, true, false, false, false, false, false, false, false, false, false, false, false, false, false, false, false, false, false] rfl rfl (take_ofW HT_.out HW_.out (by kernel_rfl)) (fun _ _ _ h => h) (Or.inl ⟨by rfl, ?_⟩) hHeld ?_ ?_
                 rotate_left
                 ·rintro w' ⟨s0, s1, s2, s3, s4, s5, s6, s7, s8, s9⟩
                  go_simp
                  with_reducible rfl
                 rotate_left
                 ·simp only [Act.put, q1_, q2_, q3_, i64_w, i32_w]
                  rfl
                 refine pure_ (i := 10) (N := some 83) (v := ?_) (a' := ?_) #[true, true, true, true, true, true, true, true, true, true, true, false, false, false, false, false, false, false, false, false, false, false, false, false, false, false, false] rfl rfl (any_of HT_.out (by kernel_rfl)) (fun _ _ _ h => h) (Or.inl ⟨by rfl, ?_⟩) ?_ ?_
                 rotate_left
                 ·intro w'
                  go_simp
                  with_reducible rfl
                 rotate_left
                 ·simp only [Act.put, q1_, q2_, q3_, i64_w, i32_w]
                  rfl
                 refine pure_ (i := 11) (N := some 84) (v := ?_) (a' := ?_) #[true, true, true, true, true, true, true, true, true, true, true, true, false, false, false, false, false, false, false, false, false, false, false, false, false, false, false] rfl rfl (any_of HT_.out (by kernel_rfl)) (fun _ _ _ h => h) (Or.inl ⟨by rfl, ?_⟩) ?_ ?_
                 rotate_left
                 ·intro w'
                  go_simp
                  with_reducible rfl
                 rotate_left
                 ·simp only [Act.put, q1_, q2_, q3_, i64_w, i32_w]
                  rfl
                 refine pure_ (i := 12) (N := some 85) (v := undef) (a' := ?_) #[true, true, true, true, true, true, true, true, true, true, true, true, true, false, false, false, false, false, false, false, false, false, false, false, false, false, false] rfl rfl (any_of HT_.out (by kernel_rfl)) (fun _ _ _ h => h) (Or.inr ⟨by rfl, rfl⟩) ?_ ?_
                 rotate_left
                 ·simp only [Act.put, q1_, q2_, q3_, i64_w, i32_w]
                  rfl
                 refine pure_ (i := 13) (N := some 86) (v := undef) (a' := ?_) #[true, true, true, true, true, true, true, true, true, true, true, true, true, true, false, false, false, false, false, false, false, false, false, false, false, false, false] rfl rfl (any_of HT_.out (by kernel_rfl)) (fun _ _ _ h => h) (Or.inr ⟨by rfl, rfl⟩) ?_ ?_
                 rotate_left
                 ·simp only [Act.put, q1_, q2_, q3_, i64_w, i32_w]
                  rfl
                 refine pure_ (i := 14) (N := some 87) (v := undef) (a' := ?_) #[true, true, true, true, true, true, true, true, true, true, true, true, true, true, true, false, false, false, false, false, false, false, false, false, false, false, false] rfl rfl (any_of HT_.out (by kernel_rfl)) (fun _ _ _ h => h) (Or.inr ⟨by rfl, rfl⟩) ?_ ?_
                 rotate_left
                 ·simp only [Act.put, q1_, q2_, q3_, i64_w, i32_w]
                  rfl
                 refine pure_ (i := 15) (N := some 88) (v := undef) (a' := ?_) #[true, true, true, true, true, true, true, true, true, true, true, true, true, true, true, true, false, false, false, false, false, false, false, false, false, false, false] rfl rfl (any_of HT_.out (by kernel_rfl)) (fun _ _ _ h => h) (Or.inr ⟨by rfl, rfl⟩) ?_ ?_
                 rotate_left
                 ·simp only [Act.put, q1_, q2_, q3_, i64_w, i32_w]
                  rfl
                 refine pure_ (i := 16) (N := some 89) (v := undef) (a' := ?_) #[true, true, true, true, true, true, true, true, true, true, true, true, true, true, true, true, true, false, false, false, false, false, false, false, false, false, false] rfl rfl (any_of HT_.out (by kernel_rfl)) (fun _ _ _ h => h) (Or.inr ⟨by rfl, rfl⟩) ?_ ?_
                 rotate_left
                 ·simp only [Act.put, q1_, q2_, q3_, i64_w, i32_w]
                  rfl
                 refine pure_ (i := 17) (N := some 90) (v := undef) (a' := ?_) #[true, true, true, true, true, true, true, true, true, true, true, true, true, true, true, true, true, true, false, false, false, false, false, false, false, false, false] rfl rfl (any_of HT_.out (by kernel_rfl)) (fun _ _ _ h => h) (Or.inr ⟨by rfl, rfl⟩) ?_ ?_
                 rotate_left
                 ·simp only [Act.put, q1_, q2_, q3_, i64_w, i32_w]
                  rfl
                 refine pure_ (i := 18) (N := some 91) (v := undef) (a' := ?_) #[true, true, true, true, true, true, true, true, true, true, true, true, true, true, true, true, true, true, true, false, false, false, false, false, false, false, false] rfl rfl (any_of HT_.out (by kernel_rfl)) (fun _ _ _ h => h) (Or.inr ⟨by rfl, rfl⟩) ?_ ?_
                 rotate_left
                 ·simp only [Act.put, q1_, q2_, q3_, i64_w, i32_w]
                  rfl
                 refine pure_ (i := 19) (N := some 92) (v := undef) (a' := ?_) #[true, true, true, true, true, true, true, true, true, true, true, true, true, true, true, true, true, true, true, true, false, false, false, false, false, false, false] rfl rfl (any_of HT_.out (by kernel_rfl)) (fun _ _ _ h => h) (Or.inr ⟨by rfl, rfl⟩) ?_ ?_
                 rotate_left
                 ·simp only [Act.put, q1_, q2_, q3_, i64_w, i32_w]
                  rfl
                 refine pure_ (i := 20) (N := some 93) (v := undef) (a' := ?_) #[true, true, true, true, true, true, true, true, true, true, true, true, true, true, true, true, true, true, true, true, true, false, false, false, false, false, false] rfl rfl (any_of HT_.out (by kernel_rfl)) (fun _ _ _ h => h) (Or.inr ⟨by rfl, rfl⟩) ?_ ?_
                 rotate_left
                 ·simp only [Act.put, q1_, q2_, q3_, i64_w, i32_w]
                  rfl
                 refine pure_ (i := 21) (N := some 94) (v := undef) (a' := ?_) #[true, true, true, true, true, true, true, true, true, true, true, true, true, true, true, true, true, true, true, true, true, true, false, false, false, false, false] rfl rfl (any_of HT_.out (by kernel_rfl)) (fun _ _ _ h => h) (Or.inr ⟨by rfl, rfl⟩) ?_ ?_
                 rotate_left
                 ·simp only [Act.put, q1_, q2_, q3_, i64_w, i32_w]
                  rfl
                 refine pure_ (i := 22) (N := some 95) (v := undef) (a' := ?_) #[true, true, true, true, true, true, true, true, true, true, true, true, true, true, true, true, true, true, true, true, true, true, true, false, false, false, false] rfl rfl (any_of HT_.out (by kernel_rfl)) (fun _ _ _ h => h) (Or.inr ⟨by rfl, rfl⟩) ?_ ?_
                 rotate_left
                 ·simp only [Act.put, q1_, q2_, q3_, i64_w, i32_w]
                  rfl
                 refine pure_ (i := 23) (N := some 96) (v := undef) (a' := ?_) #[true, true, true, true, true, true, true, true, true, true, true, true, true, true, true, true, true, true, true, true, true, true, true, true, false, false, false] rfl rfl (any_of HT_.out (by kernel_rfl)) (fun _ _ _ h => h) (Or.inr ⟨by rfl, rfl⟩) ?_ ?_
                 rotate_left
                 ·simp only [Act.put, q1_, q2_, q3_, i64_w, i32_w]
                  rfl
                 refine pure_ (i := 24) (N := some 97) (v := ?_) (a' := ?_) #[true, true, true, true, true, true, true, true, true, true, true, true, true, true, true, true, true, true, true, true, true, true, true, true, true, false, false] rfl rfl (any_of HT_.out (by kernel_rfl)) (fun _ _ _ h => h) (Or.inl ⟨by rfl, ?_⟩) ?_ ?_
                 rotate_left
                 ·intro w'
                  go_simp
                  with_reducible rfl
                 rotate_left
                 ·simp only [Act.put, q1_, q2_, q3_, i64_w, i32_w]
                  rfl
                 refine pure_ (i := 25) (N := some 98) (v := ?_) (a' := ?_) #[true, true, true, true, true, true, true, true, true, true, true, true, true, true, true, true, true, true, true, true, true, true, true, true, true, true, false] rfl rfl (any_of HT_.out (by kernel_rfl)) (fun _ _ _ h => h) (Or.inl ⟨by rfl, ?_⟩) ?_ ?_
                 rotate_left
                 ·intro w'
                  go_simp
                  with_reducible rfl
                 rotate_left
                 ·simp only [Act.put, q1_, q2_, q3_, i64_w, i32_w]
                  rfl
                 refine pure_ (i := 26) (N := some 13) (v := ?_) (a' := ?_) #[true, true, true, true, true, true, true, true, true, true, true, true, true, true, true, true, true, true, true, true, true, true, true, true, true, true, true] rfl rfl (any_of HT_.out (by kernel_rfl)) (fun _ _ _ h => h) (Or.inl ⟨by rfl, ?_⟩) ?_ ?_
                 rotate_left
                 ·intro w'
                  go_simp
                  with_reducible rfl
                 rotate_left
                 ·simp only [Act.put, q1_, q2_, q3_, i64_w, i32_w]
                  rfl
                 refine done_ (done_of HT_.out (by kernel_rfl)) ?_
                 try go_wp2
                 go_roundg k4
                 case measure => have := HJ4.out; have := HJ21.out; have := HK3.out; have := HK4.out; omega
                 case rel => exact ⟨(false), (wrap64 (x14_4 + 1)), (by first | rfl | (simp; done) | (simp [*]; done)), (by first | rfl | (simp; done) | (simp [*]; done)), H', ⟨by have := HJ4.out; have := HJ21.out; have := HK3.out; have := HK4.out; omega⟩, ⟨by (with_reducible repeat (first | apply Kd.R_alloc | apply Kd.R_drewN | apply Kd.R_drew)); exact HO_10.out⟩, ⟨by (with_reducible repeat (first | refine blk_drewN ?_ _ | refine blk_drew ?_ | refine blk_alloc ?_ _)); exact BK128.out⟩, ⟨by (with_reducible repeat (first | refine blk_drewN ?_ _ | refine blk_drew ?_ | refine blk_alloc ?_ _)); exact BK129.out⟩, ⟨by (with_reducible repeat (first | refine blk_drewN ?_ _ | refine blk_drew ?_ | refine blk_alloc ?_ _)); exact BK130.out⟩, ⟨by (with_reducible repeat (first | refine blk_drewN ?_ _ | refine blk_drew ?_ | refine blk_alloc ?_ _)); exact BK146.out⟩, ⟨by repeat (first | (with_reducible first | exact HB.out | apply below_alloc | apply pw_below_drewN | apply below_drew1 | refine below_set ?_ GE128.out | refine below_set ?_ GE129.out | refine below_set ?_ GE130.out | refine below_set ?_ GE146.out) | exact HB.out)⟩⟩
               ·rw [if_neg c69] at H
                exact absurd H (by simp)
             ·rw [if_neg c62] at H
              have c62b0 : decide (x14_4 < (l0_1.length : Int)) = false := decide_eq_false c62
              clear c62
              by_cases c83 : 0 ≤ x12_3
              ·rw [if_pos c83] at H
               have c83b0 : decide (0 ≤ x12_3) = true := decide_eq_true c83
               clear c83
               by_cases c84 : x12_3 < (t142.length : Int)
               ·rw [if_pos c84] at H
                have c84b0 : decide (x12_3 < (t142.length : Int)) = true := decide_eq_true c84
                clear c84
                by_cases c85 : ((rd_T48 t142 x12_3).f0) = a3_0
                ·rw [if_pos c85] at H
                 have c85b0 : (((rd_T48 t142 x12_3).f0) == a3_0) = true := beq_iff_eq.mpr c85
                 have c85b1 : (((rd_T48 t142 x12_3).f0) != a3_0) = false := bne_eq_false_iff_eq.mpr c85
                 clear c85
                 by_cases c86 : x13_4 = true
                 ·subst c86
                  have H1 : (if x12_3 > 0 then (if 0 ≤ (wrap64 (x12_3 - 1)) then (if (wrap64 (x12_3 - 1)) < (t142.length : Int) then (if ((rd_T48 t142 (wrap64 (x12_3 - 1))).f1) ≥ ((rd_T48 t142 x12_3).f1) then (some false) else (modillionlaw07_ProgQuiet.l0 k4 t142 (wrap64 (x12_3 + 1)) a0_0 l0_1 a1_0 a1_1 a1_2 a3_0 a3_1 a3_2 a3_3 a3_4 t137 t138 t139 t140 t141)) else (none)) else (none)) else (modillionlaw07_ProgQuiet.l0 k4 t142 (wrap64 (x12_3 + 1)) a0_0 l0_1 a1_0 a1_1 a1_2 a3_0 a3_1 a3_2 a3_3 a3_4 t137 t138 t139 t140 t141)) = some r := by rw [if_pos rfl] at H; exact H
                  clear H
                  have H := H1
                  clear H1
                  by_cases c87 : x12_3 > 0
                  ·rw [if_pos c87] at H
                   have c87b0 : decide (0 < x12_3) = true := decide_eq_true c87
                   clear c87
                   obtain ⟨ji88, hji88⟩ : ∃ j_ : Int, (wrap64 (x12_3 - 1)) = j_ := ⟨_, rfl⟩
                   replace H : (if 0 ≤ (ji88) then (if (ji88) < (t142.length : Int) then (if ((rd_T48 t142 (ji88)).f1) ≥ ((rd_T48 t142 x12_3).f1) then (some false) else (modillionlaw07_ProgQuiet.l0 k4 t142 (wrap64 (x12_3 + 1)) a0_0 l0_1 a1_0 a1_1 a1_2 a3_0 a3_1 a3_2 a3_3 a3_4 t137 t138 t139 t140 t141)) else (none)) else (none)) = some r := by first | (rw [hji88] at H; exact H) | (simp only [hji88] at H ⊢; exact H)
                   have hji88w : (IntKind.i64.wrap (x12_3 - 1)) = ji88 := (i64_w _).trans hji88
                   by_cases c89 : 0 ≤ (ji88)
                   ·rw [if_pos c89] at H
                    have c89b0 : decide (0 ≤ (ji88)) = true := decide_eq_true c89
                    clear c89
                    by_cases c90 : (ji88) < (t142.length : Int)
                    ·rw [if_pos c90] at H
                     have c90b0 : decide ((ji88) < (t142.length : Int)) = true := decide_eq_true c90
                     clear c90
                     have HH_ := Aside0.mk H
                     clear H
                     have hnb92 := NB128_129.out
                     have hnc92 := NB129_128.out
                     have hnb93 := NB128_130.out
                     have hnc93 := NB130_128.out
                     have hnb94 := NB128_146.out
                     have hnc94 := NB146_128.out
                     have hcz95_0 : wr.cell? ⟨gb128, 0, none⟩ = some (.int .i64 a0_0) := (blk_cell BK128.out 0).trans rfl
                     have hcz95_1 : wr.cell? ⟨gb128, 1, none⟩ = some (.slice A0_1 l0_1.length c0_1) := (blk_cell BK128.out 1).trans rfl
                     have hfz95_0 := blk_frozen BK128.out 0
                     have hfz95_1 := blk_frozen BK128.out 1
                     try go_wp2
                     have n0_ := Aside0.mk (Kd.R_drew HO_10.out)
                     have n1_ := Aside0.mk (blk_drew BK128.out)
                     have n2_ := Aside0.mk (blk_drew BK129.out)
                     have n3_ := Aside0.mk (blk_drew BK130.out)
                     have n4_ := Aside0.mk (blk_drew BK146.out)
                     have n5_ := Aside0.mk (below_drew1 HB.out)
                     clear HO_10
                     clear BK128
                     clear BK129
                     clear BK130
                     clear BK146
                     clear HB
                     have HO_10 := n0_
                     have BK128 := n1_
                     have BK129 := n2_
                     have BK130 := n3_
                     have BK146 := n4_
                     have HB := n5_
                     clear n0_ n1_ n2_ n3_ n4_ n5_
                     have p150 : 0 ≤ (x12_3 : Int) := of_decide_eq_true (by first | (with_reducible assumption) | assumption)
                     have q150 : x12_3 < (t142.length : Int) := of_decide_eq_true (by first | (with_reducible assumption) | assumption)
                     obtain ⟨ad150, e150, hx150_0, hx150_1, hx150_2⟩ := at_T48 (Kd.R_reads' HO_10.out).2.2 x12_3 p150 q150
                     cases e150
                     replace p150 := eq_true p150
                     replace q150 := eq_true q150
                     have p151 : 0 ≤ ((ji88) : Int) := of_decide_eq_true (by first | (with_reducible assumption) | assumption)
                     have q151 : (ji88) < (t142.length : Int) := of_decide_eq_true (by first | (with_reducible assumption) | assumption)
                     obtain ⟨ad151, e151, hx151_0, hx151_1, hx151_2⟩ := at_T48 (Kd.R_reads' HO_10.out).2.2 (ji88) p151 q151
                     obtain rfl : ad150 = ad151 := (by injection e151)
                     replace p151 := eq_true p151
                     replace q151 := eq_true q151
                     have p152 : 0 ≤ (x12_3 : Int) := of_decide_eq_true (by first | (with_reducible assumption) | assumption)
                     have q152 : x12_3 < (t142.length : Int) := of_decide_eq_true (by first | (with_reducible assumption) | assumption)
                     obtain ⟨ad152, e152, hx152_0, hx152_1, hx152_2⟩ := at_T48 (Kd.R_reads' HO_10.out).2.2 x12_3 p152 q152
                     obtain rfl : ad150 = ad152 := (by injection e152)
                     replace p152 := eq_true p152
                     replace q152 := eq_true q152
                     refine start_ (n := 30) (S := fun w' => w'.cell? ⟨gb130, 0, none⟩ = some (.int .i64 a3_0) ∧ w'.cell? ⟨gb130, 1, none⟩ = some (.int .i64 a3_1) ∧ w'.cell? ⟨gb130, 2, none⟩ = some (.bool a3_2) ∧ w'.cell? ⟨gb130, 3, none⟩ = some (.bool a3_3) ∧ w'.cell? ⟨gb130, 4, none⟩ = some (.int .i64 a3_4) ∧ w'.cell? (ad150.add ((x12_3).toNat * 3)) = some (.int .i64 ((rd_T48 t142 x12_3).f0)) ∧ w'.cell? ⟨(ad150.add ((x12_3).toNat * 3)).block, (ad150.add ((x12_3).toNat * 3)).off + 1, none⟩ = some (.int .i64 ((rd_T48 t142 x12_3).f1)) ∧ w'.cell? ⟨(ad150.add ((x12_3).toNat * 3)).block, (ad150.add ((x12_3).toNat * 3)).off + 2, none⟩ = some (.int .i64 ((rd_T48 t142 x12_3).f2)) ∧ w'.cell? (ad150.add (((ji88)).toNat * 3)) = some (.int .i64 ((rd_T48 t142 (ji88)).f0)) ∧ w'.cell? ⟨(ad150.add (((ji88)).toNat * 3)).block, (ad150.add (((ji88)).toNat * 3)).off + 1, none⟩ = some (.int .i64 ((rd_T48 t142 (ji88)).f1)) ∧ w'.cell? ⟨(ad150.add (((ji88)).toNat * 3)).block, (ad150.add (((ji88)).toNat * 3)).off + 2, none⟩ = some (.int .i64 ((rd_T48 t142 (ji88)).f2)) ∧ w'.cell? (ad150.add ((x12_3).toNat * 3)) = some (.int .i64 ((rd_T48 t142 x12_3).f0)) ∧ w'.cell? ⟨(ad150.add ((x12_3).toNat * 3)).block, (ad150.add ((x12_3).toNat * 3)).off + 1, none⟩ = some (.int .i64 ((rd_T48 t142 x12_3).f1)) ∧ w'.cell? ⟨(ad150.add ((x12_3).toNat * 3)).block, (ad150.add ((x12_3).toNat * 3)).off + 2, none⟩ = some (.int .i64 ((rd_T48 t142 x12_3).f2))) (ds := []) #[false, false, false, false, false, false, false, false, false, false, false, false, false, false, false, false, false, false, false, false, false, false, false, false, false, false, false, false, false, false] (by kernel_rfl) rfl rfl ⟨(blk_cell BK130.out 0).trans rfl, (blk_cell BK130.out 1).trans rfl, (blk_cell BK130.out 2).trans rfl, (blk_cell BK130.out 3).trans rfl, (blk_cell BK130.out 4).trans rfl, hx150_0, hx150_1, hx150_2, hx151_0, hx151_1, hx151_2, hx152_0, hx152_1, hx152_2⟩ (fun hHeld => ?_); refine with_tabW modillionlaw07_ProgQuiet.tab16 modillionlaw07_ProgQuiet.bits16 (fun HT_ HW_ => ?_)
                     generalize wr.drew = w96 at HO_10 BK128 BK129 BK130 BK146 HB hx150_0 hx150_1 hx150_2 hx151_0 hx151_1 hx151_2 hx152_0 hx152_1 hx152_2 hHeld ⊢
                     refine pure_ (i := 0) (N := some 99) (v := ?_) (a' := ?_) #[true, false, false, false, false, false, false, false, false, false, false, false, false, false, false, false, false, false, false, false, false, false, false, false, false, false, false, false, false, false] rfl rfl (any_of HT_.out (by kernel_rfl)) (fun _ _ _ h => h) (Or.inl ⟨by rfl, ?_⟩) ?_ ?_
                     rotate_left
                     ·intro w'
                      go_simp
                      with_reducible rfl
                     rotate_left
                     ·simp only [Act.put, q1_, q2_, q3_, i64_w, i32_w]
                      rfl
                     refine pure_ (i := 1) (N := some 100) (v := ?_) (a' := ?_) #[true, true, false, false, false, false, false, false, false, false, false, false, false, false, false, false, false, false, false, false, false, false, false, false, false, false, false, false, false, false] rfl rfl (any_of HT_.out (by kernel_rfl)) (fun _ _ _ h => h) (Or.inl ⟨by rfl, ?_⟩) ?_ ?_
                     rotate_left
                     ·intro w'
                      go_simp
                      with_reducible rfl
                     rotate_left
                     ·simp only [Act.put, q1_, q2_, q3_, i64_w, i32_w]
                      rfl
                     refine pure_ (i := 2) (N := some 101) (v := ?_) (a' := ?_) #[true, true, true, false, false, false, false, false, false, false, false, false, false, false, false, false, false, false, false, false, false, false, false, false, false, false, false, false, false, false] rfl rfl (any_of HT_.out (by kernel_rfl)) (fun _ _ _ h => h) (Or.inl ⟨by rfl, ?_⟩) ?_ ?_
                     rotate_left
                     ·intro w'
                      go_simp
                      with_reducible rfl
                     rotate_left
                     ·simp only [Act.put, q1_, q2_, q3_, i64_w, i32_w]
                      rfl
                     refine pure_ (i := 3) (N := some 102) (v := ?_) (a' := ?_) #[true, true, true, true, false, false, false, false, false, false, false, false, false, false, false, false, false, false, false, false, false, false, false, false, false, false, false, false, false, false] rfl rfl (any_of HT_.out (by kernel_rfl)) (fun _ _ _ h => h) (Or.inl ⟨by rfl, ?_⟩) ?_ ?_
                     rotate_left
                     ·intro w'
                      go_simp
                      with_reducible rfl
                     rotate_left
                     ·simp only [Act.put, q1_, q2_, q3_, i64_w, i32_w]
                      rfl
                     refine pure_ (i := 5) (N := some 104) (v := ?_) (a' := ?_) #[true, true, true, true, false, true, false, false, false, false, false, false, false, false, false, false, false, false, false, false, false, false, false, false, false, false, false, false, false, false] rfl rfl (any_of HT_.out (by kernel_rfl)) (fun _ _ _ h => h) (Or.inl ⟨by rfl, ?_⟩) ?_ ?_
                     rotate_left
                     ·intro w'
                      go_simp
                      with_reducible rfl
                     rotate_left
                     ·simp only [Act.put, q1_, q2_, q3_, i64_w, i32_w]
                      rfl
                     refine take_ (i := 4) (N := some 103) (v := ?_) (a' := ?_) #[true, true, true, true, true, true, false, false, false, false, false, false, false, false, false, false, false, false, false, false, false, false, false, false, false, false, false, false, false, false] rfl rfl (take_ofW HT_.out HW_.out (by kernel_rfl)) (fun _ _ _ h => h) (Or.inl ⟨by rfl, ?_⟩) hHeld ?_ ?_
                     rotate_left
                     ·rintro w' ⟨s0, s1, s2, s3, s4, s5, s6, s7, s8, s9, s10, s11, s12, s13⟩
                      go_simp
                      with_reducible rfl
                     rotate_left
                     ·simp only [Act.put, q1_, q2_, q3_, i64_w, i32_w]
                      rfl
                     refine take_ (i := 6) (N := some 105) (v := ?_) (a' := ?_) #[true, true, true, true, true, true, true, false, false, false, false, false, false, false, false, false, false, false, false, false, false, false, false, false, false, false, false, false, false, false] rfl rfl (take_ofW HT_.out HW_.out (by kernel_rfl)) (fun _ _ _ h => h) (Or.inl ⟨by rfl, ?_⟩) hHeld ?_ ?_
                     rotate_left
                     ·rintro w' ⟨s0, s1, s2, s3, s4, s5, s6, s7, s8, s9, s10, s11, s12, s13⟩
                      go_simp
                      with_reducible rfl
                     rotate_left
                     ·simp only [Act.put, q1_, q2_, q3_, i64_w, i32_w]
                      rfl
                     refine pure_ (i := 7) (N := some 106) (v := ?_) (a' := ?_) #[true, true, true, true, true, true, true, true, false, false, false, false, false, false, false, false, false, false, false, false, false, false, false, false, false, false, false, false, false, false] rfl rfl (any_of HT_.out (by kernel_rfl)) (fun _ _ _ h => h) (Or.inl ⟨by rfl, ?_⟩) ?_ ?_
                     rotate_left
                     ·intro w'
                      go_simp
                      with_reducible rfl
                     rotate_left
                     ·simp only [Act.put, q1_, q2_, q3_, i64_w, i32_w]
                      rfl
                     refine pure_ (i := 8) (N := some 107) (v := ?_) (a' := ?_) #[true, true, true, true, true, true, true, true, true, false, false, false, false, false, false, false, false, false, false, false, false, false, false, false, false, false, false, false, false, false] rfl rfl (any_of HT_.out (by kernel_rfl)) (fun _ _ _ h => h) (Or.inl ⟨by rfl, ?_⟩) ?_ ?_
                     rotate_left
                     ·intro w'
                      go_simp
                      with_reducible rfl
                     rotate_left
                     ·simp only [Act.put, q1_, q2_, q3_, i64_w, i32_w]
                      rfl
                     refine pure_ (i := 9) (N := some 108) (v := ?_) (a' := ?_) #[true, true, true, true, true, true, true, true, true, true, false, false, false, false, false, false, false, false, false, false, false, false, false, false, false, false, false, false, false, false] rfl rfl (any_of HT_.out (by kernel_rfl)) (fun _ _ _ h => h) (Or.inl ⟨by rfl, ?_⟩) ?_ ?_
                     rotate_left
                     ·intro w'
                      go_simp
                      with_reducible rfl
                     rotate_left
                     ·simp only [Act.put, q1_, q2_, q3_, i64_w, i32_w]
                      rfl
                     refine pure_ (i := 10) (N := some 109) (v := ?_) (a' := ?_) #[true, true, true, true, true, true, true, true, true, true, true, false, false, false, false, false, false, false, false, false, false, false, false, false, false, false, false, false, false, false] rfl rfl (any_of HT_.out (by kernel_rfl)) (fun _ _ _ h => h) (Or.inl ⟨by rfl, ?_⟩) ?_ ?_
                     rotate_left
                     ·intro w'
                      go_simp
                      with_reducible rfl
                     rotate_left
                     ·simp only [Act.put, q1_, q2_, q3_, i64_w, i32_w]
                      rfl
                     refine pure_ (i := 11) (N := some 110) (v := ?_) (a' := ?_) #[true, true, true, true, true, true, true, true, true, true, true, true, false, false, false, false, false, false, false, false, false, false, false, false, false, false, false, false, false, false] rfl rfl (any_of HT_.out (by kernel_rfl)) (fun _ _ _ h => h) (Or.inl ⟨by rfl, ?_⟩) ?_ ?_
                     rotate_left
                     ·intro w'
                      go_simp
                      with_reducible rfl
                     rotate_left
                     ·simp only [Act.put, q1_, q2_, q3_, i64_w, i32_w]
                      rfl
                     refine pure_ (i := 12) (N := some 111) (v := ?_) (a' := ?_) #[true, true, true, true, true, true, true, true, true, true, true, true, true, false, false, false, false, false, false, false, false, false, false, false, false, false, false, false, false, false] rfl rfl (any_of HT_.out (by kernel_rfl)) (fun _ _ _ h => h) (Or.inl ⟨by rfl, ?_⟩) ?_ ?_
                     rotate_left
                     ·intro w'
                      go_simp
                      with_reducible rfl
                     rotate_left
                     ·simp only [Act.put, q1_, q2_, q3_, i64_w, i32_w]
                      rfl
                     refine pure_ (i := 13) (N := some 112) (v := ?_) (a' := ?_) #[true, true, true, true, true, true, true, true, true, true, true, true, true, true, false, false, false, false, false, false, false, false, false, false, false, false, false, false, false, false] rfl rfl (any_of HT_.out (by kernel_rfl)) (fun _ _ _ h => h) (Or.inl ⟨by rfl, ?_⟩) ?_ ?_
                     rotate_left
                     ·intro w'
                      go_simp
                      with_reducible rfl
                     rotate_left
                     ·simp only [Act.put, q1_, q2_, q3_, i64_w, i32_w]
                      rfl
                     refine pure_ (i := 14) (N := some 113) (v := ?_) (a' := ?_) #[true, true, true, true, true, true, true, true, true, true, true, true, true, true, true, false, false, false, false, false, false, false, false, false, false, false, false, false, false, false] rfl rfl (any_of HT_.out (by kernel_rfl)) (fun _ _ _ h => h) (Or.inl ⟨by rfl, ?_⟩) ?_ ?_
                     rotate_left
                     ·intro w'
                      go_simp
                      with_reducible rfl
                     rotate_left
                     ·simp only [Act.put, q1_, q2_, q3_, i64_w, i32_w]
                      rfl
                     refine pure_ (i := 15) (N := some 114) (v := ?_) (a' := ?_) #[true, true, true, true, true, true, true, true, true, true, true, true, true, true, true, true, false, false, false, false, false, false, false, false, false, false, false, false, false, false] rfl rfl (any_of HT_.out (by kernel_rfl)) (fun _ _ _ h => h) (Or.inl ⟨by rfl, ?_⟩) ?_ ?_
                     rotate_left
                     ·intro w'
                      go_simp
                      with_reducible rfl
                     rotate_left
                     ·simp only [Act.put, q1_, q2_, q3_, i64_w, i32_w]
                      rfl
                     refine pure_ (i := 16) (N := some 115) (v := ?_) (a' := ?_) #[true, true, true, true, true, true, true, true, true, true, true, true, true, true, true, true, true, false, false, false, false, false, false, false, false, false, false, false, false, false] rfl rfl (any_of HT_.out (by kernel_rfl)) (fun _ _ _ h => h) (Or.inl ⟨by rfl, ?_⟩) ?_ ?_
                     rotate_left
                     ·intro w'
                      go_simp
                      with_reducible rfl
                     rotate_left
                     ·simp only [Act.put, q1_, q2_, q3_, i64_w, i32_w]
                      rfl
                     refine pure_ (i := 17) (N := some 116) (v := ?_) (a' := ?_) #[true, true, true, true, true, true, true, true, true, true, true, true, true, true, true, true, true, true, false, false, false, false, false, false, false, false, false, false, false, false] rfl rfl (any_of HT_.out (by kernel_rfl)) (fun _ _ _ h => h) (Or.inl ⟨by rfl, ?_⟩) ?_ ?_
                     rotate_left
                     ·intro w'
                      go_simp
                      with_reducible rfl
                     rotate_left
                     ·simp only [Act.put, q1_, q2_, q3_, i64_w, i32_w]
                      rfl
                     refine pure_ (i := 18) (N := some 117) (v := ?_) (a' := ?_) #[true, true, true, true, true, true, true, true, true, true, true, true, true, true, true, true, true, true, true, false, false, false, false, false, false, false, false, false, false, false] rfl rfl (any_of HT_.out (by kernel_rfl)) (fun _ _ _ h => h) (Or.inl ⟨by rfl, ?_⟩) ?_ ?_
                     rotate_left
                     ·intro w'
                      go_simp
                      with_reducible rfl
                     rotate_left
                     ·simp only [Act.put, q1_, q2_, q3_, i64_w, i32_w]
                      rfl
                     refine pure_ (i := 19) (N := some 118) (v := ?_) (a' := ?_) #[true, true, true, true, true, true, true, true, true, true, true, true, true, true, true, true, true, true, true, true, false, false, false, false, false, false, false, false, false, false] rfl rfl (any_of HT_.out (by kernel_rfl)) (fun _ _ _ h => h) (Or.inl ⟨by rfl, ?_⟩) ?_ ?_
                     rotate_left
                     ·intro w'
                      go_simp
                      with_reducible rfl
                     rotate_left
                     ·simp only [Act.put, q1_, q2_, q3_, i64_w, i32_w]
                      rfl
                     refine pure_ (i := 20) (N := some 119) (v := ?_) (a' := ?_) #[true, true, true, true, true, true, true, true, true, true, true, true, true, true, true, true, true, true, true, true, true, false, false, false, false, false, false, false, false, false] rfl rfl (any_of HT_.out (by kernel_rfl)) (fun _ _ _ h => h) (Or.inl ⟨by rfl, ?_⟩) ?_ ?_
                     rotate_left
                     ·intro w'
                      go_simp
                      with_reducible rfl
                     rotate_left
                     ·simp only [Act.put, q1_, q2_, q3_, i64_w, i32_w]
                      rfl
                     refine pure_ (i := 22) (N := some 121) (v := ?_) (a' := ?_) #[true, true, true, true, true, true, true, true, true, true, true, true, true, true, true, true, true, true, true, true, true, false, true, false, false, false, false, false, false, false] rfl rfl (any_of HT_.out (by kernel_rfl)) (fun _ _ _ h => h) (Or.inl ⟨by rfl, ?_⟩) ?_ ?_
                     rotate_left
                     ·intro w'
                      go_simp
                      with_reducible rfl
                     rotate_left
                     ·simp only [Act.put, q1_, q2_, q3_, i64_w, i32_w]
                      rfl
                     refine pure_ (i := 23) (N := some 122) (v := ?_) (a' := ?_) #[true, true, true, true, true, true, true, true, true, true, true, true, true, true, true, true, true, true, true, true, true, false, true, true, false, false, false, false, false, false] rfl rfl (any_of HT_.out (by kernel_rfl)) (fun _ _ _ h => h) (Or.inl ⟨by rfl, ?_⟩) ?_ ?_
                     rotate_left
                     ·intro w'
                      go_simp
                      with_reducible rfl
                     rotate_left
                     ·simp only [Act.put, q1_, q2_, q3_, i64_w, i32_w]
                      rfl
                     refine pure_ (i := 24) (N := some 123) (v := ?_) (a' := ?_) #[true, true, true, true, true, true, true, true, true, true, true, true, true, true, true, true, true, true, true, true, true, false, true, true, true, false, false, false, false, false] rfl rfl (any_of HT_.out (by kernel_rfl)) (fun _ _ _ h => h) (Or.inl ⟨by rfl, ?_⟩) ?_ ?_
                     rotate_left
                     ·intro w'
                      go_simp
                      with_reducible rfl
                     rotate_left
                     ·simp only [Act.put, q1_, q2_, q3_, i64_w, i32_w]
                      rfl
                     refine pure_ (i := 25) (N := some 124) (v := ?_) (a' := ?_) #[true, true, true, true, true, true, true, true, true, true, true, true, true, true, true, true, true, true, true, true, true, false, true, true, true, true, false, false, false, false] rfl rfl (any_of HT_.out (by kernel_rfl)) (fun _ _ _ h => h) (Or.inl ⟨by rfl, ?_⟩) ?_ ?_
                     rotate_left
                     ·intro w'
                      go_simp
                      with_reducible rfl
                     rotate_left
                     ·simp only [Act.put, q1_, q2_, q3_, i64_w, i32_w]
                      rfl
                     refine take_ (i := 21) (N := some 120) (v := ?_) (a' := ?_) #[true, true, true, true, true, true, true, true, true, true, true, true, true, true, true, true, true, true, true, true, true, true, true, true, true, true, false, false, false, false] rfl rfl (take_ofW HT_.out HW_.out (by kernel_rfl)) (fun _ _ _ h => h) (Or.inl ⟨by rfl, ?_⟩) hHeld ?_ ?_
                     rotate_left
                     ·rintro w' ⟨s0, s1, s2, s3, s4, s5, s6, s7, s8, s9, s10, s11, s12, s13⟩
                      go_simp
                      with_reducible rfl
                     rotate_left
                     ·simp only [Act.put, q1_, q2_, q3_, i64_w, i32_w]
                      rfl
                     refine take_ (i := 26) (N := some 125) (v := ?_) (a' := ?_) #[true, true, true, true, true, true, true, true, true, true, true, true, true, true, true, true, true, true, true, true, true, true, true, true, true, true, true, false, false, false] rfl rfl (take_ofW HT_.out HW_.out (by kernel_rfl)) (fun _ _ _ h => h) (Or.inl ⟨by rfl, ?_⟩) hHeld ?_ ?_
                     rotate_left
                     ·rintro w' ⟨s0, s1, s2, s3, s4, s5, s6, s7, s8, s9, s10, s11, s12, s13⟩
                      go_simp
                      with_reducible rfl
                     rotate_left
                     ·simp only [Act.put, q1_, q2_, q3_, i64_w, i32_w]
                      rfl
                     refine pure_ (i := 27) (N := some 126) (v := ?_) (a' := ?_) #[true, true, true, true, true, true, true, true, true, true, true, true, true, true, true, true, true, true, true, true, true, true, true, true, true, true, true, true, false, false] rfl rfl (any_of HT_.out (by kernel_rfl)) (fun _ _ _ h => h) (Or.inl ⟨by rfl, ?_⟩) ?_ ?_
                     rotate_left
                     ·intro w'
                      go_simp
                      with_reducible rfl
                     rotate_left
                     ·simp only [Act.put, q1_, q2_, q3_, i64_w, i32_w]
                      rfl
                     refine pure_ (i := 28) (N := some 127) (v := ?_) (a' := ?_) #[true, true, true, true, true, true, true, true, true, true, true, true, true, true, true, true, true, true, true, true, true, true, true, true, true, true, true, true, true, false] rfl rfl (any_of HT_.out (by kernel_rfl)) (fun _ _ _ h => h) (Or.inl ⟨by rfl, ?_⟩) ?_ ?_
                     rotate_left
                     ·intro w'
                      go_simp
                      with_reducible rfl
                     rotate_left
                     ·simp only [Act.put, q1_, q2_, q3_, i64_w, i32_w]
                      rfl
                     refine pure_ (i := 29) (N := some 128) (v := ?_) (a' := ?_) #[true, true, true, true, true, true, true, true, true, true, true, true, true, true, true, true, true, true, true, true, true, true, true, true, true, true, true, true, true, true] rfl rfl (any_of HT_.out (by kernel_rfl)) (fun _ _ _ h => h) (Or.inl ⟨by rfl, ?_⟩) ?_ ?_
                     rotate_left
                     ·intro w'
                      go_simp
                      with_reducible rfl
                     rotate_left
                     ·simp only [Act.put, q1_, q2_, q3_, i64_w, i32_w]
                      rfl
                     refine done_ (done_of HT_.out (by kernel_rfl)) ?_
                     have H := HH_.out
                     clear HH_
                     by_cases c91 : ((rd_T48 t142 (ji88)).f1) ≥ ((rd_T48 t142 x12_3).f1)
                     ·rw [if_pos c91] at H
                      have c91b0 : decide (((rd_T48 t142 x12_3).f1) ≤ ((rd_T48 t142 (ji88)).f1)) = true := decide_eq_true c91
                      have c91g : decide (((rd_T48 t142 (ji88)).f1) ≥ ((rd_T48 t142 x12_3).f1)) = true := decide_eq_true c91
                      clear c91
                      (first | rw [c91b0] | rw [c91g] | skip)
                      obtain rfl := Option.some.inj H
                      try go_wp2
                      go_ret
                      exact ⟨by first | rfl | (simp [errW_none, errW_some] <;> rfl) | (simp only [← hji88]; first | rfl | (simp [errW_none, errW_some] <;> rfl)) | (simp [*, errW_none, errW_some] <;> rfl), by repeat (first | (with_reducible first | exact HB.out | apply below_alloc | apply pw_below_drewN | apply below_drew1 | refine below_set ?_ GE128.out | refine below_set ?_ GE129.out | refine below_set ?_ GE130.out | refine below_set ?_ GE146.out) | exact HB.out)⟩
                     ·rw [if_neg c91] at H
                      have c91b0 : decide (((rd_T48 t142 x12_3).f1) ≤ ((rd_T48 t142 (ji88)).f1)) = false := decide_eq_false c91
                      have c91g : decide (((rd_T48 t142 (ji88)).f1) ≥ ((rd_T48 t142 x12_3).f1)) = false := decide_eq_false c91
                      clear c91
                      (first | rw [c91b0] | rw [c91g] | skip)
                      have H' := Aside0.mk H
                      clear H
                      try go_wp2
                      go_roundg k4
                      case measure => have := HJ4.out; have := HJ21.out; have := HK3.out; have := HK4.out; omega
                      case rel => exact ⟨(wrap64 (x12_3 + 1)), (by first | rfl | (simp; done) | (simp [*]; done)), H', ⟨by have := HJ4.out; have := HJ21.out; have := HK3.out; have := HK4.out; omega⟩, ⟨by (with_reducible repeat (first | apply Kd.R_alloc | apply Kd.R_drewN | apply Kd.R_drew)); exact HO_10.out⟩, ⟨by (with_reducible repeat (first | refine blk_drewN ?_ _ | refine blk_drew ?_ | refine blk_alloc ?_ _)); exact BK128.out⟩, ⟨by (with_reducible repeat (first | refine blk_drewN ?_ _ | refine blk_drew ?_ | refine blk_alloc ?_ _)); exact BK129.out⟩, ⟨by (with_reducible repeat (first | refine blk_drewN ?_ _ | refine blk_drew ?_ | refine blk_alloc ?_ _)); exact BK130.out⟩, ⟨by (with_reducible repeat (first | refine blk_drewN ?_ _ | refine blk_drew ?_ | refine blk_alloc ?_ _)); exact BK146.out⟩, ⟨by repeat (first | (with_reducible first | exact HB.out | apply below_alloc | apply pw_below_drewN | apply below_drew1 | refine below_set ?_ GE128.out | refine below_set ?_ GE129.out | refine below_set ?_ GE130.out | refine below_set ?_ GE146.out) | exact HB.out)⟩⟩
                    ·rw [if_neg c90] at H
                     exact absurd H (by simp)
                   ·rw [if_neg c89] at H
                    exact absurd H (by simp)
                  ·rw [if_neg c87] at H
                   have c87b0 : decide (0 < x12_3) = false := decide_eq_false c87
                   clear c87
                   have H' := Aside0.mk H
                   clear H
                   have hnb102 := NB128_129.out
                   have hnc102 := NB129_128.out
                   have hnb103 := NB128_130.out
                   have hnc103 := NB130_128.out
                   have hnb104 := NB128_146.out
                   have hnc104 := NB146_128.out
                   have hcz105_0 : wr.cell? ⟨gb128, 0, none⟩ = some (.int .i64 a0_0) := (blk_cell BK128.out 0).trans rfl
                   have hcz105_1 : wr.cell? ⟨gb128, 1, none⟩ = some (.slice A0_1 l0_1.length c0_1) := (blk_cell BK128.out 1).trans rfl
                   have hfz105_0 := blk_frozen BK128.out 0
                   have hfz105_1 := blk_frozen BK128.out 1
                   try go_wp2
                   have n0_ := Aside0.mk (Kd.R_drew HO_10.out)
                   have n1_ := Aside0.mk (blk_drew BK128.out)
                   have n2_ := Aside0.mk (blk_drew BK129.out)
                   have n3_ := Aside0.mk (blk_drew BK130.out)
                   have n4_ := Aside0.mk (blk_drew BK146.out)
                   have n5_ := Aside0.mk (below_drew1 HB.out)
                   clear HO_10
                   clear BK128
                   clear BK129
                   clear BK130
                   clear BK146
                   clear HB
                   have HO_10 := n0_
                   have BK128 := n1_
                   have BK129 := n2_
                   have BK130 := n3_
                   have BK146 := n4_
                   have HB := n5_
                   clear n0_ n1_ n2_ n3_ n4_ n5_
                   have p150 : 0 ≤ (x12_3 : Int) := of_decide_eq_true (by first | (with_reducible assumption) | assumption)
                   have q150 : x12_3 < (t142.length : Int) := of_decide_eq_true (by first | (with_reducible assumption) | assumption)
                   obtain ⟨ad150, e150, hx150_0, hx150_1, hx150_2⟩ := at_T48 (Kd.R_reads' HO_10.out).2.2 x12_3 p150 q150
                   cases e150
                   replace p150 := eq_true p150
                   replace q150 := eq_true q150
                   refine start_ (n := 30) (S := fun w' => w'.cell? ⟨gb130, 0, none⟩ = some (.int .i64 a3_0) ∧ w'.cell? ⟨gb130, 1, none⟩ = some (.int .i64 a3_1) ∧ w'.cell? ⟨gb130, 2, none⟩ = some (.bool a3_2) ∧ w'.cell? ⟨gb130, 3, none⟩ = some (.bool a3_3) ∧ w'.cell? ⟨gb130, 4, none⟩ = some (.int .i64 a3_4) ∧ w'.cell? (ad150.add ((x12_3).toNat * 3)) = some (.int .i64 ((rd_T48 t142 x12_3).f0)) ∧ w'.cell? ⟨(ad150.add ((x12_3).toNat * 3)).block, (ad150.add ((x12_3).toNat * 3)).off + 1, none⟩ = some (.int .i64 ((rd_T48 t142 x12_3).f1)) ∧ w'.cell? ⟨(ad150.add ((x12_3).toNat * 3)).block, (ad150.add ((x12_3).toNat * 3)).off + 2, none⟩ = some (.int .i64 ((rd_T48 t142 x12_3).f2))) (ds := []) #[false, false, false, false, false, false, false, false, false, false, false, false, false, false, false, false, false, false, false, false, false, false, false, false, false, false, false, false, false, false] (by kernel_rfl) rfl rfl ⟨(blk_cell BK130.out 0).trans rfl, (blk_cell BK130.out 1).trans rfl, (blk_cell BK130.out 2).trans rfl, (blk_cell BK130.out 3).trans rfl, (blk_cell BK130.out 4).trans rfl, hx150_0, hx150_1, hx150_2⟩ (fun hHeld => ?_); refine with_tabW modillionlaw07_ProgQuiet.tab16 modillionlaw07_ProgQuiet.bits16 (fun HT_ HW_ => ?_)
                   generalize wr.drew = w106 at HO_10 BK128 BK129 BK130 BK146 HB hx150_0 hx150_1 hx150_2 hHeld ⊢
                   refine pure_ (i := 0) (N := some 99) (v := ?_) (a' := ?_) #[true, false, false, false, false, false, false, false, false, false, false, false, false, false, false, false, false, false, false, false, false, false, false, false, false, false, false, false, false, false] rfl rfl (any_of HT_.out (by kernel_rfl)) (fun _ _ _ h => h) (Or.inl ⟨by rfl, ?_⟩) ?_ ?_
                   rotate_left
                   ·intro w'
                    go_simp
                    with_reducible rfl
                   rotate_left
                   ·simp only [Act.put, q1_, q2_, q3_, i64_w, i32_w]
                    rfl
                   refine pure_ (i := 1) (N := some 100) (v := ?_) (a' := ?_) #[true, true, false, false, false, false, false, false, false, false, false, false, false, false, false, false, false, false, false, false, false, false, false, false, false, false, false, false, false, false] rfl rfl (any_of HT_.out (by kernel_rfl)) (fun _ _ _ h => h) (Or.inl ⟨by rfl, ?_⟩) ?_ ?_
                   rotate_left
                   ·intro w'
                    go_simp
                    with_reducible rfl
                   rotate_left
                   ·simp only [Act.put, q1_, q2_, q3_, i64_w, i32_w]
                    rfl
                   refine pure_ (i := 2) (N := some 101) (v := ?_) (a' := ?_) #[true, true, true, false, false, false, false, false, false, false, false, false, false, false, false, false, false, false, false, false, false, false, false, false, false, false, false, false, false, false] rfl rfl (any_of HT_.out (by kernel_rfl)) (fun _ _ _ h => h) (Or.inl ⟨by rfl, ?_⟩) ?_ ?_
                   rotate_left
                   ·intro w'
                    go_simp
                    with_reducible rfl
                   rotate_left
                   ·simp only [Act.put, q1_, q2_, q3_, i64_w, i32_w]
                    rfl
                   refine pure_ (i := 3) (N := some 102) (v := ?_) (a' := ?_) #[true, true, true, true, false, false, false, false, false, false, false, false, false, false, false, false, false, false, false, false, false, false, false, false, false, false, false, false, false, false] rfl rfl (any_of HT_.out (by kernel_rfl)) (fun _ _ _ h => h) (Or.inl ⟨by rfl, ?_⟩) ?_ ?_
                   rotate_left
                   ·intro w'
                    go_simp
                    with_reducible rfl
                   rotate_left
                   ·simp only [Act.put, q1_, q2_, q3_, i64_w, i32_w]
                    rfl
                   refine pure_ (i := 5) (N := some 104) (v := ?_) (a' := ?_) #[true, true, true, true, false, true, false, false, false, false, false, false, false, false, false, false, false, false, false, false, false, false, false, false, false, false, false, false, false, false] rfl rfl (any_of HT_.out (by kernel_rfl)) (fun _ _ _ h => h) (Or.inl ⟨by rfl, ?_⟩) ?_ ?_
                   rotate_left
                   ·intro w'
                    go_simp
                    with_reducible rfl
                   rotate_left
                   ·simp only [Act.put, q1_, q2_, q3_, i64_w, i32_w]
                    rfl
                   refine take_ (i := 4) (N := some 103) (v := ?_) (a' := ?_) #[true, true, true, true, true, true, false, false, false, false, false, false, false, false, false, false, false, false, false, false, false, false, false, false, false, false, false, false, false, false] rfl rfl (take_ofW HT_.out HW_.out (by kernel_rfl)) (fun _ _ _ h => h) (Or.inl ⟨by rfl, ?_⟩) hHeld ?_ ?_
                   rotate_left
                   ·rintro w' ⟨s0, s1, s2, s3, s4, s5, s6, s7⟩
                    go_simp
                    with_reducible rfl
                   rotate_left
                   ·simp only [Act.put, q1_, q2_, q3_, i64_w, i32_w]
                    rfl
                   refine take_ (i := 6) (N := some 105) (v := ?_) (a' := ?_) #[true, true, true, true, true, true, true, false, false, false, false, false, false, false, false, false, false, false, false, false, false, false, false, false, false, false, false, false, false, false] rfl rfl (take_ofW HT_.out HW_.out (by kernel_rfl)) (fun _ _ _ h => h) (Or.inl ⟨by rfl, ?_⟩) hHeld ?_ ?_
                   rotate_left
                   ·rintro w' ⟨s0, s1, s2, s3, s4, s5, s6, s7⟩
                    go_simp
                    with_reducible rfl
                   rotate_left
                   ·simp only [Act.put, q1_, q2_, q3_, i64_w, i32_w]
                    rfl
                   refine pure_ (i := 7) (N := some 106) (v := ?_) (a' := ?_) #[true, true, true, true, true, true, true, true, false, false, false, false, false, false, false, false, false, false, false, false, false, false, false, false, false, false, false, false, false, false] rfl rfl (any_of HT_.out (by kernel_rfl)) (fun _ _ _ h => h) (Or.inl ⟨by rfl, ?_⟩) ?_ ?_
                   rotate_left
                   ·intro w'
                    go_simp
                    with_reducible rfl
                   rotate_left
                   ·simp only [Act.put, q1_, q2_, q3_, i64_w, i32_w]
                    rfl
                   refine pure_ (i := 8) (N := some 107) (v := ?_) (a' := ?_) #[true, true, true, true, true, true, true, true, true, false, false, false, false, false, false, false, false, false, false, false, false, false, false, false, false, false, false, false, false, false] rfl rfl (any_of HT_.out (by kernel_rfl)) (fun _ _ _ h => h) (Or.inl ⟨by rfl, ?_⟩) ?_ ?_
                   rotate_left
                   ·intro w'
                    go_simp
                    with_reducible rfl
                   rotate_left
                   ·simp only [Act.put, q1_, q2_, q3_, i64_w, i32_w]
                    rfl
                   refine pure_ (i := 9) (N := some 108) (v := ?_) (a' := ?_) #[true, true, true, true, true, true, true, true, true, true, false, false, false, false, false, false, false, false, false, false, false, false, false, false, false, false, false, false, false, false] rfl rfl (any_of HT_.out (by kernel_rfl)) (fun _ _ _ h => h) (Or.inl ⟨by rfl, ?_⟩) ?_ ?_
                   rotate_left
                   ·intro w'
                    go_simp
                    with_reducible rfl
                   rotate_left
                   ·simp only [Act.put, q1_, q2_, q3_, i64_w, i32_w]
                    rfl
                   refine pure_ (i := 10) (N := some 109) (v := ?_) (a' := ?_) #[true, true, true, true, true, true, true, true, true, true, true, false, false, false, false, false, false, false, false, false, false, false, false, false, false, false, false, false, false, false] rfl rfl (any_of HT_.out (by kernel_rfl)) (fun _ _ _ h => h) (Or.inl ⟨by rfl, ?_⟩) ?_ ?_
                   rotate_left
                   ·intro w'
                    go_simp
                    with_reducible rfl
                   rotate_left
                   ·simp only [Act.put, q1_, q2_, q3_, i64_w, i32_w]
                    rfl
                   refine pure_ (i := 11) (N := some 110) (v := ?_) (a' := ?_) #[true, true, true, true, true, true, true, true, true, true, true, true, false, false, false, false, false, false, false, false, false, false, false, false, false, false, false, false, false, false] rfl rfl (any_of HT_.out (by kernel_rfl)) (fun _ _ _ h => h) (Or.inl ⟨by rfl, ?_⟩) ?_ ?_
                   rotate_left
                   ·intro w'
                    go_simp
                    with_reducible rfl
                   rotate_left
                   ·simp only [Act.put, q1_, q2_, q3_, i64_w, i32_w]
                    rfl
                   refine pure_ (i := 12) (N := some 111) (v := ?_) (a' := ?_) #[true, true, true, true, true, true, true, true, true, true, true, true, true, false, false, false, false, false, false, false, false, false, false, false, false, false, false, false, false, false] rfl rfl (any_of HT_.out (by kernel_rfl)) (fun _ _ _ h => h) (Or.inl ⟨by rfl, ?_⟩) ?_ ?_
                   rotate_left
                   ·intro w'
                    go_simp
                    with_reducible rfl
                   rotate_left
                   ·simp only [Act.put, q1_, q2_, q3_, i64_w, i32_w]
                    rfl
                   refine pure_ (i := 13) (N := some 112) (v := ?_) (a' := ?_) #[true, true, true, true, true, true, true, true, true, true, true, true, true, true, false, false, false, false, false, false, false, false, false, false, false, false, false, false, false, false] rfl rfl (any_of HT_.out (by kernel_rfl)) (fun _ _ _ h => h) (Or.inl ⟨by rfl, ?_⟩) ?_ ?_
                   rotate_left
                   ·intro w'
                    go_simp
                    with_reducible rfl
                   rotate_left
                   ·simp only [Act.put, q1_, q2_, q3_, i64_w, i32_w]
                    rfl
                   refine pure_ (i := 14) (N := some 113) (v := ?_) (a' := ?_) #[true, true, true, true, true, true, true, true, true, true, true, true, true, true, true, false, false, false, false, false, false, false, false, false, false, false, false, false, false, false] rfl rfl (any_of HT_.out (by kernel_rfl)) (fun _ _ _ h => h) (Or.inl ⟨by rfl, ?_⟩) ?_ ?_
                   rotate_left
                   ·intro w'
                    go_simp
                    with_reducible rfl
                   rotate_left
                   ·simp only [Act.put, q1_, q2_, q3_, i64_w, i32_w]
                    rfl
                   refine pure_ (i := 15) (N := some 114) (v := ?_) (a' := ?_) #[true, true, true, true, true, true, true, true, true, true, true, true, true, true, true, true, false, false, false, false, false, false, false, false, false, false, false, false, false, false] rfl rfl (any_of HT_.out (by kernel_rfl)) (fun _ _ _ h => h) (Or.inl ⟨by rfl, ?_⟩) ?_ ?_
                   rotate_left
                   ·intro w'
                    go_simp
                    with_reducible rfl
                   rotate_left
                   ·simp only [Act.put, q1_, q2_, q3_, i64_w, i32_w]
                    rfl
                   refine pure_ (i := 16) (N := some 115) (v := undef) (a' := ?_) #[true, true, true, true, true, true, true, true, true, true, true, true, true, true, true, true, true, false, false, false, false, false, false, false, false, false, false, false, false, false] rfl rfl (any_of HT_.out (by kernel_rfl)) (fun _ _ _ h => h) (Or.inr ⟨by rfl, rfl⟩) ?_ ?_
                   rotate_left
                   ·simp only [Act.put, q1_, q2_, q3_, i64_w, i32_w]
                    rfl
                   refine pure_ (i := 17) (N := some 116) (v := undef) (a' := ?_) #[true, true, true, true, true, true, true, true, true, true, true, true, true, true, true, true, true, true, false, false, false, false, false, false, false, false, false, false, false, false] rfl rfl (any_of HT_.out (by kernel_rfl)) (fun _ _ _ h => h) (Or.inr ⟨by rfl, rfl⟩) ?_ ?_
                   rotate_left
                   ·simp only [Act.put, q1_, q2_, q3_, i64_w, i32_w]
                    rfl
                   refine pure_ (i := 18) (N := some 117) (v := undef) (a' := ?_) #[true, true, true, true, true, true, true, true, true, true, true, true, true, true, true, true, true, true, true, false, false, false, false, false, false, false, false, false, false, false] rfl rfl (any_of HT_.out (by kernel_rfl)) (fun _ _ _ h => h) (Or.inr ⟨by rfl, rfl⟩) ?_ ?_
                   rotate_left
                   ·simp only [Act.put, q1_, q2_, q3_, i64_w, i32_w]
                    rfl
                   refine pure_ (i := 19) (N := some 118) (v := undef) (a' := ?_) #[true, true, true, true, true, true, true, true, true, true, true, true, true, true, true, true, true, true, true, true, false, false, false, false, false, false, false, false, false, false] rfl rfl (any_of HT_.out (by kernel_rfl)) (fun _ _ _ h => h) (Or.inr ⟨by rfl, rfl⟩) ?_ ?_
                   rotate_left
                   ·simp only [Act.put, q1_, q2_, q3_, i64_w, i32_w]
                    rfl
                   refine pure_ (i := 20) (N := some 119) (v := undef) (a' := ?_) #[true, true, true, true, true, true, true, true, true, true, true, true, true, true, true, true, true, true, true, true, true, false, false, false, false, false, false, false, false, false] rfl rfl (any_of HT_.out (by kernel_rfl)) (fun _ _ _ h => h) (Or.inr ⟨by rfl, rfl⟩) ?_ ?_
                   rotate_left
                   ·simp only [Act.put, q1_, q2_, q3_, i64_w, i32_w]
                    rfl
                   refine pure_ (i := 21) (N := some 120) (v := undef) (a' := ?_) #[true, true, true, true, true, true, true, true, true, true, true, true, true, true, true, true, true, true, true, true, true, true, false, false, false, false, false, false, false, false] rfl rfl (any_of HT_.out (by kernel_rfl)) (fun _ _ _ h => h) (Or.inr ⟨by rfl, rfl⟩) ?_ ?_
                   rotate_left
                   ·simp only [Act.put, q1_, q2_, q3_, i64_w, i32_w]
                    rfl
                   refine pure_ (i := 22) (N := some 121) (v := undef) (a' := ?_) #[true, true, true, true, true, true, true, true, true, true, true, true, true, true, true, true, true, true, true, true, true, true, true, false, false, false, false, false, false, false] rfl rfl (any_of HT_.out (by kernel_rfl)) (fun _ _ _ h => h) (Or.inr ⟨by rfl, rfl⟩) ?_ ?_
                   rotate_left
                   ·simp only [Act.put, q1_, q2_, q3_, i64_w, i32_w]
                    rfl
                   refine pure_ (i := 23) (N := some 122) (v := undef) (a' := ?_) #[true, true, true, true, true, true, true, true, true, true, true, true, true, true, true, true, true, true, true, true, true, true, true, true, false, false, false, false, false, false] rfl rfl (any_of HT_.out (by kernel_rfl)) (fun _ _ _ h => h) (Or.inr ⟨by rfl, rfl⟩) ?_ ?_
                   rotate_left
                   ·simp only [Act.put, q1_, q2_, q3_, i64_w, i32_w]
                    rfl
                   refine pure_ (i := 24) (N := some 123) (v := undef) (a' := ?_) #[true, true, true, true, true, true, true, true, true, true, true, true, true, true, true, true, true, true, true, true, true, true, true, true, true, false, false, false, false, false] rfl rfl (any_of HT_.out (by kernel_rfl)) (fun _ _ _ h => h) (Or.inr ⟨by rfl, rfl⟩) ?_ ?_
                   rotate_left
                   ·simp only [Act.put, q1_, q2_, q3_, i64_w, i32_w]
                    rfl
                   refine pure_ (i := 25) (N := some 124) (v := undef) (a' := ?_) #[true, true, true, true, true, true, true, true, true, true, true, true, true, true, true, true, true, true, true, true, true, true, true, true, true, true, false, false, false, false] rfl rfl (any_of HT_.out (by kernel_rfl)) (fun _ _ _ h => h) (Or.inr ⟨by rfl, rfl⟩) ?_ ?_
                   rotate_left
                   ·simp only [Act.put, q1_, q2_, q3_, i64_w, i32_w]
                    rfl
                   refine pure_ (i := 26) (N := some 125) (v := undef) (a' := ?_) #[true, true, true, true, true, true, true, true, true, true, true, true, true, true, true, true, true, true, true, true, true, true, true, true, true, true, true, false, false, false] rfl rfl (any_of HT_.out (by kernel_rfl)) (fun _ _ _ h => h) (Or.inr ⟨by rfl, rfl⟩) ?_ ?_
                   rotate_left
                   ·simp only [Act.put, q1_, q2_, q3_, i64_w, i32_w]
                    rfl
                   refine pure_ (i := 27) (N := some 126) (v := undef) (a' := ?_) #[true, true, true, true, true, true, true, true, true, true, true, true, true, true, true, true, true, true, true, true, true, true, true, true, true, true, true, true, false, false] rfl rfl (any_of HT_.out (by kernel_rfl)) (fun _ _ _ h => h) (Or.inr ⟨by rfl, rfl⟩) ?_ ?_
                   rotate_left
                   ·simp only [Act.put, q1_, q2_, q3_, i64_w, i32_w]
                    rfl
                   refine pure_ (i := 28) (N := some 127) (v := ?_) (a' := ?_) #[true, true, true, true, true, true, true, true, true, true, true, true, true, true, true, true, true, true, true, true, true, true, true, true, true, true, true, true, true, false] rfl rfl (any_of HT_.out (by kernel_rfl)) (fun _ _ _ h => h) (Or.inl ⟨by rfl, ?_⟩) ?_ ?_
                   rotate_left
                   ·intro w'
                    go_simp
                    with_reducible rfl
                   rotate_left
                   ·simp only [Act.put, q1_, q2_, q3_, i64_w, i32_w]
                    rfl
                   refine pure_ (i := 29) (N := some 128) (v := ?_) (a' := ?_) #[true, true, true, true, true, true, true, true, true, true, true, true, true, true, true, true, true, true, true, true, true, true, true, true, true, true, true, true, true, true] rfl rfl (any_of HT_.out (by kernel_rfl)) (fun _ _ _ h => h) (Or.inl ⟨by rfl, ?_⟩) ?_ ?_
                   rotate_left
                   ·intro w'
                    go_simp
                    with_reducible rfl
                   rotate_left
                   ·simp only [Act.put, q1_, q2_, q3_, i64_w, i32_w]
                    rfl
                   refine done_ (done_of HT_.out (by kernel_rfl)) ?_
                   try go_wp2
                   go_roundg k4
                   case measure => have := HJ4.out; have := HJ21.out; have := HK3.out; have := HK4.out; omega
                   case rel => exact ⟨(wrap64 (x12_3 + 1)), (by first | rfl | (simp; done) | (simp [*]; done)), H', ⟨by have := HJ4.out; have := HJ21.out; have := HK3.out; have := HK4.out; omega⟩, ⟨by (with_reducible repeat (first | apply Kd.R_alloc | apply Kd.R_drewN | apply Kd.R_drew)); exact HO_10.out⟩, ⟨by (with_reducible repeat (first | refine blk_drewN ?_ _ | refine blk_drew ?_ | refine blk_alloc ?_ _)); exact BK128.out⟩, ⟨by (with_reducible repeat (first | refine blk_drewN ?_ _ | refine blk_drew ?_ | refine blk_alloc ?_ _)); exact BK129.out⟩, ⟨by (with_reducible repeat (first | refine blk_drewN ?_ _ | refine blk_drew ?_ | refine blk_alloc ?_ _)); exact BK130.out⟩, ⟨by (with_reducible repeat (first | refine blk_drewN ?_ _ | refine blk_drew ?_ | refine blk_alloc ?_ _)); exact BK146.out⟩, ⟨by repeat (first | (with_reducible first | exact HB.out | apply below_alloc | apply pw_below_drewN | apply below_drew1 | refine below_set ?_ GE128.out | refine below_set ?_ GE129.out | refine below_set ?_ GE130.out | refine below_set ?_ GE146.out) | exact HB.out)⟩⟩
                 ·replace c86 := Bool.eq_false_iff.mpr c86
                  subst c86
                  have H1 : (some false) = some r := by rw [if_neg (show ¬ (false = true) by decide)] at H; exact H
                  clear H
                  have H := H1
                  clear H1
                  obtain rfl := Option.some.inj H
                  have hnb107 := NB128_129.out
                  have hnc107 := NB129_128.out
                  have hnb108 := NB128_130.out
                  have hnc108 := NB130_128.out
                  have hnb109 := NB128_146.out
                  have hnc109 := NB146_128.out
                  have hcz110_0 : wr.cell? ⟨gb128, 0, none⟩ = some (.int .i64 a0_0) := (blk_cell BK128.out 0).trans rfl
                  have hcz110_1 : wr.cell? ⟨gb128, 1, none⟩ = some (.slice A0_1 l0_1.length c0_1) := (blk_cell BK128.out 1).trans rfl
                  have hfz110_0 := blk_frozen BK128.out 0
                  have hfz110_1 := blk_frozen BK128.out 1
                  try go_wp2
                  have n0_ := Aside0.mk (Kd.R_drew HO_10.out)
                  have n1_ := Aside0.mk (blk_drew BK128.out)
                  have n2_ := Aside0.mk (blk_drew BK129.out)
                  have n3_ := Aside0.mk (blk_drew BK130.out)
                  have n4_ := Aside0.mk (blk_drew BK146.out)
                  have n5_ := Aside0.mk (below_drew1 HB.out)
                  clear HO_10
                  clear BK128
                  clear BK129
                  clear BK130
                  clear BK146
                  clear HB
                  have HO_10 := n0_
                  have BK128 := n1_
                  have BK129 := n2_
                  have BK130 := n3_
                  have BK146 := n4_
                  have HB := n5_
                  clear n0_ n1_ n2_ n3_ n4_ n5_
                  have p150 : 0 ≤ (x12_3 : Int) := of_decide_eq_true (by first | (with_reducible assumption) | assumption)
                  have q150 : x12_3 < (t142.length : Int) := of_decide_eq_true (by first | (with_reducible assumption) | assumption)
                  obtain ⟨ad150, e150, hx150_0, hx150_1, hx150_2⟩ := at_T48 (Kd.R_reads' HO_10.out).2.2 x12_3 p150 q150
                  cases e150
                  replace p150 := eq_true p150
                  replace q150 := eq_true q150
                  refine start_ (n := 30) (S := fun w' => w'.cell? ⟨gb130, 0, none⟩ = some (.int .i64 a3_0) ∧ w'.cell? ⟨gb130, 1, none⟩ = some (.int .i64 a3_1) ∧ w'.cell? ⟨gb130, 2, none⟩ = some (.bool a3_2) ∧ w'.cell? ⟨gb130, 3, none⟩ = some (.bool a3_3) ∧ w'.cell? ⟨gb130, 4, none⟩ = some (.int .i64 a3_4) ∧ w'.cell? (ad150.add ((x12_3).toNat * 3)) = some (.int .i64 ((rd_T48 t142 x12_3).f0)) ∧ w'.cell? ⟨(ad150.add ((x12_3).toNat * 3)).block, (ad150.add ((x12_3).toNat * 3)).off + 1, none⟩ = some (.int .i64 ((rd_T48 t142 x12_3).f1)) ∧ w'.cell? ⟨(ad150.add ((x12_3).toNat * 3)).block, (ad150.add ((x12_3).toNat * 3)).off + 2, none⟩ = some (.int .i64 ((rd_T48 t142 x12_3).f2))) (ds := []) #[false, false, false, false, false, false, false, false, false, false, false, false, false, false, false, false, false, false, false, false, false, false, false, false, false, false, false, false, false, false] (by kernel_rfl) rfl rfl ⟨(blk_cell BK130.out 0).trans rfl, (blk_cell BK130.out 1).trans rfl, (blk_cell BK130.out 2).trans rfl, (blk_cell BK130.out 3).trans rfl, (blk_cell BK130.out 4).trans rfl, hx150_0, hx150_1, hx150_2⟩ (fun hHeld => ?_); refine with_tabW modillionlaw07_ProgQuiet.tab16 modillionlaw07_ProgQuiet.bits16 (fun HT_ HW_ => ?_)
                  generalize wr.drew = w111 at HO_10 BK128 BK129 BK130 BK146 HB hx150_0 hx150_1 hx150_2 hHeld ⊢
                  refine pure_ (i := 0) (N := some 99) (v := ?_) (a' := ?_) #[true, false, false, false, false, false, false, false, false, false, false, false, false, false, false, false, false, false, false, false, false, false, false, false, false, false, false, false, false, false] rfl rfl (any_of HT_.out (by kernel_rfl)) (fun _ _ _ h => h) (Or.inl ⟨by rfl, ?_⟩) ?_ ?_
                  rotate_left
                  ·intro w'
                   go_simp
                   with_reducible rfl
                  rotate_left
                  ·simp only [Act.put, q1_, q2_, q3_, i64_w, i32_w]
                   rfl
                  refine pure_ (i := 1) (N := some 100) (v := ?_) (a' := ?_) #[true, true, false, false, false, false, false, false, false, false, false, false, false, false, false, false, false, false, false, false, false, false, false, false, false, false, false, false, false, false] rfl rfl (any_of HT_.out (by kernel_rfl)) (fun _ _ _ h => h) (Or.inl ⟨by rfl, ?_⟩) ?_ ?_
                  rotate_left
                  ·intro w'
                   go_simp
                   with_reducible rfl
                  rotate_left
                  ·simp only [Act.put, q1_, q2_, q3_, i64_w, i32_w]
                   rfl
                  refine pure_ (i := 2) (N := some 101) (v := ?_) (a' := ?_) #[true, true, true, false, false, false, false, false, false, false, false, false, false, false, false, false, false, false, false, false, false, false, false, false, false, false, false, false, false, false] rfl rfl (any_of HT_.out (by kernel_rfl)) (fun _ _ _ h => h) (Or.inl ⟨by rfl, ?_⟩) ?_ ?_
                  rotate_left
                  ·intro w'
                   go_simp
                   with_reducible rfl
                  rotate_left
                  ·simp only [Act.put, q1_, q2_, q3_, i64_w, i32_w]
                   rfl
                  refine pure_ (i := 3) (N := some 102) (v := ?_) (a' := ?_) #[true, true, true, true, false, false, false, false, false, false, false, false, false, false, false, false, false, false, false, false, false, false, false, false, false, false, false, false, false, false] rfl rfl (any_of HT_.out (by kernel_rfl)) (fun _ _ _ h => h) (Or.inl ⟨by rfl, ?_⟩) ?_ ?_
                  rotate_left
                  ·intro w'
                   go_simp
                   with_reducible rfl
                  rotate_left
                  ·simp only [Act.put, q1_, q2_, q3_, i64_w, i32_w]
                   rfl
                  refine pure_ (i := 5) (N := some 104) (v := ?_) (a' := ?_) #[true, true, true, true, false, true, false, false, false, false, false, false, false, false, false, false, false, false, false, false, false, false, false, false, false, false, false, false, false, false] rfl rfl (any_of HT_.out (by kernel_rfl)) (fun _ _ _ h => h) (Or.inl ⟨by rfl, ?_⟩) ?_ ?_
                  rotate_left
                  ·intro w'
                   go_simp
                   with_reducible rfl
                  rotate_left
                  ·simp only [Act.put, q1_, q2_, q3_, i64_w, i32_w]
                   rfl
                  refine take_ (i := 4) (N := some 103) (v := ?_) (a' := ?_) #[true, true, true, true, true, true, false, false, false, false, false, false, false, false, false, false, false, false, false, false, false, false, false, false, false, false, false, false, false, false] rfl rfl (take_ofW HT_.out HW_.out (by kernel_rfl)) (fun _ _ _ h => h) (Or.inl ⟨by rfl, ?_⟩) hHeld ?_ ?_
                  rotate_left
                  ·rintro w' ⟨s0, s1, s2, s3, s4, s5, s6, s7⟩
                   go_simp
                   with_reducible rfl
                  rotate_left
                  ·simp only [Act.put, q1_, q2_, q3_, i64_w, i32_w]
                   rfl
                  refine take_ (i := 6) (N := some 105) (v := ?_) (a' := ?_) #[true, true, true, true, true, true, true, false, false, false, false, false, false, false, false, false, false, false, false, false, false, false, false, false, false, false, false, false, false, false] rfl rfl (take_ofW HT_.out HW_.out (by kernel_rfl)) (fun _ _ _ h => h) (Or.inl ⟨by rfl, ?_⟩) hHeld ?_ ?_
                  rotate_left
                  ·rintro w' ⟨s0, s1, s2, s3, s4, s5, s6, s7⟩
                   go_simp
                   with_reducible rfl
                  rotate_left
                  ·simp only [Act.put, q1_, q2_, q3_, i64_w, i32_w]
                   rfl
                  refine pure_ (i := 7) (N := some 106) (v := ?_) (a' := ?_) #[true, true, true, true, true, true, true, true, false, false, false, false, false, false, false, false, false, false, false, false, false, false, false, false, false, false, false, false, false, false] rfl rfl (any_of HT_.out (by kernel_rfl)) (fun _ _ _ h => h) (Or.inl ⟨by rfl, ?_⟩) ?_ ?_
                  rotate_left
                  ·intro w'
                   go_simp
                   with_reducible rfl
                  rotate_left
                  ·simp only [Act.put, q1_, q2_, q3_, i64_w, i32_w]
                   rfl
                  refine pure_ (i := 8) (N := some 107) (v := ?_) (a' := ?_) #[true, true, true, true, true, true, true, true, true, false, false, false, false, false, false, false, false, false, false, false, false, false, false, false, false, false, false, false, false, false] rfl rfl (any_of HT_.out (by kernel_rfl)) (fun _ _ _ h => h) (Or.inl ⟨by rfl, ?_⟩) ?_ ?_
                  rotate_left
                  ·intro w'
                   go_simp
                   with_reducible rfl
                  rotate_left
                  ·simp only [Act.put, q1_, q2_, q3_, i64_w, i32_w]
                   rfl
                  refine pure_ (i := 9) (N := some 108) (v := ?_) (a' := ?_) #[true, true, true, true, true, true, true, true, true, true, false, false, false, false, false, false, false, false, false, false, false, false, false, false, false, false, false, false, false, false] rfl rfl (any_of HT_.out (by kernel_rfl)) (fun _ _ _ h => h) (Or.inl ⟨by rfl, ?_⟩) ?_ ?_
                  rotate_left
                  ·intro w'
                   go_simp
                   with_reducible rfl
                  rotate_left
                  ·simp only [Act.put, q1_, q2_, q3_, i64_w, i32_w]
                   rfl
                  refine pure_ (i := 10) (N := some 109) (v := ?_) (a' := ?_) #[true, true, true, true, true, true, true, true, true, true, true, false, false, false, false, false, false, false, false, false, false, false, false, false, false, false, false, false, false, false] rfl rfl (any_of HT_.out (by kernel_rfl)) (fun _ _ _ h => h) (Or.inl ⟨by rfl, ?_⟩) ?_ ?_
                  rotate_left
                  ·intro w'
                   go_simp
                   with_reducible rfl
                  rotate_left
                  ·simp only [Act.put, q1_, q2_, q3_, i64_w, i32_w]
                   rfl
                  refine pure_ (i := 11) (N := some 110) (v := ?_) (a' := ?_) #[true, true, true, true, true, true, true, true, true, true, true, true, false, false, false, false, false, false, false, false, false, false, false, false, false, false, false, false, false, false] rfl rfl (any_of HT_.out (by kernel_rfl)) (fun _ _ _ h => h) (Or.inl ⟨by rfl, ?_⟩) ?_ ?_
                  rotate_left
                  ·intro w'
                   go_simp
                   with_reducible rfl
                  rotate_left
                  ·simp only [Act.put, q1_, q2_, q3_, i64_w, i32_w]
                   rfl
                  refine pure_ (i := 12) (N := some 111) (v := ?_) (a' := ?_) #[true, true, true, true, true, true, true, true, true, true, true, true, true, false, false, false, false, false, false, false, false, false, false, false, false, false, false, false, false, false] rfl rfl (any_of HT_.out (by kernel_rfl)) (fun _ _ _ h => h) (Or.inl ⟨by rfl, ?_⟩) ?_ ?_
                  rotate_left
                  ·intro w'
                   go_simp
                   with_reducible rfl
                  rotate_left
                  ·simp only [Act.put, q1_, q2_, q3_, i64_w, i32_w]
                   rfl
                  refine pure_ (i := 13) (N := some 112) (v := undef) (a' := ?_) #[true, true, true, true, true, true, true, true, true, true, true, true, true, true, false, false, false, false, false, false, false, false, false, false, false, false, false, false, false, false] rfl rfl (any_of HT_.out (by kernel_rfl)) (fun _ _ _ h => h) (Or.inr ⟨by rfl, rfl⟩) ?_ ?_
                  rotate_left
                  ·simp only [Act.put, q1_, q2_, q3_, i64_w, i32_w]
                   rfl
                  refine pure_ (i := 14) (N := some 113) (v := undef) (a' := ?_) #[true, true, true, true, true, true, true, true, true, true, true, true, true, true, true, false, false, false, false, false, false, false, false, false, false, false, false, false, false, false] rfl rfl (any_of HT_.out (by kernel_rfl)) (fun _ _ _ h => h) (Or.inr ⟨by rfl, rfl⟩) ?_ ?_
                  rotate_left
                  ·simp only [Act.put, q1_, q2_, q3_, i64_w, i32_w]
                   rfl
                  refine pure_ (i := 15) (N := some 114) (v := undef) (a' := ?_) #[true, true, true, true, true, true, true, true, true, true, true, true, true, true, true, true, false, false, false, false, false, false, false, false, false, false, false, false, false, false] rfl rfl (any_of HT_.out (by kernel_rfl)) (fun _ _ _ h => h) (Or.inr ⟨by rfl, rfl⟩) ?_ ?_
                  rotate_left
                  ·simp only [Act.put, q1_, q2_, q3_, i64_w, i32_w]
                   rfl
                  refine pure_ (i := 16) (N := some 115) (v := undef) (a' := ?_) #[true, true, true, true, true, true, true, true, true, true, true, true, true, true, true, true, true, false, false, false, false, false, false, false, false, false, false, false, false, false] rfl rfl (any_of HT_.out (by kernel_rfl)) (fun _ _ _ h => h) (Or.inr ⟨by rfl, rfl⟩) ?_ ?_
                  rotate_left
                  ·simp only [Act.put, q1_, q2_, q3_, i64_w, i32_w]
                   rfl
                  refine pure_ (i := 17) (N := some 116) (v := undef) (a' := ?_) #[true, true, true, true, true, true, true, true, true, true, true, true, true, true, true, true, true, true, false, false, false, false, false, false, false, false, false, false, false, false] rfl rfl (any_of HT_.out (by kernel_rfl)) (fun _ _ _ h => h) (Or.inr ⟨by rfl, rfl⟩) ?_ ?_
                  rotate_left
                  ·simp only [Act.put, q1_, q2_, q3_, i64_w, i32_w]
                   rfl
                  refine pure_ (i := 18) (N := some 117) (v := undef) (a' := ?_) #[true, true, true, true, true, true, true, true, true, true, true, true, true, true, true, true, true, true, true, false, false, false, false, false, false, false, false, false, false, false] rfl rfl (any_of HT_.out (by kernel_rfl)) (fun _ _ _ h => h) (Or.inr ⟨by rfl, rfl⟩) ?_ ?_
                  rotate_left
                  ·simp only [Act.put, q1_, q2_, q3_, i64_w, i32_w]
                   rfl
                  refine pure_ (i := 19) (N := some 118) (v := undef) (a' := ?_) #[true, true, true, true, true, true, true, true, true, true, true, true, true, true, true, true, true, true, true, true, false, false, false, false, false, false, false, false, false, false] rfl rfl (any_of HT_.out (by kernel_rfl)) (fun _ _ _ h => h) (Or.inr ⟨by rfl, rfl⟩) ?_ ?_
                  rotate_left
                  ·simp only [Act.put, q1_, q2_, q3_, i64_w, i32_w]
                   rfl
                  refine pure_ (i := 20) (N := some 119) (v := undef) (a' := ?_) #[true, true, true, true, true, true, true, true, true, true, true, true, true, true, true, true, true, true, true, true, true, false, false, false, false, false, false, false, false, false] rfl rfl (any_of HT_.out (by kernel_rfl)) (fun _ _ _ h => h) (Or.inr ⟨by rfl, rfl⟩) ?_ ?_
                  rotate_left
                  ·simp only [Act.put, q1_, q2_, q3_, i64_w, i32_w]
                   rfl
                  refine pure_ (i := 21) (N := some 120) (v := undef) (a' := ?_) #[true, true, true, true, true, true, true, true, true, true, true, true, true, true, true, true, true, true, true, true, true, true, false, false, false, false, false, false, false, false] rfl rfl (any_of HT_.out (by kernel_rfl)) (fun _ _ _ h => h) (Or.inr ⟨by rfl, rfl⟩) ?_ ?_
                  rotate_left
                  ·simp only [Act.put, q1_, q2_, q3_, i64_w, i32_w]
                   rfl
                  refine pure_ (i := 22) (N := some 121) (v := undef) (a' := ?_) #[true, true, true, true, true, true, true, true, true, true, true, true, true, true, true, true, true, true, true, true, true, true, true, false, false, false, false, false, false, false] rfl rfl (any_of HT_.out (by kernel_rfl)) (fun _ _ _ h => h) (Or.inr ⟨by rfl, rfl⟩) ?_ ?_
                  rotate_left
                  ·simp only [Act.put, q1_, q2_, q3_, i64_w, i32_w]
                   rfl
                  refine pure_ (i := 23) (N := some 122) (v := undef) (a' := ?_) #[true, true, true, true, true, true, true, true, true, true, true, true, true, true, true, true, true, true, true, true, true, true, true, true, false, false, false, false, false, false] rfl rfl (any_of HT_.out (by kernel_rfl)) (fun _ _ _ h => h) (Or.inr ⟨by rfl, rfl⟩) ?_ ?_
                  rotate_left
                  ·simp only [Act.put, q1_, q2_, q3_, i64_w, i32_w]
                   rfl
                  refine pure_ (i := 24) (N := some 123) (v := undef) (a' := ?_) #[true, true, true, true, true, true, true, true, true, true, true, true, true, true, true, true, true, true, true, true, true, true, true, true, true, false, false, false, false, false] rfl rfl (any_of HT_.out (by kernel_rfl)) (fun _ _ _ h => h) (Or.inr ⟨by rfl, rfl⟩) ?_ ?_
                  rotate_left
                  ·simp only [Act.put, q1_, q2_, q3_, i64_w, i32_w]
                   rfl
                  refine pure_ (i := 25) (N := some 124) (v := undef) (a' := ?_) #[true, true, true, true, true, true, true, true, true, true, true, true, true, true, true, true, true, true, true, true, true, true, true, true, true, true, false, false, false, false] rfl rfl (any_of HT_.out (by kernel_rfl)) (fun _ _ _ h => h) (Or.inr ⟨by rfl, rfl⟩) ?_ ?_
                  rotate_left
                  ·simp only [Act.put, q1_, q2_, q3_, i64_w, i32_w]
                   rfl
                  refine pure_ (i := 26) (N := some 125) (v := undef) (a' := ?_) #[true, true, true, true, true, true, true, true, true, true, true, true, true, true, true, true, true, true, true, true, true, true, true, true, true, true, true, false, false, false] rfl rfl (any_of HT_.out (by kernel_rfl)) (fun _ _ _ h => h) (Or.inr ⟨by rfl, rfl⟩) ?_ ?_
                  rotate_left
                  ·simp only [Act.put, q1_, q2_, q3_, i64_w, i32_w]
                   rfl
                  refine pure_ (i := 27) (N := some 126) (v := undef) (a' := ?_) #[true, true, true, true, true, true, true, true, true, true, true, true, true, true, true, true, true, true, true, true, true, true, true, true, true, true, true, true, false, false] rfl rfl (any_of HT_.out (by kernel_rfl)) (fun _ _ _ h => h) (Or.inr ⟨by rfl, rfl⟩) ?_ ?_
                  rotate_left
                  ·simp only [Act.put, q1_, q2_, q3_, i64_w, i32_w]
                   rfl
                  refine pure_ (i := 28) (N := some 127) (v := undef) (a' := ?_) #[true, true, true, true, true, true, true, true, true, true, true, true, true, true, true, true, true, true, true, true, true, true, true, true, true, true, true, true, true, false] rfl rfl (any_of HT_.out (by kernel_rfl)) (fun _ _ _ h => h) (Or.inr ⟨by rfl, rfl⟩) ?_ ?_
                  rotate_left
                  ·simp only [Act.put, q1_, q2_, q3_, i64_w, i32_w]
                   rfl
                  refine pure_ (i := 29) (N := some 128) (v := ?_) (a' := ?_) #[true, true, true, true, true, true, true, true, true, true, true, true, true, true, true, true, true, true, true, true, true, true, true, true, true, true, true, true, true, true] rfl rfl (any_of HT_.out (by kernel_rfl)) (fun _ _ _ h => h) (Or.inl ⟨by rfl, ?_⟩) ?_ ?_
                  rotate_left
                  ·intro w'
                   go_simp
                   with_reducible rfl
                  rotate_left
                  ·simp only [Act.put, q1_, q2_, q3_, i64_w, i32_w]
                   rfl
                  refine done_ (done_of HT_.out (by kernel_rfl)) ?_
                  try go_wp2
                  go_ret
                  exact ⟨by first | rfl | (simp [errW_none, errW_some] <;> rfl) | (simp [*, errW_none, errW_some] <;> rfl), by repeat (first | (with_reducible first | exact HB.out | apply below_alloc | apply pw_below_drewN | apply below_drew1 | refine below_set ?_ GE128.out | refine below_set ?_ GE129.out | refine below_set ?_ GE130.out | refine below_set ?_ GE146.out) | exact HB.out)⟩
                ·rw [if_neg c85] at H
                 have c85b0 : (((rd_T48 t142 x12_3).f0) == a3_0) = false := beq_eq_false_iff_ne.mpr c85
                 have c85b1 : (((rd_T48 t142 x12_3).f0) != a3_0) = true := bne_iff_ne.mpr c85
                 obtain rfl := Option.some.inj H
                 have hnb112 := NB128_129.out
                 have hnc112 := NB129_128.out
                 have hnb113 := NB128_130.out
                 have hnc113 := NB130_128.out
                 have hnb114 := NB128_146.out
                 have hnc114 := NB146_128.out
                 have hcz115_0 : wr.cell? ⟨gb128, 0, none⟩ = some (.int .i64 a0_0) := (blk_cell BK128.out 0).trans rfl
                 have hcz115_1 : wr.cell? ⟨gb128, 1, none⟩ = some (.slice A0_1 l0_1.length c0_1) := (blk_cell BK128.out 1).trans rfl
                 have hfz115_0 := blk_frozen BK128.out 0
                 have hfz115_1 := blk_frozen BK128.out 1
                 try go_wp2
                 have n0_ := Aside0.mk (Kd.R_drew HO_10.out)
                 have n1_ := Aside0.mk (blk_drew BK128.out)
                 have n2_ := Aside0.mk (blk_drew BK129.out)
                 have n3_ := Aside0.mk (blk_drew BK130.out)
                 have n4_ := Aside0.mk (blk_drew BK146.out)
                 have n5_ := Aside0.mk (below_drew1 HB.out)
                 clear HO_10
                 clear BK128
                 clear BK129
                 clear BK130
                 clear BK146
                 clear HB
                 have HO_10 := n0_
                 have BK128 := n1_
                 have BK129 := n2_
                 have BK130 := n3_
                 have BK146 := n4_
                 have HB := n5_
                 clear n0_ n1_ n2_ n3_ n4_ n5_
                 have p150 : 0 ≤ (x12_3 : Int) := of_decide_eq_true (by first | (with_reducible assumption) | assumption)
                 have q150 : x12_3 < (t142.length : Int) := of_decide_eq_true (by first | (with_reducible assumption) | assumption)
                 obtain ⟨ad150, e150, hx150_0, hx150_1, hx150_2⟩ := at_T48 (Kd.R_reads' HO_10.out).2.2 x12_3 p150 q150
                 cases e150
                 replace p150 := eq_true p150
                 replace q150 := eq_true q150
                 refine start_ (n := 30) (S := fun w' => w'.cell? ⟨gb130, 0, none⟩ = some (.int .i64 a3_0) ∧ w'.cell? ⟨gb130, 1, none⟩ = some (.int .i64 a3_1) ∧ w'.cell? ⟨gb130, 2, none⟩ = some (.bool a3_2) ∧ w'.cell? ⟨gb130, 3, none⟩ = some (.bool a3_3) ∧ w'.cell? ⟨gb130, 4, none⟩ = some (.int .i64 a3_4) ∧ w'.cell? (ad150.add ((x12_3).toNat * 3)) = some (.int .i64 ((rd_T48 t142 x12_3).f0)) ∧ w'.cell? ⟨(ad150.add ((x12_3).toNat * 3)).block, (ad150.add ((x12_3).toNat * 3)).off + 1, none⟩ = some (.int .i64 ((rd_T48 t142 x12_3).f1)) ∧ w'.cell? ⟨(ad150.add ((x12_3).toNat * 3)).block, (ad150.add ((x12_3).toNat * 3)).off + 2, none⟩ = some (.int .i64 ((rd_T48 t142 x12_3).f2))) (ds := []) #[false, false, false, false, false, false, false, false, false, false, false, false, false, false, false, false, false, false, false, false, false, false, false, false, false, false, false, false, false, false] (by kernel_rfl) rfl rfl ⟨(blk_cell BK130.out 0).trans rfl, (blk_cell BK130.out 1).trans rfl, (blk_cell BK130.out 2).trans rfl, (blk_cell BK130.out 3).trans rfl, (blk_cell BK130.out 4).trans rfl, hx150_0, hx150_1, hx150_2⟩ (fun hHeld => ?_); refine with_tabW modillionlaw07_ProgQuiet.tab16 modillionlaw07_ProgQuiet.bits16 (fun HT_ HW_ => ?_)
                 generalize wr.drew = w116 at HO_10 BK128 BK129 BK130 BK146 HB hx150_0 hx150_1 hx150_2 hHeld ⊢
                 refine pure_ (i := 0) (N := some 99) (v := ?_) (a' := ?_) #[true, false, false, false, false, false, false, false, false, false, false, false, false, false, false, false, false, false, false, false, false, false, false, false, false, false, false, false, false, false] rfl rfl (any_of HT_.out (by kernel_rfl)) (fun _ _ _ h => h) (Or.inl ⟨by rfl, ?_⟩) ?_ ?_
                 rotate_left
                 ·intro w'
                  go_simp
                  with_reducible rfl
                 rotate_left
                 ·simp only [Act.put, q1_, q2_, q3_, i64_w, i32_w]
                  rfl
                 refine pure_ (i := 1) (N := some 100) (v := ?_) (a' := ?_) #[true, true, false, false, false, false, false, false, false, false, false, false, false, false, false, false, false, false, false, false, false, false, false, false, false, false, false, false, false, false] rfl rfl (any_of HT_.out (by kernel_rfl)) (fun _ _ _ h => h) (Or.inl ⟨by rfl, ?_⟩) ?_ ?_
                 rotate_left
                 ·intro w'
                  go_simp
                  with_reducible rfl
                 rotate_left
                 ·simp only [Act.put, q1_, q2_, q3_, i64_w, i32_w]
                  rfl
                 refine pure_ (i := 2) (N := some 101) (v := ?_) (a' := ?_) #[true, true, true, false, false, false, false, false, false, false, false, false, false, false, false, false, false, false, false, false, false, false, false, false, false, false, false, false, false, false] rfl rfl (any_of HT_.out (by kernel_rfl)) (fun _ _ _ h => h) (Or.inl ⟨by rfl, ?_⟩) ?_ ?_
                 rotate_left
                 ·intro w'
                  go_simp
                  with_reducible rfl
                 rotate_left
                 ·simp only [Act.put, q1_, q2_, q3_, i64_w, i32_w]
                  rfl
                 refine pure_ (i := 3) (N := some 102) (v := ?_) (a' := ?_) #[true, true, true, true, false, false, false, false, false, false, false, false, false, false, false, false, false, false, false, false, false, false, false, false, false, false, false, false, false, false] rfl rfl (any_of HT_.out (by kernel_rfl)) (fun _ _ _ h => h) (Or.inl ⟨by rfl, ?_⟩) ?_ ?_
                 rotate_left
                 ·intro w'
                  go_simp
                  with_reducible rfl
                 rotate_left
                 ·simp only [Act.put, q1_, q2_, q3_, i64_w, i32_w]
                  rfl
                 refine pure_ (i := 5) (N := some 104) (v := ?_) (a' := ?_) #[true, true, true, true, false, true, false, false, false, false, false, false, false, false, false, false, false, false, false, false, false, false, false, false, false, false, false, false, false, false] rfl rfl (any_of HT_.out (by kernel_rfl)) (fun _ _ _ h => h) (Or.inl ⟨by rfl, ?_⟩) ?_ ?_
                 rotate_left
                 ·intro w'
                  go_simp
                  with_reducible rfl
                 rotate_left
                 ·simp only [Act.put, q1_, q2_, q3_, i64_w, i32_w]
                  rfl
                 refine take_ (i := 4) (N := some 103) (v := ?_) (a' := ?_) #[true, true, true, true, true, true, false, false, false, false, false, false, false, false, false, false, false, false, false, false, false, false, false, false, false, false, false, false, false, false] rfl rfl (take_ofW HT_.out HW_.out (by kernel_rfl)) (fun _ _ _ h => h) (Or.inl ⟨by rfl, ?_⟩) hHeld ?_ ?_
                 rotate_left
                 ·rintro w' ⟨s0, s1, s2, s3, s4, s5, s6, s7⟩
                  go_simp
                  with_reducible rfl
                 rotate_left
                 ·simp only [Act.put, q1_, q2_, q3_, i64_w, i32_w]
                  rfl
                 refine take_ (i := 6) (N := some 105) (v := ?_) (a' := ?_) #[true, true, true, true, true, true, true, false, false, false, false, false, false, false, false, false, false, false, false, false, false, false, false, false, false, false, false, false, false, false] rfl rfl (take_ofW HT_.out HW_.out (by kernel_rfl)) (fun _ _ _ h => h) (Or.inl ⟨by rfl, ?_⟩) hHeld ?_ ?_
                 rotate_left
                 ·rintro w' ⟨s0, s1, s2, s3, s4, s5, s6, s7⟩
                  go_simp
                  with_reducible rfl
                 rotate_left
                 ·simp only [Act.put, q1_, q2_, q3_, i64_w, i32_w]
                  rfl
                 refine pure_ (i := 7) (N := some 106) (v := ?_) (a' := ?_) #[true, true, true, true, true, true, true, true, false, false, false, false, false, false, false, false, false, false, false, false, false, false, false, false, false, false, false, false, false, false] rfl rfl (any_of HT_.out (by kernel_rfl)) (fun _ _ _ h => h) (Or.inl ⟨by rfl, ?_⟩) ?_ ?_
                 rotate_left
                 ·intro w'
                  go_simp
                  with_reducible rfl
                 rotate_left
                 ·simp only [Act.put, q1_, q2_, q3_, i64_w, i32_w]
                  rfl
                 refine pure_ (i := 8) (N := some 107) (v := ?_) (a' := ?_) #[true, true, true, true, true, true, true, true, true, false, false, false, false, false, false, false, false, false, false, false, false, false, false, false, false, false, false, false, false, false] rfl rfl (any_of HT_.out (by kernel_rfl)) (fun _ _ _ h => h) (Or.inl ⟨by rfl, ?_⟩) ?_ ?_
                 rotate_left
                 ·intro w'
                  go_simp
                  with_reducible rfl
                 rotate_left
                 ·simp only [Act.put, q1_, q2_, q3_, i64_w, i32_w]
                  rfl
                 refine pure_ (i := 9) (N := some 108) (v := undef) (a' := ?_) #[true, true, true, true, true, true, true, true, true, true, false, false, false, false, false, false, false, false, false, false, false, false, false, false, false, false, false, false, false, false] rfl rfl (any_of HT_.out (by kernel_rfl)) (fun _ _ _ h => h) (Or.inr ⟨by rfl, rfl⟩) ?_ ?_
                 rotate_left
                 ·simp only [Act.put, q1_, q2_, q3_, i64_w, i32_w]
                  rfl
                 refine pure_ (i := 10) (N := some 109) (v := undef) (a' := ?_) #[true, true, true, true, true, true, true, true, true, true, true, false, false, false, false, false, false, false, false, false, false, false, false, false, false, false, false, false, false, false] rfl rfl (any_of HT_.out (by kernel_rfl)) (fun _ _ _ h => h) (Or.inr ⟨by rfl, rfl⟩) ?_ ?_
                 rotate_left
                 ·simp only [Act.put, q1_, q2_, q3_, i64_w, i32_w]
                  rfl
                 refine pure_ (i := 11) (N := some 110) (v := ?_) (a' := ?_) #[true, true, true, true, true, true, true, true, true, true, true, true, false, false, false, false, false, false, false, false, false, false, false, false, false, false, false, false, false, false] rfl rfl (any_of HT_.out (by kernel_rfl)) (fun _ _ _ h => h) (Or.inl ⟨by rfl, ?_⟩) ?_ ?_
                 rotate_left
                 ·intro w'
                  go_simp
                  with_reducible rfl
                 rotate_left
                 ·simp only [Act.put, q1_, q2_, q3_, i64_w, i32_w]
                  rfl
                 refine pure_ (i := 12) (N := some 111) (v := ?_) (a' := ?_) #[true, true, true, true, true, true, true, true, true, true, true, true, true, false, false, false, false, false, false, false, false, false, false, false, false, false, false, false, false, false] rfl rfl (any_of HT_.out (by kernel_rfl)) (fun _ _ _ h => h) (Or.inl ⟨by rfl, ?_⟩) ?_ ?_
                 rotate_left
                 ·intro w'
                  go_simp
                  with_reducible rfl
                 rotate_left
                 ·simp only [Act.put, q1_, q2_, q3_, i64_w, i32_w]
                  rfl
                 refine pure_ (i := 13) (N := some 112) (v := undef) (a' := ?_) #[true, true, true, true, true, true, true, true, true, true, true, true, true, true, false, false, false, false, false, false, false, false, false, false, false, false, false, false, false, false] rfl rfl (any_of HT_.out (by kernel_rfl)) (fun _ _ _ h => h) (Or.inr ⟨by rfl, rfl⟩) ?_ ?_
                 rotate_left
                 ·simp only [Act.put, q1_, q2_, q3_, i64_w, i32_w]
                  rfl
                 refine pure_ (i := 14) (N := some 113) (v := undef) (a' := ?_) #[true, true, true, true, true, true, true, true, true, true, true, true, true, true, true, false, false, false, false, false, false, false, false, false, false, false, false, false, false, false] rfl rfl (any_of HT_.out (by kernel_rfl)) (fun _ _ _ h => h) (Or.inr ⟨by rfl, rfl⟩) ?_ ?_
                 rotate_left
                 ·simp only [Act.put, q1_, q2_, q3_, i64_w, i32_w]
                  rfl
                 refine pure_ (i := 15) (N := some 114) (v := undef) (a' := ?_) #[true, true, true, true, true, true, true, true, true, true, true, true, true, true, true, true, false, false, false, false, false, false, false, false, false, false, false, false, false, false] rfl rfl (any_of HT_.out (by kernel_rfl)) (fun _ _ _ h => h) (Or.inr ⟨by rfl, rfl⟩) ?_ ?_
                 rotate_left
                 ·simp only [Act.put, q1_, q2_, q3_, i64_w, i32_w]
                  rfl
                 refine pure_ (i := 16) (N := some 115) (v := undef) (a' := ?_) #[true, true, true, true, true, true, true, true, true, true, true, true, true, true, true, true, true, false, false, false, false, false, false, false, false, false, false, false, false, false] rfl rfl (any_of HT_.out (by kernel_rfl)) (fun _ _ _ h => h) (Or.inr ⟨by rfl, rfl⟩) ?_ ?_
                 rotate_left
                 ·simp only [Act.put, q1_, q2_, q3_, i64_w, i32_w]
                  rfl
                 refine pure_ (i := 17) (N := some 116) (v := undef) (a' := ?_) #[true, true, true, true, true, true, true, true, true, true, true, true, true, true, true, true, true, true, false, false, false, false, false, false, false, false, false, false, false, false] rfl rfl (any_of HT_.out (by kernel_rfl)) (fun _ _ _ h => h) (Or.inr ⟨by rfl, rfl⟩) ?_ ?_
                 rotate_left
                 ·simp only [Act.put, q1_, q2_, q3_, i64_w, i32_w]
                  rfl
                 refine pure_ (i := 18) (N := some 117) (v := undef) (a' := ?_) #[true, true, true, true, true, true, true, true, true, true, true, true, true, true, true, true, true, true, true, false, false, false, false, false, false, false, false, false, false, false] rfl rfl (any_of HT_.out (by kernel_rfl)) (fun _ _ _ h => h) (Or.inr ⟨by rfl, rfl⟩) ?_ ?_
                 rotate_left
                 ·simp only [Act.put, q1_, q2_, q3_, i64_w, i32_w]
                  rfl
                 refine pure_ (i := 19) (N := some 118) (v := undef) (a' := ?_) #[true, true, true, true, true, true, true, true, true, true, true, true, true, true, true, true, true, true, true, true, false, false, false, false, false, false, false, false, false, false] rfl rfl (any_of HT_.out (by kernel_rfl)) (fun _ _ _ h => h) (Or.inr ⟨by rfl, rfl⟩) ?_ ?_
                 rotate_left
                 ·simp only [Act.put, q1_, q2_, q3_, i64_w, i32_w]
                  rfl
                 refine pure_ (i := 20) (N := some 119) (v := undef) (a' := ?_) #[true, true, true, true, true, true, true, true, true, true, true, true, true, true, true, true, true, true, true, true, true, false, false, false, false, false, false, false, false, false] rfl rfl (any_of HT_.out (by kernel_rfl)) (fun _ _ _ h => h) (Or.inr ⟨by rfl, rfl⟩) ?_ ?_
                 rotate_left
                 ·simp only [Act.put, q1_, q2_, q3_, i64_w, i32_w]
                  rfl
                 refine pure_ (i := 21) (N := some 120) (v := undef) (a' := ?_) #[true, true, true, true, true, true, true, true, true, true, true, true, true, true, true, true, true, true, true, true, true, true, false, false, false, false, false, false, false, false] rfl rfl (any_of HT_.out (by kernel_rfl)) (fun _ _ _ h => h) (Or.inr ⟨by rfl, rfl⟩) ?_ ?_
                 rotate_left
                 ·simp only [Act.put, q1_, q2_, q3_, i64_w, i32_w]
                  rfl
                 refine pure_ (i := 22) (N := some 121) (v := undef) (a' := ?_) #[true, true, true, true, true, true, true, true, true, true, true, true, true, true, true, true, true, true, true, true, true, true, true, false, false, false, false, false, false, false] rfl rfl (any_of HT_.out (by kernel_rfl)) (fun _ _ _ h => h) (Or.inr ⟨by rfl, rfl⟩) ?_ ?_
                 rotate_left
                 ·simp only [Act.put, q1_, q2_, q3_, i64_w, i32_w]
                  rfl
                 refine pure_ (i := 23) (N := some 122) (v := undef) (a' := ?_) #[true, true, true, true, true, true, true, true, true, true, true, true, true, true, true, true, true, true, true, true, true, true, true, true, false, false, false, false, false, false] rfl rfl (any_of HT_.out (by kernel_rfl)) (fun _ _ _ h => h) (Or.inr ⟨by rfl, rfl⟩) ?_ ?_
                 rotate_left
                 ·simp only [Act.put, q1_, q2_, q3_, i64_w, i32_w]
                  rfl
                 refine pure_ (i := 24) (N := some 123) (v := undef) (a' := ?_) #[true, true, true, true, true, true, true, true, true, true, true, true, true, true, true, true, true, true, true, true, true, true, true, true, true, false, false, false, false, false] rfl rfl (any_of HT_.out (by kernel_rfl)) (fun _ _ _ h => h) (Or.inr ⟨by rfl, rfl⟩) ?_ ?_
                 rotate_left
                 ·simp only [Act.put, q1_, q2_, q3_, i64_w, i32_w]
                  rfl
                 refine pure_ (i := 25) (N := some 124) (v := undef) (a' := ?_) #[true, true, true, true, true, true, true, true, true, true, true, true, true, true, true, true, true, true, true, true, true, true, true, true, true, true, false, false, false, false] rfl rfl (any_of HT_.out (by kernel_rfl)) (fun _ _ _ h => h) (Or.inr ⟨by rfl, rfl⟩) ?_ ?_
                 rotate_left
                 ·simp only [Act.put, q1_, q2_, q3_, i64_w, i32_w]
                  rfl
                 refine pure_ (i := 26) (N := some 125) (v := undef) (a' := ?_) #[true, true, true, true, true, true, true, true, true, true, true, true, true, true, true, true, true, true, true, true, true, true, true, true, true, true, true, false, false, false] rfl rfl (any_of HT_.out (by kernel_rfl)) (fun _ _ _ h => h) (Or.inr ⟨by rfl, rfl⟩) ?_ ?_
                 rotate_left
                 ·simp only [Act.put, q1_, q2_, q3_, i64_w, i32_w]
                  rfl
                 refine pure_ (i := 27) (N := some 126) (v := undef) (a' := ?_) #[true, true, true, true, true, true, true, true, true, true, true, true, true, true, true, true, true, true, true, true, true, true, true, true, true, true, true, true, false, false] rfl rfl (any_of HT_.out (by kernel_rfl)) (fun _ _ _ h => h) (Or.inr ⟨by rfl, rfl⟩) ?_ ?_
                 rotate_left
                 ·simp only [Act.put, q1_, q2_, q3_, i64_w, i32_w]
                  rfl
                 refine pure_ (i := 28) (N := some 127) (v := undef) (a' := ?_) #[true, true, true, true, true, true, true, true, true, true, true, true, true, true, true, true, true, true, true, true, true, true, true, true, true, true, true, true, true, false] rfl rfl (any_of HT_.out (by kernel_rfl)) (fun _ _ _ h => h) (Or.inr ⟨by rfl, rfl⟩) ?_ ?_
                 rotate_left
                 ·simp only [Act.put, q1_, q2_, q3_, i64_w, i32_w]
                  rfl
                 refine pure_ (i := 29) (N := some 128) (v := ?_) (a' := ?_) #[true, true, true, true, true, true, true, true, true, true, true, true, true, true, true, true, true, true, true, true, true, true, true, true, true, true, true, true, true, true] rfl rfl (any_of HT_.out (by kernel_rfl)) (fun _ _ _ h => h) (Or.inl ⟨by rfl, ?_⟩) ?_ ?_
                 rotate_left
                 ·intro w'
                  go_simp
                  with_reducible rfl
                 rotate_left
                 ·simp only [Act.put, q1_, q2_, q3_, i64_w, i32_w]
                  rfl
                 refine done_ (done_of HT_.out (by kernel_rfl)) ?_
                 try go_wp2
                 go_ret
                 exact ⟨by first | rfl | (simp [errW_none, errW_some] <;> rfl) | (simp [*, errW_none, errW_some] <;> rfl), by repeat (first | (with_reducible first | exact HB.out | apply below_alloc | apply pw_below_drewN | apply below_drew1 | refine below_set ?_ GE128.out | refine below_set ?_ GE129.out | refine below_set ?_ GE130.out | refine below_set ?_ GE146.out) | exact HB.out)⟩
               ·rw [if_neg c84] at H
                exact absurd H (by simp)
              ·rw [if_neg c83] at H
               exact absurd H (by simp)
          ·rw [if_neg c60] at H
           have c60b0 : decide (x12_3 < (t142.length : Int)) = false := decide_eq_false c60
           clear c60
           by_cases c117 : t137 = a3_0
           ·rw [if_pos c117] at H
            have c117b0 : (t137 == a3_0) = true := beq_iff_eq.mpr c117
            have c117b1 : (t137 != a3_0) = false := bne_eq_false_iff_eq.mpr c117
            clear c117
            by_cases c118 : t140 = true
            ·subst c118
             have H1 : (some false) = some r := by rw [if_pos rfl] at H; exact H
             clear H
             have H := H1
             clear H1
             obtain rfl := Option.some.inj H
             obtain ⟨Ao119, co119, eo119⟩ := Kd.R_slice HO_10.out
             subst eo119
             have hnb120 := NB146_128.out
             have hnc120 := NB128_146.out
             have hnb121 := NB146_129.out
             have hnc121 := NB129_146.out
             have hnb122 := NB146_130.out
             have hnc122 := NB130_146.out
             have hcz123_0 : wr.cell? ⟨gb146, 0, none⟩ = some (.int .i64 t137) := (blk_cell BK146.out 0).trans rfl
             have hcz123_1 : wr.cell? ⟨gb146, 1, none⟩ = some (.int .i64 t138) := (blk_cell BK146.out 1).trans rfl
             have hcz123_2 : wr.cell? ⟨gb146, 2, none⟩ = some (.bool t139) := (blk_cell BK146.out 2).trans rfl
             have hcz123_3 : wr.cell? ⟨gb146, 3, none⟩ = some (.bool true) := (blk_cell BK146.out 3).trans rfl
             have hcz123_4 : wr.cell? ⟨gb146, 4, none⟩ = some (.int .i64 t141) := (blk_cell BK146.out 4).trans rfl
             have hfz123_0 := blk_frozen BK146.out 0
             have hfz123_1 := blk_frozen BK146.out 1
             have hfz123_2 := blk_frozen BK146.out 2
             have hfz123_3 := blk_frozen BK146.out 3
             have hfz123_4 := blk_frozen BK146.out 4
             have hnb124 := NB130_128.out
             have hnc124 := NB128_130.out
             have hnb125 := NB130_129.out
             have hnc125 := NB129_130.out
             have hcz126_0 : wr.cell? ⟨gb130, 0, none⟩ = some (.int .i64 a3_0) := (blk_cell BK130.out 0).trans rfl
             have hcz126_1 : wr.cell? ⟨gb130, 1, none⟩ = some (.int .i64 a3_1) := (blk_cell BK130.out 1).trans rfl
             have hcz126_2 : wr.cell? ⟨gb130, 2, none⟩ = some (.bool a3_2) := (blk_cell BK130.out 2).trans rfl
             have hcz126_3 : wr.cell? ⟨gb130, 3, none⟩ = some (.bool a3_3) := (blk_cell BK130.out 3).trans rfl
             have hcz126_4 : wr.cell? ⟨gb130, 4, none⟩ = some (.int .i64 a3_4) := (blk_cell BK130.out 4).trans rfl
             have hfz126_0 := blk_frozen BK130.out 0
             have hfz126_1 := blk_frozen BK130.out 1
             have hfz126_2 := blk_frozen BK130.out 2
             have hfz126_3 := blk_frozen BK130.out 3
             have hfz126_4 := blk_frozen BK130.out 4
             go_wp2
             go_ret
             exact ⟨by first | rfl | (simp [errW_none, errW_some] <;> rfl) | (simp [*, errW_none, errW_some] <;> rfl), by repeat (first | (with_reducible first | exact HB.out | apply below_alloc | apply pw_below_drewN | apply below_drew1 | refine below_set ?_ GE128.out | refine below_set ?_ GE129.out | refine below_set ?_ GE130.out | refine below_set ?_ GE146.out) | exact HB.out)⟩
            ·replace c118 := Bool.eq_false_iff.mpr c118
             subst c118
             have H1 : (if t141 = 0 then (if t139 = true then (some (a1_0.toList == ([114, 97, 110, 107] : List UInt8))) else (some true)) else (some false)) = some r := by rw [if_neg (show ¬ (false = true) by decide)] at H; exact H
             clear H
             have H := H1
             clear H1
             by_cases c127 : t141 = 0
             ·rw [if_pos c127] at H
              have c127b0 : (t141 == 0) = true := beq_iff_eq.mpr c127
              have c127b1 : (t141 != 0) = false := bne_eq_false_iff_eq.mpr c127
              clear c127
              by_cases c128 : t139 = true
              ·subst c128
               have H1 : (some (a1_0.toList == ([114, 97, 110, 107] : List UInt8))) = some r := by rw [if_pos rfl] at H; exact H
               clear H
               have H := H1
               clear H1
               obtain rfl := Option.some.inj H
               obtain ⟨Ao129, co129, eo129⟩ := Kd.R_slice HO_10.out
               subst eo129
               have hnb130 := NB146_128.out
               have hnc130 := NB128_146.out
               have hnb131 := NB146_129.out
               have hnc131 := NB129_146.out
               have hnb132 := NB146_130.out
               have hnc132 := NB130_146.out
               have hcz133_0 : wr.cell? ⟨gb146, 0, none⟩ = some (.int .i64 t137) := (blk_cell BK146.out 0).trans rfl
               have hcz133_1 : wr.cell? ⟨gb146, 1, none⟩ = some (.int .i64 t138) := (blk_cell BK146.out 1).trans rfl
               have hcz133_2 : wr.cell? ⟨gb146, 2, none⟩ = some (.bool true) := (blk_cell BK146.out 2).trans rfl
               have hcz133_3 : wr.cell? ⟨gb146, 3, none⟩ = some (.bool false) := (blk_cell BK146.out 3).trans rfl
               have hcz133_4 : wr.cell? ⟨gb146, 4, none⟩ = some (.int .i64 t141) := (blk_cell BK146.out 4).trans rfl
               have hfz133_0 := blk_frozen BK146.out 0
               have hfz133_1 := blk_frozen BK146.out 1
               have hfz133_2 := blk_frozen BK146.out 2
               have hfz133_3 := blk_frozen BK146.out 3
               have hfz133_4 := blk_frozen BK146.out 4
               have hnb134 := NB130_128.out
               have hnc134 := NB128_130.out
               have hnb135 := NB130_129.out
               have hnc135 := NB129_130.out
               have hcz136_0 : wr.cell? ⟨gb130, 0, none⟩ = some (.int .i64 a3_0) := (blk_cell BK130.out 0).trans rfl
               have hcz136_1 : wr.cell? ⟨gb130, 1, none⟩ = some (.int .i64 a3_1) := (blk_cell BK130.out 1).trans rfl
               have hcz136_2 : wr.cell? ⟨gb130, 2, none⟩ = some (.bool a3_2) := (blk_cell BK130.out 2).trans rfl
               have hcz136_3 : wr.cell? ⟨gb130, 3, none⟩ = some (.bool a3_3) := (blk_cell BK130.out 3).trans rfl
               have hcz136_4 : wr.cell? ⟨gb130, 4, none⟩ = some (.int .i64 a3_4) := (blk_cell BK130.out 4).trans rfl
               have hfz136_0 := blk_frozen BK130.out 0
               have hfz136_1 := blk_frozen BK130.out 1
               have hfz136_2 := blk_frozen BK130.out 2
               have hfz136_3 := blk_frozen BK130.out 3
               have hfz136_4 := blk_frozen BK130.out 4
               have hnb137 := NB129_128.out
               have hnc137 := NB128_129.out
               have hcz138_0 : wr.cell? ⟨gb129, 0, none⟩ = some (.string a1_0) := (blk_cell BK129.out 0).trans rfl
               have hcz138_1 : wr.cell? ⟨gb129, 1, none⟩ = some (.int .i64 a1_1) := (blk_cell BK129.out 1).trans rfl
               have hcz138_2 : wr.cell? ⟨gb129, 2, none⟩ = some (.int .i64 a1_2) := (blk_cell BK129.out 2).trans rfl
               have hfz138_0 := blk_frozen BK129.out 0
               have hfz138_1 := blk_frozen BK129.out 1
               have hfz138_2 := blk_frozen BK129.out 2
               go_wp2
               go_ret
               exact ⟨by first | rfl | (simp [errW_none, errW_some] <;> rfl) | (simp [*, errW_none, errW_some] <;> rfl), by repeat (first | (with_reducible first | exact HB.out | apply below_alloc | apply pw_below_drewN | apply below_drew1 | refine below_set ?_ GE128.out | refine below_set ?_ GE129.out | refine below_set ?_ GE130.out | refine below_set ?_ GE146.out) | exact HB.out)⟩
              ·replace c128 := Bool.eq_false_iff.mpr c128
               subst c128
               have H1 : (some true) = some r := by rw [if_neg (show ¬ (false = true) by decide)] at H; exact H
               clear H
               have H := H1
               clear H1
               obtain rfl := Option.some.inj H
               obtain ⟨Ao139, co139, eo139⟩ := Kd.R_slice HO_10.out
               subst eo139
               have hnb140 := NB146_128.out
               have hnc140 := NB128_146.out
               have hnb141 := NB146_129.out
               have hnc141 := NB129_146.out
               have hnb142 := NB146_130.out
               have hnc142 := NB130_146.out
               have hcz143_0 : wr.cell? ⟨gb146, 0, none⟩ = some (.int .i64 t137) := (blk_cell BK146.out 0).trans rfl
               have hcz143_1 : wr.cell? ⟨gb146, 1, none⟩ = some (.int .i64 t138) := (blk_cell BK146.out 1).trans rfl
               have hcz143_2 : wr.cell? ⟨gb146, 2, none⟩ = some (.bool false) := (blk_cell BK146.out 2).trans rfl
               have hcz143_3 : wr.cell? ⟨gb146, 3, none⟩ = some (.bool false) := (blk_cell BK146.out 3).trans rfl
               have hcz143_4 : wr.cell? ⟨gb146, 4, none⟩ = some (.int .i64 t141) := (blk_cell BK146.out 4).trans rfl
               have hfz143_0 := blk_frozen BK146.out 0
               have hfz143_1 := blk_frozen BK146.out 1
               have hfz143_2 := blk_frozen BK146.out 2
               have hfz143_3 := blk_frozen BK146.out 3
               have hfz143_4 := blk_frozen BK146.out 4
               have hnb144 := NB130_128.out
               have hnc144 := NB128_130.out
               have hnb145 := NB130_129.out
               have hnc145 := NB129_130.out
               have hcz146_0 : wr.cell? ⟨gb130, 0, none⟩ = some (.int .i64 a3_0) := (blk_cell BK130.out 0).trans rfl
               have hcz146_1 : wr.cell? ⟨gb130, 1, none⟩ = some (.int .i64 a3_1) := (blk_cell BK130.out 1).trans rfl
               have hcz146_2 : wr.cell? ⟨gb130, 2, none⟩ = some (.bool a3_2) := (blk_cell BK130.out 2).trans rfl
               have hcz146_3 : wr.cell? ⟨gb130, 3, none⟩ = some (.bool a3_3) := (blk_cell BK130.out 3).trans rfl
               have hcz146_4 : wr.cell? ⟨gb130, 4, none⟩ = some (.int .i64 a3_4) := (blk_cell BK130.out 4).trans rfl
               have hfz146_0 := blk_frozen BK130.out 0
               have hfz146_1 := blk_frozen BK130.out 1
               have hfz146_2 := blk_frozen BK130.out 2
               have hfz146_3 := blk_frozen BK130.out 3
               have hfz146_4 := blk_frozen BK130.out 4
               go_wp2
               go_ret
               exact ⟨by first | rfl | (simp [errW_none, errW_some] <;> rfl) | (simp [*, errW_none, errW_some] <;> rfl), by repeat (first | (with_reducible first | exact HB.out | apply below_alloc | apply pw_below_drewN | apply below_drew1 | refine below_set ?_ GE128.out | refine below_set ?_ GE129.out | refine below_set ?_ GE130.out | refine below_set ?_ GE146.out) | exact HB.out)⟩
             ·rw [if_neg c127] at H
              have c127b0 : (t141 == 0) = false := beq_eq_false_iff_ne.mpr c127
              have c127b1 : (t141 != 0) = true := bne_iff_ne.mpr c127
              obtain rfl := Option.some.inj H
              obtain ⟨Ao147, co147, eo147⟩ := Kd.R_slice HO_10.out
              subst eo147
              have hnb148 := NB146_128.out
              have hnc148 := NB128_146.out
              have hnb149 := NB146_129.out
              have hnc149 := NB129_146.out
              have hnb150 := NB146_130.out
              have hnc150 := NB130_146.out
              have hcz151_0 : wr.cell? ⟨gb146, 0, none⟩ = some (.int .i64 t137) := (blk_cell BK146.out 0).trans rfl
              have hcz151_1 : wr.cell? ⟨gb146, 1, none⟩ = some (.int .i64 t138) := (blk_cell BK146.out 1).trans rfl
              have hcz151_2 : wr.cell? ⟨gb146, 2, none⟩ = some (.bool t139) := (blk_cell BK146.out 2).trans rfl
              have hcz151_3 : wr.cell? ⟨gb146, 3, none⟩ = some (.bool false) := (blk_cell BK146.out 3).trans rfl
              have hcz151_4 : wr.cell? ⟨gb146, 4, none⟩ = some (.int .i64 t141) := (blk_cell BK146.out 4).trans rfl
              have hfz151_0 := blk_frozen BK146.out 0
              have hfz151_1 := blk_frozen BK146.out 1
              have hfz151_2 := blk_frozen BK146.out 2
              have hfz151_3 := blk_frozen BK146.out 3
              have hfz151_4 := blk_frozen BK146.out 4
              have hnb152 := NB130_128.out
              have hnc152 := NB128_130.out
              have hnb153 := NB130_129.out
              have hnc153 := NB129_130.out
              have hcz154_0 : wr.cell? ⟨gb130, 0, none⟩ = some (.int .i64 a3_0) := (blk_cell BK130.out 0).trans rfl
              have hcz154_1 : wr.cell? ⟨gb130, 1, none⟩ = some (.int .i64 a3_1) := (blk_cell BK130.out 1).trans rfl
              have hcz154_2 : wr.cell? ⟨gb130, 2, none⟩ = some (.bool a3_2) := (blk_cell BK130.out 2).trans rfl
              have hcz154_3 : wr.cell? ⟨gb130, 3, none⟩ = some (.bool a3_3) := (blk_cell BK130.out 3).trans rfl
              have hcz154_4 : wr.cell? ⟨gb130, 4, none⟩ = some (.int .i64 a3_4) := (blk_cell BK130.out 4).trans rfl
              have hfz154_0 := blk_frozen BK130.out 0
              have hfz154_1 := blk_frozen BK130.out 1
              have hfz154_2 := blk_frozen BK130.out 2
              have hfz154_3 := blk_frozen BK130.out 3
              have hfz154_4 := blk_frozen BK130.out 4
              go_wp2
              go_ret
              exact ⟨by first | rfl | (simp [errW_none, errW_some] <;> rfl) | (simp [*, errW_none, errW_some] <;> rfl), by repeat (first | (with_reducible first | exact HB.out | apply below_alloc | apply pw_below_drewN | apply below_drew1 | refine below_set ?_ GE128.out | refine below_set ?_ GE129.out | refine below_set ?_ GE130.out | refine below_set ?_ GE146.out) | exact HB.out)⟩
           ·rw [if_neg c117] at H
            have c117b0 : (t137 == a3_0) = false := beq_eq_false_iff_ne.mpr c117
            have c117b1 : (t137 != a3_0) = true := bne_iff_ne.mpr c117
            obtain rfl := Option.some.inj H
            obtain ⟨Ao155, co155, eo155⟩ := Kd.R_slice HO_10.out
            subst eo155
            have hnb156 := NB146_128.out
            have hnc156 := NB128_146.out
            have hnb157 := NB146_129.out
            have hnc157 := NB129_146.out
            have hnb158 := NB146_130.out
            have hnc158 := NB130_146.out
            have hcz159_0 : wr.cell? ⟨gb146, 0, none⟩ = some (.int .i64 t137) := (blk_cell BK146.out 0).trans rfl
            have hcz159_1 : wr.cell? ⟨gb146, 1, none⟩ = some (.int .i64 t138) := (blk_cell BK146.out 1).trans rfl
            have hcz159_2 : wr.cell? ⟨gb146, 2, none⟩ = some (.bool t139) := (blk_cell BK146.out 2).trans rfl
            have hcz159_3 : wr.cell? ⟨gb146, 3, none⟩ = some (.bool t140) := (blk_cell BK146.out 3).trans rfl
            have hcz159_4 : wr.cell? ⟨gb146, 4, none⟩ = some (.int .i64 t141) := (blk_cell BK146.out 4).trans rfl
            have hfz159_0 := blk_frozen BK146.out 0
            have hfz159_1 := blk_frozen BK146.out 1
            have hfz159_2 := blk_frozen BK146.out 2
            have hfz159_3 := blk_frozen BK146.out 3
            have hfz159_4 := blk_frozen BK146.out 4
            have hnb160 := NB130_128.out
            have hnc160 := NB128_130.out
            have hnb161 := NB130_129.out
            have hnc161 := NB129_130.out
            have hcz162_0 : wr.cell? ⟨gb130, 0, none⟩ = some (.int .i64 a3_0) := (blk_cell BK130.out 0).trans rfl
            have hcz162_1 : wr.cell? ⟨gb130, 1, none⟩ = some (.int .i64 a3_1) := (blk_cell BK130.out 1).trans rfl
            have hcz162_2 : wr.cell? ⟨gb130, 2, none⟩ = some (.bool a3_2) := (blk_cell BK130.out 2).trans rfl
            have hcz162_3 : wr.cell? ⟨gb130, 3, none⟩ = some (.bool a3_3) := (blk_cell BK130.out 3).trans rfl
            have hcz162_4 : wr.cell? ⟨gb130, 4, none⟩ = some (.int .i64 a3_4) := (blk_cell BK130.out 4).trans rfl
            have hfz162_0 := blk_frozen BK130.out 0
            have hfz162_1 := blk_frozen BK130.out 1
            have hfz162_2 := blk_frozen BK130.out 2
            have hfz162_3 := blk_frozen BK130.out 3
            have hfz162_4 := blk_frozen BK130.out 4
            go_wp2
            go_ret
            exact ⟨by first | rfl | (simp [errW_none, errW_some] <;> rfl) | (simp [*, errW_none, errW_some] <;> rfl), by repeat (first | (with_reducible first | exact HB.out | apply below_alloc | apply pw_below_drewN | apply below_drew1 | refine below_set ?_ GE128.out | refine below_set ?_ GE129.out | refine below_set ?_ GE130.out | refine below_set ?_ GE146.out) | exact HB.out)⟩
    ·rw [if_neg c21] at H
     have c21b0 : (t145 == 0) = false := beq_eq_false_iff_ne.mpr c21
     have c21b1 : (t145 != 0) = true := bne_iff_ne.mpr c21
     have HH_ := Aside0.mk H
     clear H
     obtain ⟨Ao175, co175, eo175⟩ := Kd.R_slice HO144.out
     subst eo175
     have H := HH_.out
     clear HH_
     by_cases c163 : (t142.length : Int) = 0
     ·rw [if_pos c163] at H
      have c163b0 : ((t142.length : Int) == 0) = true := beq_iff_eq.mpr c163
      have c163b1 : ((t142.length : Int) != 0) = false := bne_eq_false_iff_eq.mpr c163
      clear c163
      (first | rw [c163b0] | simp only [c163b0] | skip)
      obtain rfl := Option.some.inj H
      have hnb176 := NB146_128.out
      have hnc176 := NB128_146.out
      have hnb177 := NB146_129.out
      have hnc177 := NB129_146.out
      have hnb178 := NB146_130.out
      have hnc178 := NB130_146.out
      have hcz179_0 : w28.cell? ⟨gb146, 0, none⟩ = some (.int .i64 0) := (blk_cell BK146.out 0).trans rfl
      have hcz179_1 : w28.cell? ⟨gb146, 1, none⟩ = some (.int .i64 0) := (blk_cell BK146.out 1).trans rfl
      have hcz179_2 : w28.cell? ⟨gb146, 2, none⟩ = some (.bool false) := (blk_cell BK146.out 2).trans rfl
      have hcz179_3 : w28.cell? ⟨gb146, 3, none⟩ = some (.bool false) := (blk_cell BK146.out 3).trans rfl
      have hcz179_4 : w28.cell? ⟨gb146, 4, none⟩ = some (.int .i64 0) := (blk_cell BK146.out 4).trans rfl
      have hfz179_0 := blk_frozen BK146.out 0
      have hfz179_1 := blk_frozen BK146.out 1
      have hfz179_2 := blk_frozen BK146.out 2
      have hfz179_3 := blk_frozen BK146.out 3
      have hfz179_4 := blk_frozen BK146.out 4
      try go_wp2
      go_ret
      exact ⟨by first | rfl | (simp [errW_none, errW_some] <;> rfl) | (simp [*, errW_none, errW_some] <;> rfl), by repeat (first | (with_reducible first | exact HB.out | apply below_alloc | apply pw_below_drewN | apply below_drew1 | refine below_set ?_ GE128.out | refine below_set ?_ GE129.out | refine below_set ?_ GE130.out | refine below_set ?_ GE146.out) | exact HB.out)⟩
     ·rw [if_neg c163] at H
      have c163b0 : ((t142.length : Int) == 0) = false := beq_eq_false_iff_ne.mpr c163
      have c163b1 : ((t142.length : Int) != 0) = true := bne_iff_ne.mpr c163
      have c163b2 : ¬ (t142 = []) := fun h_ => c163 (by rw [h_]; rfl)
      obtain rfl := Option.some.inj H
      try go_wp2
      go_ret
      exact ⟨by first | rfl | (simp [errW_none, errW_some] <;> rfl) | (simp [*, errW_none, errW_some] <;> rfl), by repeat (first | (with_reducible first | exact HB.out | apply below_alloc | apply pw_below_drewN | apply below_drew1 | refine below_set ?_ GE128.out | refine below_set ?_ GE129.out | refine below_set ?_ GE130.out | refine below_set ?_ GE146.out) | exact HB.out)⟩

end Go.Proofs.Ytdmihkffjbapjaa.P
