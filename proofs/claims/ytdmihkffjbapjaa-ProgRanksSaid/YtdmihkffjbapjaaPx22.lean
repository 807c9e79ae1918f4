/- Printed by a program of this session (wip/myprint.py) over the print of the kit: what the Go functions of this seat compute, as Lean functions, and that they do; for the functions that take or make function values the contracts are by hand. No condition. -/
import Derived.Test.YtdmihkffjbapjaaPx0
import Derived.Test.YtdmihkffjbapjaaPx6
import Derived.Test.YtdmihkffjbapjaaPx9
import Derived.Test.YtdmihkffjbapjaaPx11
namespace Go.Proofs.Ytdmihkffjbapjaa.P
open Go.RowKit Go.Proofs.YtdmihkffjbapjaaW.PrintWords Go.Proofs.YtdmihkffjbapjaaW.PrintLast Go.Proofs.YtdmihkffjbapjaaW.PrintMore
attribute [local go_sem] max2_int min2_int max_two min_two max_three min_three max_four min_four   -- for this text's walks alone
set_option linter.unusedVariables false
set_option linter.unusedSimpArgs false
set_option linter.unnecessarySimpa false

/-! ### modillionlaw07_ProgRanks: function 9 -/
def modillionlaw07_ProgRanks.j0 : Nat → Int → Bool → Int → List (S46) → ByteArray → Int → Int → Int → Int → Bool → Bool → Int → Option (Bool)
  | 0, _, _, _, _, _, _, _, _, _, _, _, _ => none
  | k + 1, x2, x19, x323000, x323001, x324000, x324001, x324002, x325000, x325001, x325002, x325003, x325004 => if x19 = true then ((modillionlaw07_awake.f k).bind fun t326 => (some t326)) else ((modillionlaw07_own.f x323000 x323001).bind fun bt327 => ((prog_Step.f bt327.1 bt327.2 (⟨#[114, 97, 110, 107]⟩ : ByteArray) x324001 x324002 x2 x325000 x325001 x325002 x325003 x325004).bind fun bt331 => (if bt331.2.2.2.2.2.2 = 0 then (if x325002 = true then (if (bt331.2.2.1 == (decide (x2 < (wrap64 (x324002 - 1))))) = true then (if bt331.2.2.1 = true then (if x2 > 0 then (some true) else (some (bt331.2.1 == x325001))) else (if (bt331.2.2.2.2.2.1.length : Int) = 0 then (if x2 > 0 then (some true) else (some (bt331.2.1 == x325001))) else (some false))) else (some false)) else (if x325003 = true then (if (bt331.2.2.1 == (decide (x2 < (wrap64 (x324002 - 1))))) = true then (if bt331.2.2.1 = true then (if x2 > 0 then (some true) else (some (bt331.2.1 == x325001))) else (if (bt331.2.2.2.2.2.1.length : Int) = 0 then (if x2 > 0 then (some true) else (some (bt331.2.1 == x325001))) else (some false))) else (some false)) else (some ((bt331.2.2.2.2.2.1.length : Int) == 0)))) else (some ((bt331.2.2.2.2.2.1.length : Int) == 0)))))
def modillionlaw07_ProgRanks.f (k : Nat) (a0_0 : Int) (l0_1 : List (S46)) (a1_0 : ByteArray) (a1_1 : Int) (a1_2 : Int) (a2 : Int) (a3_0 : Int) (a3_1 : Int) (a3_2 : Bool) (a3_3 : Bool) (a3_4 : Int) : Option (Bool) := (modillionlaw07_awake.f k).bind fun t325 => (if t325 = true then (modillionlaw07_ProgRanks.j0 k a2 (decide ((l0_1.length : Int) > 100)) a0_0 l0_1 a1_0 a1_1 a1_2 a3_0 a3_1 a3_2 a3_3 a3_4) else (modillionlaw07_ProgRanks.j0 k a2 true a0_0 l0_1 a1_0 a1_1 a1_2 a3_0 a3_1 a3_2 a3_3 a3_4))
theorem modillionlaw07_ProgRanks.mono_l : ∀ k, (∀ y0 y1 y2 y3 y4 y5 y6 y7 y8 y9 y10 y11, LeO (modillionlaw07_ProgRanks.j0 k y0 y1 y2 y3 y4 y5 y6 y7 y8 y9 y10 y11) (modillionlaw07_ProgRanks.j0 (k + 1) y0 y1 y2 y3 y4 y5 y6 y7 y8 y9 y10 y11))
  | 0 => fun _ _ _ _ _ _ _ _ _ _ _ _ r h => by simp [modillionlaw07_ProgRanks.j0] at h
  | k + 1 => by
    have ih0 := modillionlaw07_ProgRanks.mono_l k
    · intro y0 y1 y2 y3 y4 y5 y6 y7 y8 y9 y10 y11
      unfold modillionlaw07_ProgRanks.j0
      repeat' first
      | (with_reducible exact ih0 _ _ _ _ _ _ _ _ _ _ _ _)
      | (with_reducible exact modillionlaw07_awake.mono _)
      | (with_reducible exact LeO.refl _)
      | (with_reducible exact LeO.none _)
      | (with_reducible refine LeO.ite ?_ ?_)
      | (with_reducible refine LeO.bind ?_ (fun _ => ?_))
      | exact ih0 _ _ _ _ _ _ _ _ _ _ _ _
      | exact modillionlaw07_awake.mono _
      | exact LeO.none _
      | refine LeO.ite ?_ ?_
      | refine LeO.bind ?_ (fun _ => ?_)
theorem modillionlaw07_ProgRanks.mono : ∀ a0 a1 a2 a3 a4 a5 a6 a7 a8 a9 a10 k, LeO (modillionlaw07_ProgRanks.f k a0 a1 a2 a3 a4 a5 a6 a7 a8 a9 a10) (modillionlaw07_ProgRanks.f (k + 1) a0 a1 a2 a3 a4 a5 a6 a7 a8 a9 a10) := by
  intro a0 a1 a2 a3 a4 a5 a6 a7 a8 a9 a10 k
  have ih0 := modillionlaw07_ProgRanks.mono_l k
  unfold modillionlaw07_ProgRanks.f
  repeat' first
      | (with_reducible exact ih0 _ _ _ _ _ _ _ _ _ _ _ _)
      | (with_reducible exact modillionlaw07_awake.mono _)
      | (with_reducible exact LeO.refl _)
      | (with_reducible exact LeO.none _)
      | (with_reducible refine LeO.ite ?_ ?_)
      | (with_reducible refine LeO.bind ?_ (fun _ => ?_))
      | exact ih0 _ _ _ _ _ _ _ _ _ _ _ _
      | exact modillionlaw07_awake.mono _
      | exact LeO.none _
      | refine LeO.ite ?_ ?_
      | refine LeO.bind ?_ (fun _ => ?_)
def modillionlaw07_ProgRanks.T4 : Bool × List (List Nat × List Nat) := (true, [([], []), ([0], [0]), ([], []), ([], []), ([], []), ([1, 2, 3, 4, 1], [1, 2, 3, 4]), ([5], [5]), ([6], [6]), ([6], [6]), ([6], [6]), ([], []), ([10, 7, 5, 0, 1, 2, 3, 4, 5, 6, 7, 10], [7, 10]), ([8, 11, 0, 1, 2, 3, 4, 5, 6, 7, 8, 10, 11], [8]), ([9, 12, 0, 1, 2, 3, 4, 5, 6, 7, 8, 9, 10, 11, 12], [9])])
def modillionlaw07_ProgRanks.B4 : List Nat := [0, 1, 0, 0, 0, 31, 63, 127, 127, 127, 0, 1279, 3583, 8191]
theorem modillionlaw07_ProgRanks.tab4 : rtab .any (opsOf Try.f9 4) = modillionlaw07_ProgRanks.T4 := by kernel_rfl
theorem modillionlaw07_ProgRanks.bits4 : waitsOk modillionlaw07_ProgRanks.T4.2 modillionlaw07_ProgRanks.B4 = true := by kernel_rfl
set_option maxHeartbeats 8000000 in
set_option maxRecDepth 100000 in
theorem modillionlaw07_ProgRanks.calls (k : Nat) (a0_0 : Int) (A0_1 : Option Addr) (c0_1 : Nat) (l0_1 : List (S46)) (a1_0 : ByteArray) (a1_1 : Int) (a1_2 : Int) (a2 : Int) (a3_0 : Int) (a3_1 : Int) (a3_2 : Bool) (a3_3 : Bool) (a3_4 : Int) (r : Bool) (w : World) (hr0_1 : Kd.C k46 w A0_1 l0_1.length l0_1) (hc0_1 : l0_1.length ≤ c0_1) (h : modillionlaw07_ProgRanks.f k a0_0 l0_1 a1_0 a1_1 a1_2 a2 a3_0 a3_1 a3_2 a3_3 a3_4 = some r) :
    Calls Try.prog 9 #[.agg #[.int .i64 a0_0, .slice A0_1 l0_1.length c0_1], .agg #[.string a1_0, .int .i64 a1_1, .int .i64 a1_2], .int .i64 a2, .agg #[.int .i64 a3_0, .int .i64 a3_1, .bool a3_2, .bool a3_3, .int .i64 a3_4]] w fun e w' => e = .returned (.bool r) ∧ Below w.heap.size w w' := by
  have hu24 := Try.underlying24
  have hu26 := Try.underlying26
  have hu28 := Try.underlying28
  have HR0_1 := Aside0.mk hr0_1
  have HC0_1 := Aside0.mk hc0_1
  clear hr0_1 hc0_1
  have HB := Aside0.mk (Below.refl w.heap.size w)
  have H : ((modillionlaw07_awake.f k).bind fun t325 => (if t325 = true then (modillionlaw07_ProgRanks.j0 k a2 (decide ((l0_1.length : Int) > 100)) a0_0 l0_1 a1_0 a1_1 a1_2 a3_0 a3_1 a3_2 a3_3 a3_4) else (modillionlaw07_ProgRanks.j0 k a2 true a0_0 l0_1 a1_0 a1_1 a1_2 a3_0 a3_1 a3_2 a3_3 a3_4))) = some r := h
  clear h
  have HC5 := Aside0.mk H
  clear H
  go_enter Try.func9, Try.ntmps9
  go_upto_region 1 with (first | ((with_reducible refine gate_dst (N := 4) rfl ?_); (try (refine gate_guard (by rfl) ?_; dsimp only)); refine box_event ?hg (N := 4) ?hd (cs := #[.int .i64 a0_0, .slice A0_1 l0_1.length c0_1]) (t := 24) ?hr ?_; (case hd => rfl); (case hg => rfl); (case hr => first | (go_simp; done) | (go_simp; rfl)); intro gb322 hg w6 hbox hb; have n0_ := Aside0.mk (below_step (by repeat (first | (with_reducible first | exact HB.out | apply below_alloc | apply pw_below_drewN | apply below_drew1) | exact HB.out)) hb); have n1_ := Aside0.mk (hbox); have n2_ := Aside0.mk ((by rw [hg]; exact (below_size (by repeat (first | (with_reducible first | exact HB.out | apply below_alloc | apply pw_below_drewN | apply below_drew1) | exact HB.out))) : w.heap.size ≤ gb322)); have n3_ := Aside0.mk ((by rw [hg]; exact (below_size (by repeat (first | (with_reducible first | exact HB.out | apply below_alloc | apply pw_below_drewN | apply below_drew1) | exact HB.out))) : w.heap.size ≤ gb322)); clear HB; have HB := n0_; have BK322 := n1_; have GW322 := n2_; have GE322 := n3_; clear n0_ n1_ n2_ n3_; clear hb hbox hg) | ((with_reducible refine gate_dst (N := 5) rfl ?_); (try (refine gate_guard (by rfl) ?_; dsimp only)); refine box_event ?hg (N := 5) ?hd (cs := #[.string a1_0, .int .i64 a1_1, .int .i64 a1_2]) (t := 26) ?hr ?_; (case hd => rfl); (case hg => rfl); (case hr => first | (go_simp; done) | (go_simp; rfl)); intro gb323 hg w7 hbox hb; have n0_ := Aside0.mk (blk_below (g := gb322) (o := .cells #[.int .i64 a0_0, .slice A0_1 l0_1.length c0_1] 24 (0, 0)) (by (with_reducible repeat (first | refine blk_drewN ?_ _ | refine blk_drew ?_ | refine blk_alloc ?_ _)); exact BK322.out) hb); have n1_ := Aside0.mk (below_step (by repeat (first | (with_reducible first | exact HB.out | apply below_alloc | apply pw_below_drewN | apply below_drew1 | refine below_set ?_ GE322.out) | exact HB.out)) hb); have n2_ := Aside0.mk (hbox); have n3_ := Aside0.mk ((by rw [hg]; exact (below_size (by repeat (first | (with_reducible first | exact HB.out | apply below_alloc | apply pw_below_drewN | apply below_drew1 | refine below_set ?_ GE322.out) | exact HB.out))) : w.heap.size ≤ gb323)); have n4_ := Aside0.mk ((by rw [hg]; exact (below_size (by repeat (first | (with_reducible first | exact HB.out | apply below_alloc | apply pw_below_drewN | apply below_drew1 | refine below_set ?_ GE322.out) | exact HB.out))) : w.heap.size ≤ gb323)); have n5_ := Aside0.mk ((by rw [hg]; exact Nat.ne_of_lt (blk_lt (g := gb322) (o := .cells #[.int .i64 a0_0, .slice A0_1 l0_1.length c0_1] 24 (0, 0)) (by (with_reducible repeat (first | refine blk_drewN ?_ _ | refine blk_drew ?_ | refine blk_alloc ?_ _)); exact BK322.out)) : gb322 ≠ gb323)); have n6_ := Aside0.mk ((by rw [hg]; exact Nat.ne_of_gt (blk_lt (g := gb322) (o := .cells #[.int .i64 a0_0, .slice A0_1 l0_1.length c0_1] 24 (0, 0)) (by (with_reducible repeat (first | refine blk_drewN ?_ _ | refine blk_drew ?_ | refine blk_alloc ?_ _)); exact BK322.out)) : gb323 ≠ gb322)); clear BK322; clear HB; have BK322 := n0_; have HB := n1_; have BK323 := n2_; have GW323 := n3_; have GE323 := n4_; have NB322_323 := n5_; have NB323_322 := n6_; clear n0_ n1_ n2_ n3_ n4_ n5_ n6_; clear hb hbox hg) | ((with_reducible refine gate_dst (N := 7) rfl ?_); (try (refine gate_guard (by rfl) ?_; dsimp only)); refine box_event ?hg (N := 7) ?hd (cs := #[.int .i64 a3_0, .int .i64 a3_1, .bool a3_2, .bool a3_3, .int .i64 a3_4]) (t := 28) ?hr ?_; (case hd => rfl); (case hg => rfl); (case hr => first | (go_simp; done) | (go_simp; rfl)); intro gb324 hg w8 hbox hb; have n0_ := Aside0.mk (blk_below (g := gb322) (o := .cells #[.int .i64 a0_0, .slice A0_1 l0_1.length c0_1] 24 (0, 0)) (by (with_reducible repeat (first | refine blk_drewN ?_ _ | refine blk_drew ?_ | refine blk_alloc ?_ _)); exact BK322.out) hb); have n1_ := Aside0.mk (blk_below (g := gb323) (o := .cells #[.string a1_0, .int .i64 a1_1, .int .i64 a1_2] 26 (0, 0)) (by (with_reducible repeat (first | refine blk_drewN ?_ _ | refine blk_drew ?_ | refine blk_alloc ?_ _)); exact BK323.out) hb); have n2_ := Aside0.mk (below_step (by repeat (first | (with_reducible first | exact HB.out | apply below_alloc | apply pw_below_drewN | apply below_drew1 | refine below_set ?_ GE322.out | refine below_set ?_ GE323.out) | exact HB.out)) hb); have n3_ := Aside0.mk (hbox); have n4_ := Aside0.mk ((by rw [hg]; exact (below_size (by repeat (first | (with_reducible first | exact HB.out | apply below_alloc | apply pw_below_drewN | apply below_drew1 | refine below_set ?_ GE322.out | refine below_set ?_ GE323.out) | exact HB.out))) : w.heap.size ≤ gb324)); have n5_ := Aside0.mk ((by rw [hg]; exact (below_size (by repeat (first | (with_reducible first | exact HB.out | apply below_alloc | apply pw_below_drewN | apply below_drew1 | refine below_set ?_ GE322.out | refine below_set ?_ GE323.out) | exact HB.out))) : w.heap.size ≤ gb324)); have n6_ := Aside0.mk ((by rw [hg]; exact Nat.ne_of_lt (blk_lt (g := gb322) (o := .cells #[.int .i64 a0_0, .slice A0_1 l0_1.length c0_1] 24 (0, 0)) (by (with_reducible repeat (first | refine blk_drewN ?_ _ | refine blk_drew ?_ | refine blk_alloc ?_ _)); exact BK322.out)) : gb322 ≠ gb324)); have n7_ := Aside0.mk ((by rw [hg]; exact Nat.ne_of_gt (blk_lt (g := gb322) (o := .cells #[.int .i64 a0_0, .slice A0_1 l0_1.length c0_1] 24 (0, 0)) (by (with_reducible repeat (first | refine blk_drewN ?_ _ | refine blk_drew ?_ | refine blk_alloc ?_ _)); exact BK322.out)) : gb324 ≠ gb322)); have n8_ := Aside0.mk ((by rw [hg]; exact Nat.ne_of_lt (blk_lt (g := gb323) (o := .cells #[.string a1_0, .int .i64 a1_1, .int .i64 a1_2] 26 (0, 0)) (by (with_reducible repeat (first | refine blk_drewN ?_ _ | refine blk_drew ?_ | refine blk_alloc ?_ _)); exact BK323.out)) : gb323 ≠ gb324)); have n9_ := Aside0.mk ((by rw [hg]; exact Nat.ne_of_gt (blk_lt (g := gb323) (o := .cells #[.string a1_0, .int .i64 a1_1, .int .i64 a1_2] 26 (0, 0)) (by (with_reducible repeat (first | refine blk_drewN ?_ _ | refine blk_drew ?_ | refine blk_alloc ?_ _)); exact BK323.out)) : gb324 ≠ gb323)); clear BK322; clear BK323; clear HB; have BK322 := n0_; have BK323 := n1_; have HB := n2_; have BK324 := n3_; have GW324 := n4_; have GE324 := n5_; have NB322_324 := n6_; have NB324_322 := n7_; have NB323_324 := n8_; have NB324_323 := n9_; clear n0_ n1_ n2_ n3_ n4_ n5_ n6_ n7_ n8_ n9_; clear hb hbox hg))
  (try simp only [Act.put, List.setIfInBounds_toArray, List.set_cons_zero, List.set_cons_succ])
  go_cut [19] (fun v19 wc => ∃ (kq : Nat) (x19_4 : Bool), v19 = .bool x19_4 ∧ Aside0 (modillionlaw07_ProgRanks.j0 kq a2 x19_4 a0_0 l0_1 a1_0 a1_1 a1_2 a3_0 a3_1 a3_2 a3_3 a3_4 = some r) ∧ Aside0 (kq ≤ k) ∧ Aside0 (wc.heap[gb322]? = some (.cells #[.int .i64 a0_0, (.slice A0_1 l0_1.length c0_1)] 24 (0, 0))) ∧ Aside0 (wc.heap[gb323]? = some (.cells #[.string a1_0, .int .i64 a1_1, .int .i64 a1_2] 26 (0, 0))) ∧ Aside0 (wc.heap[gb324]? = some (.cells #[.int .i64 a3_0, .int .i64 a3_1, .bool a3_2, .bool a3_3, .int .i64 a3_4] 28 (0, 0))) ∧ Aside0 (Below w.heap.size w wc))
  case first =>
    have H := HC5.out
    clear HC5
    replace H := Option.bind_eq_some_iff.mp H
    obtain ⟨t325, A90, H⟩ := H
    replace H : (if t325 = true then (modillionlaw07_ProgRanks.j0 k a2 (decide ((l0_1.length : Int) > 100)) a0_0 l0_1 a1_0 a1_1 a1_2 a3_0 a3_1 a3_2 a3_3 a3_4) else (modillionlaw07_ProgRanks.j0 k a2 true a0_0 l0_1 a1_0 a1_1 a1_2 a3_0 a3_1 a3_2 a3_3 a3_4)) = some r := H
    have A9 := Aside0.mk A90
    clear A90
    by_cases c10 : t325 = true
    · subst c10
      have H1 : (modillionlaw07_ProgRanks.j0 k a2 (decide ((l0_1.length : Int) > 100)) a0_0 l0_1 a1_0 a1_1 a1_2 a3_0 a3_1 a3_2 a3_3 a3_4) = some r := by rw [if_pos rfl] at H; exact H
      clear H
      have H := H1
      clear H1
      have H' := Aside0.mk H
      clear H
      go_wp2_with (first | ((with_reducible refine gate_callee (f := 10) rfl ?_); refine goesL_ (some 12) rfl rfl Try.func10 (by kernel_rfl) rfl #[] rfl (by (try simp only [List.map_toArray, List.map_cons, List.map_nil]); first | done | rfl | (simp only [List.length_drop, List.length_take]; rfl)) ?_; (with_reducible refine (modillionlaw07_awake.calls k  true _ A9.out).mono ?_); rintro e w11 ⟨rfl, hb⟩; refine ⟨_, rfl, ?_⟩; have n0_ := Aside0.mk (blk_below (g := gb322) (o := .cells #[.int .i64 a0_0, .slice A0_1 l0_1.length c0_1] 24 (0, 0)) (by (with_reducible repeat (first | refine blk_drewN ?_ _ | refine blk_drew ?_ | refine blk_alloc ?_ _)); exact BK322.out) hb); have n1_ := Aside0.mk (blk_below (g := gb323) (o := .cells #[.string a1_0, .int .i64 a1_1, .int .i64 a1_2] 26 (0, 0)) (by (with_reducible repeat (first | refine blk_drewN ?_ _ | refine blk_drew ?_ | refine blk_alloc ?_ _)); exact BK323.out) hb); have n2_ := Aside0.mk (blk_below (g := gb324) (o := .cells #[.int .i64 a3_0, .int .i64 a3_1, .bool a3_2, .bool a3_3, .int .i64 a3_4] 28 (0, 0)) (by (with_reducible repeat (first | refine blk_drewN ?_ _ | refine blk_drew ?_ | refine blk_alloc ?_ _)); exact BK324.out) hb); have n3_ := Aside0.mk (below_step (by repeat (first | (with_reducible first | exact HB.out | apply below_alloc | apply pw_below_drewN | apply below_drew1 | refine below_set ?_ GE322.out | refine below_set ?_ GE323.out | refine below_set ?_ GE324.out) | exact HB.out)) hb); clear BK322; clear BK323; clear BK324; clear HB; have BK322 := n0_; have BK323 := n1_; have BK324 := n2_; have HB := n3_; clear n0_ n1_ n2_ n3_; (try clear hb); (try clear hb2); (try clear hk); (try clear hi); have hnb12 := NB322_323.out; have hnc12 := NB323_322.out; have hnb13 := NB322_324.out; have hnc13 := NB324_322.out; have hcz14_0 : w11.cell? ⟨gb322, 0, none⟩ = some (.int .i64 a0_0) := (blk_cell BK322.out 0).trans rfl; have hcz14_1 : w11.cell? ⟨gb322, 1, none⟩ = some (.slice A0_1 l0_1.length c0_1) := (blk_cell BK322.out 1).trans rfl; have hfz14_0 := blk_frozen BK322.out 0; have hfz14_1 := blk_frozen BK322.out 1))
      go_meet
      case rel => exact ⟨_, (decide ((l0_1.length : Int) > 100)), (by first | rfl | (simp; done) | (simp [*]; done)), H', ⟨by first | omega | exact Nat.le_refl _⟩, ⟨by (with_reducible repeat (first | refine blk_drewN ?_ _ | refine blk_drew ?_ | refine blk_alloc ?_ _)); exact BK322.out⟩, ⟨by (with_reducible repeat (first | refine blk_drewN ?_ _ | refine blk_drew ?_ | refine blk_alloc ?_ _)); exact BK323.out⟩, ⟨by (with_reducible repeat (first | refine blk_drewN ?_ _ | refine blk_drew ?_ | refine blk_alloc ?_ _)); exact BK324.out⟩, ⟨by repeat (first | (with_reducible first | exact HB.out | apply below_alloc | apply pw_below_drewN | apply below_drew1 | refine below_set ?_ GE322.out | refine below_set ?_ GE323.out | refine below_set ?_ GE324.out) | exact HB.out)⟩⟩
    · replace c10 := Bool.eq_false_iff.mpr c10
      subst c10
      have H1 : (modillionlaw07_ProgRanks.j0 k a2 true a0_0 l0_1 a1_0 a1_1 a1_2 a3_0 a3_1 a3_2 a3_3 a3_4) = some r := by rw [if_neg (show ¬ (false = true) by decide)] at H; exact H
      clear H
      have H := H1
      clear H1
      have H' := Aside0.mk H
      clear H
      go_wp2_with (first | ((with_reducible refine gate_callee (f := 10) rfl ?_); refine goesL_ (some 12) rfl rfl Try.func10 (by kernel_rfl) rfl #[] rfl (by (try simp only [List.map_toArray, List.map_cons, List.map_nil]); first | done | rfl | (simp only [List.length_drop, List.length_take]; rfl)) ?_; (with_reducible refine (modillionlaw07_awake.calls k  false _ A9.out).mono ?_); rintro e w15 ⟨rfl, hb⟩; refine ⟨_, rfl, ?_⟩; have n0_ := Aside0.mk (blk_below (g := gb322) (o := .cells #[.int .i64 a0_0, .slice A0_1 l0_1.length c0_1] 24 (0, 0)) (by (with_reducible repeat (first | refine blk_drewN ?_ _ | refine blk_drew ?_ | refine blk_alloc ?_ _)); exact BK322.out) hb); have n1_ := Aside0.mk (blk_below (g := gb323) (o := .cells #[.string a1_0, .int .i64 a1_1, .int .i64 a1_2] 26 (0, 0)) (by (with_reducible repeat (first | refine blk_drewN ?_ _ | refine blk_drew ?_ | refine blk_alloc ?_ _)); exact BK323.out) hb); have n2_ := Aside0.mk (blk_below (g := gb324) (o := .cells #[.int .i64 a3_0, .int .i64 a3_1, .bool a3_2, .bool a3_3, .int .i64 a3_4] 28 (0, 0)) (by (with_reducible repeat (first | refine blk_drewN ?_ _ | refine blk_drew ?_ | refine blk_alloc ?_ _)); exact BK324.out) hb); have n3_ := Aside0.mk (below_step (by repeat (first | (with_reducible first | exact HB.out | apply below_alloc | apply pw_below_drewN | apply below_drew1 | refine below_set ?_ GE322.out | refine below_set ?_ GE323.out | refine below_set ?_ GE324.out) | exact HB.out)) hb); clear BK322; clear BK323; clear BK324; clear HB; have BK322 := n0_; have BK323 := n1_; have BK324 := n2_; have HB := n3_; clear n0_ n1_ n2_ n3_; (try clear hb); (try clear hb2); (try clear hk); (try clear hi)))
      go_meet
      case rel => exact ⟨_, (true), (by first | rfl | (simp; done) | (simp [*]; done)), H', ⟨by first | omega | exact Nat.le_refl _⟩, ⟨by (with_reducible repeat (first | refine blk_drewN ?_ _ | refine blk_drew ?_ | refine blk_alloc ?_ _)); exact BK322.out⟩, ⟨by (with_reducible repeat (first | refine blk_drewN ?_ _ | refine blk_drew ?_ | refine blk_alloc ?_ _)); exact BK323.out⟩, ⟨by (with_reducible repeat (first | refine blk_drewN ?_ _ | refine blk_drew ?_ | refine blk_alloc ?_ _)); exact BK324.out⟩, ⟨by repeat (first | (with_reducible first | exact HB.out | apply below_alloc | apply pw_below_drewN | apply below_drew1 | refine below_set ?_ GE322.out | refine below_set ?_ GE323.out | refine below_set ?_ GE324.out) | exact HB.out)⟩⟩
  case rest =>
    clear HC5
    try clear c1
    try clear p2
    try clear c9
    try clear c10
    try clear c12
    try clear c13
    try clear hcz14_0
    try clear hcz14_1
    try clear hfz14_0
    try clear hfz14_1
    obtain ⟨kq, x19_4, rfl, HA, HJ4, BK322, BK323, BK324, HB⟩ := hcut
    cases kq with
    | zero => exact absurd HA.out (by simp [modillionlaw07_ProgRanks.j0])
    | succ kj4 =>
      have H := HA.out
      clear HA
      simp only [modillionlaw07_ProgRanks.j0] at H
      by_cases c16 : x19_4 = true
      · subst c16
        have H1 : ((modillionlaw07_awake.f kj4).bind fun t326 => (some t326)) = some r := by rw [if_pos rfl] at H; exact H
        clear H
        have H := H1
        clear H1
        replace H := Option.bind_eq_some_iff.mp H
        obtain ⟨t326, A170, H⟩ := H
        replace H : (some t326) = some r := H
        have A17 := Aside0.mk A170
        clear A170
        obtain rfl := Option.some.inj H
        go_wp2_with (first | ((with_reducible refine gate_callee (f := 10) rfl ?_); refine goesL_ (some 20) rfl rfl Try.func10 (by kernel_rfl) rfl #[] rfl (by (try simp only [List.map_toArray, List.map_cons, List.map_nil]); first | done | rfl | (simp only [List.length_drop, List.length_take]; rfl)) ?_; (with_reducible refine (modillionlaw07_awake.calls kj4  t326 _ A17.out).mono ?_); rintro e w18 ⟨rfl, hb⟩; refine ⟨_, rfl, ?_⟩; have n0_ := Aside0.mk (blk_below (g := gb322) (o := .cells #[.int .i64 a0_0, .slice A0_1 l0_1.length c0_1] 24 (0, 0)) (by (with_reducible repeat (first | refine blk_drewN ?_ _ | refine blk_drew ?_ | refine blk_alloc ?_ _)); exact BK322.out) hb); have n1_ := Aside0.mk (blk_below (g := gb323) (o := .cells #[.string a1_0, .int .i64 a1_1, .int .i64 a1_2] 26 (0, 0)) (by (with_reducible repeat (first | refine blk_drewN ?_ _ | refine blk_drew ?_ | refine blk_alloc ?_ _)); exact BK323.out) hb); have n2_ := Aside0.mk (blk_below (g := gb324) (o := .cells #[.int .i64 a3_0, .int .i64 a3_1, .bool a3_2, .bool a3_3, .int .i64 a3_4] 28 (0, 0)) (by (with_reducible repeat (first | refine blk_drewN ?_ _ | refine blk_drew ?_ | refine blk_alloc ?_ _)); exact BK324.out) hb); have n3_ := Aside0.mk (below_step (by repeat (first | (with_reducible first | exact HB.out | apply below_alloc | apply pw_below_drewN | apply below_drew1 | refine below_set ?_ GE322.out | refine below_set ?_ GE323.out | refine below_set ?_ GE324.out) | exact HB.out)) hb); clear BK322; clear BK323; clear BK324; clear HB; have BK322 := n0_; have BK323 := n1_; have BK324 := n2_; have HB := n3_; clear n0_ n1_ n2_ n3_; (try clear hb); (try clear hb2); (try clear hk); (try clear hi)))
        go_ret
        exact ⟨by first | rfl | (simp [errW_none, errW_some] <;> rfl) | (simp [*, errW_none, errW_some] <;> rfl), by repeat (first | (with_reducible first | exact HB.out | apply below_alloc | apply pw_below_drewN | apply below_drew1 | refine below_set ?_ GE322.out | refine below_set ?_ GE323.out | refine below_set ?_ GE324.out) | exact HB.out)⟩
      · replace c16 := Bool.eq_false_iff.mpr c16
        subst c16
        have H1 : ((modillionlaw07_own.f a0_0 l0_1).bind fun bt327 => ((prog_Step.f bt327.1 bt327.2 (⟨#[114, 97, 110, 107]⟩ : ByteArray) a1_1 a1_2 a2 a3_0 a3_1 a3_2 a3_3 a3_4).bind fun bt331 => (if bt331.2.2.2.2.2.2 = 0 then (if a3_2 = true then (if (bt331.2.2.1 == (decide (a2 < (wrap64 (a1_2 - 1))))) = true then (if bt331.2.2.1 = true then (if a2 > 0 then (some true) else (some (bt331.2.1 == a3_1))) else (if (bt331.2.2.2.2.2.1.length : Int) = 0 then (if a2 > 0 then (some true) else (some (bt331.2.1 == a3_1))) else (some false))) else (some false)) else (if a3_3 = true then (if (bt331.2.2.1 == (decide (a2 < (wrap64 (a1_2 - 1))))) = true then (if bt331.2.2.1 = true then (if a2 > 0 then (some true) else (some (bt331.2.1 == a3_1))) else (if (bt331.2.2.2.2.2.1.length : Int) = 0 then (if a2 > 0 then (some true) else (some (bt331.2.1 == a3_1))) else (some false))) else (some false)) else (some ((bt331.2.2.2.2.2.1.length : Int) == 0)))) else (some ((bt331.2.2.2.2.2.1.length : Int) == 0))))) = some r := by rw [if_neg (show ¬ (false = true) by decide)] at H; exact H
        clear H
        have H := H1
        clear H1
        replace H := Option.bind_eq_some_iff.mp H
        obtain ⟨⟨t327, t328⟩, A190, H⟩ := H
        replace H : ((prog_Step.f t327 t328 (⟨#[114, 97, 110, 107]⟩ : ByteArray) a1_1 a1_2 a2 a3_0 a3_1 a3_2 a3_3 a3_4).bind fun bt331 => (if bt331.2.2.2.2.2.2 = 0 then (if a3_2 = true then (if (bt331.2.2.1 == (decide (a2 < (wrap64 (a1_2 - 1))))) = true then (if bt331.2.2.1 = true then (if a2 > 0 then (some true) else (some (bt331.2.1 == a3_1))) else (if (bt331.2.2.2.2.2.1.length : Int) = 0 then (if a2 > 0 then (some true) else (some (bt331.2.1 == a3_1))) else (some false))) else (some false)) else (if a3_3 = true then (if (bt331.2.2.1 == (decide (a2 < (wrap64 (a1_2 - 1))))) = true then (if bt331.2.2.1 = true then (if a2 > 0 then (some true) else (some (bt331.2.1 == a3_1))) else (if (bt331.2.2.2.2.2.1.length : Int) = 0 then (if a2 > 0 then (some true) else (some (bt331.2.1 == a3_1))) else (some false))) else (some false)) else (some ((bt331.2.2.2.2.2.1.length : Int) == 0)))) else (some ((bt331.2.2.2.2.2.1.length : Int) == 0)))) = some r := H
        have A19 := Aside0.mk A190
        clear A190
        replace H := Option.bind_eq_some_iff.mp H
        obtain ⟨⟨t331, t332, t333, t334, t335, t336, t339⟩, A200, H⟩ := H
        replace H : (if t339 = 0 then (if a3_2 = true then (if (t333 == (decide (a2 < (wrap64 (a1_2 - 1))))) = true then (if t333 = true then (if a2 > 0 then (some true) else (some (t332 == a3_1))) else (if (t336.length : Int) = 0 then (if a2 > 0 then (some true) else (some (t332 == a3_1))) else (some false))) else (some false)) else (if a3_3 = true then (if (t333 == (decide (a2 < (wrap64 (a1_2 - 1))))) = true then (if t333 = true then (if a2 > 0 then (some true) else (some (t332 == a3_1))) else (if (t336.length : Int) = 0 then (if a2 > 0 then (some true) else (some (t332 == a3_1))) else (some false))) else (some false)) else (some ((t336.length : Int) == 0)))) else (some ((t336.length : Int) == 0))) = some r := H
        have A20 := Aside0.mk A200
        clear A200
        have HH_ := Aside0.mk H
        clear H
        have hnb26 := NB323_322.out
        have hnc26 := NB322_323.out
        have hnb27 := NB323_324.out
        have hnc27 := NB324_323.out
        have hcz28_0 : wc.cell? ⟨gb323, 0, none⟩ = some (.string a1_0) := (blk_cell BK323.out 0).trans rfl
        have hcz28_1 : wc.cell? ⟨gb323, 1, none⟩ = some (.int .i64 a1_1) := (blk_cell BK323.out 1).trans rfl
        have hcz28_2 : wc.cell? ⟨gb323, 2, none⟩ = some (.int .i64 a1_2) := (blk_cell BK323.out 2).trans rfl
        have hfz28_0 := blk_frozen BK323.out 0
        have hfz28_1 := blk_frozen BK323.out 1
        have hfz28_2 := blk_frozen BK323.out 2
        try go_wp2
        have n0_ : Aside0 ((wc.setCell ⟨gb323, 0, none⟩ (.string (⟨#[114, 97, 110, 107]⟩ : ByteArray))).heap[gb322]? = some (.cells #[.int .i64 a0_0, .slice A0_1 l0_1.length c0_1] 24 (0, 0))) := ⟨by (with_reducible repeat (first | refine blk_drewN ?_ _ | refine blk_drew ?_ | refine blk_alloc ?_ _)); refine blk_far ?_ NB322_323.out _; (with_reducible repeat (first | refine blk_drewN ?_ _ | refine blk_drew ?_ | refine blk_alloc ?_ _)); exact BK322.out⟩
        have n1_ : Aside0 ((wc.setCell ⟨gb323, 0, none⟩ (.string (⟨#[114, 97, 110, 107]⟩ : ByteArray))).heap[gb323]? = some (.cells #[.string (⟨#[114, 97, 110, 107]⟩ : ByteArray), .int .i64 a1_1, .int .i64 a1_2] 26 (0, 0))) := ⟨by (with_reducible repeat (first | refine blk_drewN ?_ _ | refine blk_drew ?_ | refine blk_alloc ?_ _)); refine blk_put (cs := #[.string a1_0, .int .i64 a1_1, .int .i64 a1_2]) ?_ 0 _ rfl; (with_reducible repeat (first | refine blk_drewN ?_ _ | refine blk_drew ?_ | refine blk_alloc ?_ _)); exact BK323.out⟩
        have n2_ : Aside0 ((wc.setCell ⟨gb323, 0, none⟩ (.string (⟨#[114, 97, 110, 107]⟩ : ByteArray))).heap[gb324]? = some (.cells #[.int .i64 a3_0, .int .i64 a3_1, .bool a3_2, .bool a3_3, .int .i64 a3_4] 28 (0, 0))) := ⟨by (with_reducible repeat (first | refine blk_drewN ?_ _ | refine blk_drew ?_ | refine blk_alloc ?_ _)); refine blk_far ?_ NB324_323.out _; (with_reducible repeat (first | refine blk_drewN ?_ _ | refine blk_drew ?_ | refine blk_alloc ?_ _)); exact BK324.out⟩
        have n3_ : Aside0 (Below w.heap.size w (wc.setCell ⟨gb323, 0, none⟩ (.string (⟨#[114, 97, 110, 107]⟩ : ByteArray)))) := ⟨by repeat (first | (with_reducible first | exact HB.out | apply below_alloc | apply pw_below_drewN | apply below_drew1 | refine below_set ?_ GE322.out | refine below_set ?_ GE323.out | refine below_set ?_ GE324.out) | exact HB.out)⟩
        (try clear BK322)
        (try clear BK323)
        (try clear BK324)
        (try clear HB)
        generalize (wc.setCell ⟨gb323, 0, none⟩ (.string (⟨#[114, 97, 110, 107]⟩ : ByteArray))) = w29 at n0_ n1_ n2_ n3_ ⊢
        have BK322 := n0_
        have BK323 := n1_
        have BK324 := n2_
        have HB := n3_
        clear n0_ n1_ n2_ n3_
        have n0_ := Aside0.mk (blk_drew BK322.out)
        have n1_ := Aside0.mk (blk_drew BK323.out)
        have n2_ := Aside0.mk (blk_drew BK324.out)
        have n3_ := Aside0.mk (below_drew1 HB.out)
        clear BK322
        clear BK323
        clear BK324
        clear HB
        have BK322 := n0_
        have BK323 := n1_
        have BK324 := n2_
        have HB := n3_
        clear n0_ n1_ n2_ n3_
        refine start_ (n := 14) (S := fun w' => w'.cell? ⟨gb322, 0, none⟩ = some (.int .i64 a0_0) ∧ w'.cell? ⟨gb322, 1, none⟩ = some (.slice A0_1 l0_1.length c0_1) ∧ w'.cell? ⟨gb323, 0, none⟩ = some (.string (⟨#[114, 97, 110, 107]⟩ : ByteArray)) ∧ w'.cell? ⟨gb323, 1, none⟩ = some (.int .i64 a1_1) ∧ w'.cell? ⟨gb323, 2, none⟩ = some (.int .i64 a1_2) ∧ w'.cell? ⟨gb324, 0, none⟩ = some (.int .i64 a3_0) ∧ w'.cell? ⟨gb324, 1, none⟩ = some (.int .i64 a3_1) ∧ w'.cell? ⟨gb324, 2, none⟩ = some (.bool a3_2) ∧ w'.cell? ⟨gb324, 3, none⟩ = some (.bool a3_3) ∧ w'.cell? ⟨gb324, 4, none⟩ = some (.int .i64 a3_4)) (ds := []) #[false, false, false, false, false, false, false, false, false, false, false, false, false, false] (by kernel_rfl) rfl rfl ⟨(blk_cell BK322.out 0).trans rfl, (blk_cell BK322.out 1).trans rfl, (blk_cell BK323.out 0).trans rfl, (blk_cell BK323.out 1).trans rfl, (blk_cell BK323.out 2).trans rfl, (blk_cell BK324.out 0).trans rfl, (blk_cell BK324.out 1).trans rfl, (blk_cell BK324.out 2).trans rfl, (blk_cell BK324.out 3).trans rfl, (blk_cell BK324.out 4).trans rfl⟩ (fun hHeld => ?_); refine with_tabW modillionlaw07_ProgRanks.tab4 modillionlaw07_ProgRanks.bits4 (fun HT_ HW_ => ?_)
        generalize w29.drew = w30 at BK322 BK323 BK324 HB hHeld ⊢
        refine pure_ (i := 3) (N := some 26) (v := ?_) (a' := ?_) #[false, false, false, true, false, false, false, false, false, false, false, false, false, false] rfl rfl (any_of HT_.out (by kernel_rfl)) (fun _ _ _ h => h) (Or.inl ⟨by rfl, ?_⟩) ?_ ?_
        rotate_left
        · intro w'
          go_simp
          with_reducible rfl
        rotate_left
        · simp only [Act.put, List.setIfInBounds_toArray, List.set_cons_zero, List.set_cons_succ, i64_w, i32_w]
          rfl
        refine take_ (i := 0) (N := some 23) (v := ?_) (a' := ?_) #[true, false, false, true, false, false, false, false, false, false, false, false, false, false] rfl rfl (take_ofW HT_.out HW_.out (by kernel_rfl)) (fun _ _ _ h => h) (Or.inl ⟨by rfl, ?_⟩) hHeld ?_ ?_
        rotate_left
        · rintro w' ⟨s0, s1, s2, s3, s4, s5, s6, s7, s8, s9⟩
          go_simp
          with_reducible rfl
        rotate_left
        · simp only [Act.put, List.setIfInBounds_toArray, List.set_cons_zero, List.set_cons_succ, i64_w, i32_w]
          rfl
        refine take_ (i := 2) (N := some 25) (v := ?_) (a' := ?_) #[true, false, true, true, false, false, false, false, false, false, false, false, false, false] rfl rfl (take_ofW HT_.out HW_.out (by kernel_rfl)) (fun _ _ _ h => h) (Or.inl ⟨by rfl, ?_⟩) hHeld ?_ ?_
        rotate_left
        · rintro w' ⟨s0, s1, s2, s3, s4, s5, s6, s7, s8, s9⟩
          go_simp
          with_reducible rfl
        rotate_left
        · simp only [Act.put, List.setIfInBounds_toArray, List.set_cons_zero, List.set_cons_succ, i64_w, i32_w]
          rfl
        refine take_ (i := 4) (N := some 27) (v := ?_) (a' := ?_) #[true, false, true, true, true, false, false, false, false, false, false, false, false, false] rfl rfl (take_ofW HT_.out HW_.out (by kernel_rfl)) (fun _ _ _ h => h) (Or.inl ⟨by rfl, ?_⟩) hHeld ?_ ?_
        rotate_left
        · rintro w' ⟨s0, s1, s2, s3, s4, s5, s6, s7, s8, s9⟩
          go_simp
          with_reducible rfl
        rotate_left
        · simp only [Act.put, List.setIfInBounds_toArray, List.set_cons_zero, List.set_cons_succ, i64_w, i32_w]
          rfl
        refine join_ (σ := Value × Value × Nat) 3 #[true, true, true, true, true, true, true, true, true, true, true, false, false, false] (fun s_ => [(24, .agg #[.int .i64 t327, s_.1]), (28, .tuple #[.agg #[.int .i64 t331, .int .i64 t332, .bool t333, .bool t334, .int .i64 t335], s_.2.1, .int .i64 t339]), (9, .pointer (some ⟨s_.2.2, 0, none⟩)), (22, .tuple #[.agg #[.int .i64 t331, .int .i64 t332, .bool t333, .bool t334, .int .i64 t335], s_.2.1, .int .i64 t339]), (29, .agg #[.int .i64 t331, .int .i64 t332, .bool t333, .bool t334, .int .i64 t335]), (30, s_.2.1), (31, .int .i64 t339)]) (fun s_ w' => (w'.cell? ⟨gb322, 0, none⟩ = some (.int .i64 a0_0) ∧ w'.cell? ⟨gb322, 1, none⟩ = some (.slice A0_1 l0_1.length c0_1) ∧ w'.cell? ⟨gb323, 0, none⟩ = some (.string (⟨#[114, 97, 110, 107]⟩ : ByteArray)) ∧ w'.cell? ⟨gb323, 1, none⟩ = some (.int .i64 a1_1) ∧ w'.cell? ⟨gb323, 2, none⟩ = some (.int .i64 a1_2) ∧ w'.cell? ⟨gb324, 0, none⟩ = some (.int .i64 a3_0) ∧ w'.cell? ⟨gb324, 1, none⟩ = some (.int .i64 a3_1) ∧ w'.cell? ⟨gb324, 2, none⟩ = some (.bool a3_2) ∧ w'.cell? ⟨gb324, 3, none⟩ = some (.bool a3_3) ∧ w'.cell? ⟨gb324, 4, none⟩ = some (.int .i64 a3_4)) ∧ (Kd.R k46 46 w' w.heap.size (fun _ => True) s_.1 t328) ∧ (Kd.R k48 48 w' w.heap.size (fun _ => True) s_.2.1 t336) ∧ (w'.heap[gb322]? = some (.cells #[.int .i64 a0_0, .slice A0_1 l0_1.length c0_1] 24 (0, 0))) ∧ (w'.heap[gb323]? = some (.cells #[.string (⟨#[114, 97, 110, 107]⟩ : ByteArray), .int .i64 a1_1, .int .i64 a1_2] 26 (0, 0))) ∧ (w'.heap[gb324]? = some (.cells #[.int .i64 a3_0, .int .i64 a3_1, .bool a3_2, .bool a3_3, .int .i64 a3_4] 28 (0, 0))) ∧ (w'.heap[s_.2.2]? = some (.cells #[.int .i64 0, .int .i64 0, .bool false, .bool false, .int .i64 0] 28 (0, 0))) ∧ (w.heap.size ≤ s_.2.2) ∧ (w.heap.size ≤ s_.2.2) ∧ (gb322 ≠ s_.2.2) ∧ (s_.2.2 ≠ gb322) ∧ (gb323 ≠ s_.2.2) ∧ (s_.2.2 ≠ gb323) ∧ (gb324 ≠ s_.2.2) ∧ (s_.2.2 ≠ gb324) ∧ (Below w.heap.size w w')) ?_ ?_
        rotate_left
        · intro hCont
          refine two_ (i := 1) (j := 10) (Ni := some 24) (Nj := some 9) #[true, true, true, true, true, false, false, false, false, false, false, false, false, false] #[true, false, true, true, true, false, false, false, false, false, true, false, false, false] rfl rfl rfl rfl (two_of HT_.out (by kernel_rfl)) (by decide) (by decide) (fun K hK => ?_) (fun K hK => ?_)
          · skip
            refine goes_ Try.func13 (by kernel_rfl) rfl #[.agg #[.int .i64 a0_0, .slice A0_1 l0_1.length c0_1]] (by rfl) rfl rfl (by (try simp only [List.map_toArray, List.map_cons, List.map_nil]); first | done | rfl | (simp only [List.length_drop, List.length_take]; rfl)) ?_
            with_reducible refine (modillionlaw07_own.calls a0_0 _ _ l0_1 t327 t328 _ ?side1 ?side2 A19.out).mono ?_
            (case side1 => repeat (first | exact (Kd.C_below HR0_1.out HB.out) | (with_reducible refine Kd.C_alloc ?_ _) | (with_reducible refine Kd.C_drewN ?_ _) | (with_reducible refine Kd.C_drew ?_)))
            (case side2 => exact HC0_1.out)
            rintro e w31 ⟨v329, rfl, ho0, hb⟩
            refine ⟨_, rfl, ?_⟩
            have n0_ := Aside0.mk (Kd.R_lower ho0 (below_size (by repeat (first | (with_reducible first | exact HB.out | apply below_alloc | apply pw_below_drewN | apply below_drew1 | refine below_set ?_ GE322.out | refine below_set ?_ GE323.out | refine below_set ?_ GE324.out) | exact HB.out))))
            have n1_ := Aside0.mk (blk_below (g := gb322) (o := .cells #[.int .i64 a0_0, .slice A0_1 l0_1.length c0_1] 24 (0, 0)) (by (with_reducible repeat (first | refine blk_drewN ?_ _ | refine blk_drew ?_ | refine blk_alloc ?_ _)); exact BK322.out) hb)
            have n2_ := Aside0.mk (blk_below (g := gb323) (o := .cells #[.string (⟨#[114, 97, 110, 107]⟩ : ByteArray), .int .i64 a1_1, .int .i64 a1_2] 26 (0, 0)) (by (with_reducible repeat (first | refine blk_drewN ?_ _ | refine blk_drew ?_ | refine blk_alloc ?_ _)); exact BK323.out) hb)
            have n3_ := Aside0.mk (blk_below (g := gb324) (o := .cells #[.int .i64 a3_0, .int .i64 a3_1, .bool a3_2, .bool a3_3, .int .i64 a3_4] 28 (0, 0)) (by (with_reducible repeat (first | refine blk_drewN ?_ _ | refine blk_drew ?_ | refine blk_alloc ?_ _)); exact BK324.out) hb)
            have n4_ := Aside0.mk (below_step (by repeat (first | (with_reducible first | exact HB.out | apply below_alloc | apply pw_below_drewN | apply below_drew1 | refine below_set ?_ GE322.out | refine below_set ?_ GE323.out | refine below_set ?_ GE324.out) | exact HB.out)) hb)
            clear BK322
            clear BK323
            clear BK324
            clear HB
            have HO330 := n0_
            have BK322 := n1_
            have BK323 := n2_
            have BK324 := n3_
            have HB := n4_
            clear n0_ n1_ n2_ n3_ n4_
            (try clear hb)
            (try clear hb2)
            (try clear hk)
            (try clear hi)
            (try clear ho0)
            obtain ⟨Ao32, co32, eo32⟩ := Kd.R_slice HO330.out
            (first | subst eo32 | (injection eo32 with f1_ f2_ f3_; have f4_ := f1_.symm; have f5_ := f3_.symm; clear f1_ f2_ f3_; subst f4_; subst f5_))
            refine hK.out _ _ ⟨(blk_cell BK322.out 0).trans rfl, (blk_cell BK322.out 1).trans rfl, (blk_cell BK323.out 0).trans rfl, (blk_cell BK323.out 1).trans rfl, (blk_cell BK323.out 2).trans rfl, (blk_cell BK324.out 0).trans rfl, (blk_cell BK324.out 1).trans rfl, (blk_cell BK324.out 2).trans rfl, (blk_cell BK324.out 3).trans rfl, (blk_cell BK324.out 4).trans rfl⟩ (fun hHeld => ?_)
            clear hK K
            refine norm_ (a' := ?_) ?_ ?_
            rotate_left
            · show Act.put _ (some 24) _ = _
              simp only [Act.put, List.setIfInBounds_toArray, List.set_cons_zero, List.set_cons_succ, i64_w, i32_w]
              rfl
            refine two_ (i := 5) (j := 10) (Ni := some 28) (Nj := some 9) #[true, true, true, true, true, true, false, false, false, false, false, false, false, false] #[true, true, true, true, true, false, false, false, false, false, true, false, false, false] rfl rfl rfl rfl (two_of HT_.out (by kernel_rfl)) (by decide) (by decide) (fun K hK => ?_) (fun K hK => ?_)
            · skip
              refine goes_ Try.func12 (by kernel_rfl) rfl #[.agg #[.int .i64 t327, .slice Ao32 t328.length co32], .agg #[.string (⟨#[114, 97, 110, 107]⟩ : ByteArray), .int .i64 a1_1, .int .i64 a1_2], .int .i64 a2, .agg #[.int .i64 a3_0, .int .i64 a3_1, .bool a3_2, .bool a3_3, .int .i64 a3_4]] (by rfl) rfl rfl (by (try simp only [List.map_toArray, List.map_cons, List.map_nil]); first | done | rfl | (simp only [List.length_drop, List.length_take]; rfl)) ?_
              with_reducible refine (prog_Step.calls t327 _ _ t328 (⟨#[114, 97, 110, 107]⟩ : ByteArray) a1_1 a1_2 a2 a3_0 a3_1 a3_2 a3_3 a3_4 t331 t332 t333 t334 t335 t336 t339 _ ?side1 ?side2 A20.out).mono ?_
              (case side1 => repeat (first | exact (Kd.R_reads' HO330.out).2.2 | (with_reducible refine Kd.C_alloc ?_ _) | (with_reducible refine Kd.C_drewN ?_ _) | (with_reducible refine Kd.C_drew ?_)))
              (case side2 => exact (Kd.R_reads' HO330.out).2.1)
              rintro e w33 ⟨v337, rfl, ho0, hb⟩
              refine ⟨_, rfl, ?_⟩
              have n0_ := Aside0.mk (Kd.R_below (by (with_reducible repeat (first | apply Kd.R_alloc | apply Kd.R_drewN | apply Kd.R_drew)); exact HO330.out) hb)
              have n1_ := Aside0.mk (Kd.R_lower ho0 (below_size (by repeat (first | (with_reducible first | exact HB.out | apply below_alloc | apply pw_below_drewN | apply below_drew1 | refine below_set ?_ GE322.out | refine below_set ?_ GE323.out | refine below_set ?_ GE324.out) | exact HB.out))))
              have n2_ := Aside0.mk (blk_below (g := gb322) (o := .cells #[.int .i64 a0_0, .slice A0_1 l0_1.length c0_1] 24 (0, 0)) (by (with_reducible repeat (first | refine blk_drewN ?_ _ | refine blk_drew ?_ | refine blk_alloc ?_ _)); exact BK322.out) hb)
              have n3_ := Aside0.mk (blk_below (g := gb323) (o := .cells #[.string (⟨#[114, 97, 110, 107]⟩ : ByteArray), .int .i64 a1_1, .int .i64 a1_2] 26 (0, 0)) (by (with_reducible repeat (first | refine blk_drewN ?_ _ | refine blk_drew ?_ | refine blk_alloc ?_ _)); exact BK323.out) hb)
              have n4_ := Aside0.mk (blk_below (g := gb324) (o := .cells #[.int .i64 a3_0, .int .i64 a3_1, .bool a3_2, .bool a3_3, .int .i64 a3_4] 28 (0, 0)) (by (with_reducible repeat (first | refine blk_drewN ?_ _ | refine blk_drew ?_ | refine blk_alloc ?_ _)); exact BK324.out) hb)
              have n5_ := Aside0.mk (below_step (by repeat (first | (with_reducible first | exact HB.out | apply below_alloc | apply pw_below_drewN | apply below_drew1 | refine below_set ?_ GE322.out | refine below_set ?_ GE323.out | refine below_set ?_ GE324.out) | exact HB.out)) hb)
              clear HO330
              clear BK322
              clear BK323
              clear BK324
              clear HB
              have HO330 := n0_
              have HO338 := n1_
              have BK322 := n2_
              have BK323 := n3_
              have BK324 := n4_
              have HB := n5_
              clear n0_ n1_ n2_ n3_ n4_ n5_
              (try clear hb)
              (try clear hb2)
              (try clear hk)
              (try clear hi)
              (try clear ho0)
              refine hK.out _ _ ⟨(blk_cell BK322.out 0).trans rfl, (blk_cell BK322.out 1).trans rfl, (blk_cell BK323.out 0).trans rfl, (blk_cell BK323.out 1).trans rfl, (blk_cell BK323.out 2).trans rfl, (blk_cell BK324.out 0).trans rfl, (blk_cell BK324.out 1).trans rfl, (blk_cell BK324.out 2).trans rfl, (blk_cell BK324.out 3).trans rfl, (blk_cell BK324.out 4).trans rfl⟩ (fun hHeld => ?_)
              clear hK K
              refine norm_ (a' := ?_) ?_ ?_
              rotate_left
              · show Act.put _ (some 28) _ = _
                simp only [Act.put, List.setIfInBounds_toArray, List.set_cons_zero, List.set_cons_succ, i64_w, i32_w]
                rfl
              refine pure_ (i := 6) (N := some 22) (v := ?_) (a' := ?_) #[true, true, true, true, true, true, true, false, false, false, false, false, false, false] rfl rfl (any_of HT_.out (by kernel_rfl)) (fun _ _ _ h => h) (Or.inl ⟨by rfl, ?_⟩) ?_ ?_
              rotate_left
              · intro w'
                go_simp
                with_reducible rfl
              rotate_left
              · simp only [Act.put, List.setIfInBounds_toArray, List.set_cons_zero, List.set_cons_succ, i64_w, i32_w]
                rfl
              refine pure_ (i := 7) (N := some 29) (v := ?_) (a' := ?_) #[true, true, true, true, true, true, true, true, false, false, false, false, false, false] rfl rfl (any_of HT_.out (by kernel_rfl)) (fun _ _ _ h => h) (Or.inl ⟨by rfl, ?_⟩) ?_ ?_
              rotate_left
              · intro w'
                go_simp
                with_reducible rfl
              rotate_left
              · simp only [Act.put, List.setIfInBounds_toArray, List.set_cons_zero, List.set_cons_succ, i64_w, i32_w]
                rfl
              refine pure_ (i := 8) (N := some 30) (v := ?_) (a' := ?_) #[true, true, true, true, true, true, true, true, true, false, false, false, false, false] rfl rfl (any_of HT_.out (by kernel_rfl)) (fun _ _ _ h => h) (Or.inl ⟨by rfl, ?_⟩) ?_ ?_
              rotate_left
              · intro w'
                go_simp
                with_reducible rfl
              rotate_left
              · simp only [Act.put, List.setIfInBounds_toArray, List.set_cons_zero, List.set_cons_succ, i64_w, i32_w]
                rfl
              refine pure_ (i := 9) (N := some 31) (v := ?_) (a' := ?_) #[true, true, true, true, true, true, true, true, true, true, false, false, false, false] rfl rfl (any_of HT_.out (by kernel_rfl)) (fun _ _ _ h => h) (Or.inl ⟨by rfl, ?_⟩) ?_ ?_
              rotate_left
              · intro w'
                go_simp
                with_reducible rfl
              rotate_left
              · simp only [Act.put, List.setIfInBounds_toArray, List.set_cons_zero, List.set_cons_succ, i64_w, i32_w]
                rfl
              refine one_ (i := 10) (N := some 9) #[true, true, true, true, true, true, true, true, true, true, true, false, false, false] rfl rfl (one_of HT_.out (by kernel_rfl)) (by decide) (fun K hK => ?_)
              refine box_step ?hg (N := 9) ?hd (cs := #[.int .i64 0, .int .i64 0, .bool false, .bool false, .int .i64 0]) (t := 28) ?hr ?_; (case hd => rfl); (case hg => rfl); (case hr => first | (go_simp; done) | (go_simp; rfl))
              intro gb340 hg w34 hbox hb
              have n0_ := Aside0.mk (Kd.R_below (by (with_reducible repeat (first | apply Kd.R_alloc | apply Kd.R_drewN | apply Kd.R_drew)); exact HO330.out) hb)
              have n1_ := Aside0.mk (Kd.R_below (by (with_reducible repeat (first | apply Kd.R_alloc | apply Kd.R_drewN | apply Kd.R_drew)); exact HO338.out) hb)
              have n2_ := Aside0.mk (blk_below (g := gb322) (o := .cells #[.int .i64 a0_0, .slice A0_1 l0_1.length c0_1] 24 (0, 0)) (by (with_reducible repeat (first | refine blk_drewN ?_ _ | refine blk_drew ?_ | refine blk_alloc ?_ _)); exact BK322.out) hb)
              have n3_ := Aside0.mk (blk_below (g := gb323) (o := .cells #[.string (⟨#[114, 97, 110, 107]⟩ : ByteArray), .int .i64 a1_1, .int .i64 a1_2] 26 (0, 0)) (by (with_reducible repeat (first | refine blk_drewN ?_ _ | refine blk_drew ?_ | refine blk_alloc ?_ _)); exact BK323.out) hb)
              have n4_ := Aside0.mk (blk_below (g := gb324) (o := .cells #[.int .i64 a3_0, .int .i64 a3_1, .bool a3_2, .bool a3_3, .int .i64 a3_4] 28 (0, 0)) (by (with_reducible repeat (first | refine blk_drewN ?_ _ | refine blk_drew ?_ | refine blk_alloc ?_ _)); exact BK324.out) hb)
              have n5_ := Aside0.mk (below_step (by repeat (first | (with_reducible first | exact HB.out | apply below_alloc | apply pw_below_drewN | apply below_drew1 | refine below_set ?_ GE322.out | refine below_set ?_ GE323.out | refine below_set ?_ GE324.out) | exact HB.out)) hb)
              have n6_ := Aside0.mk (hbox)
              have n7_ := Aside0.mk ((by rw [hg]; exact (below_size (by repeat (first | (with_reducible first | exact HB.out | apply below_alloc | apply pw_below_drewN | apply below_drew1 | refine below_set ?_ GE322.out | refine below_set ?_ GE323.out | refine below_set ?_ GE324.out) | exact HB.out))) : w.heap.size ≤ gb340))
              have n8_ := Aside0.mk ((by rw [hg]; exact (below_size (by repeat (first | (with_reducible first | exact HB.out | apply below_alloc | apply pw_below_drewN | apply below_drew1 | refine below_set ?_ GE322.out | refine below_set ?_ GE323.out | refine below_set ?_ GE324.out) | exact HB.out))) : w.heap.size ≤ gb340))
              have n9_ := Aside0.mk ((by rw [hg]; exact Nat.ne_of_lt (blk_lt (g := gb322) (o := .cells #[.int .i64 a0_0, .slice A0_1 l0_1.length c0_1] 24 (0, 0)) (by (with_reducible repeat (first | refine blk_drewN ?_ _ | refine blk_drew ?_ | refine blk_alloc ?_ _)); exact BK322.out)) : gb322 ≠ gb340))
              have n10_ := Aside0.mk ((by rw [hg]; exact Nat.ne_of_gt (blk_lt (g := gb322) (o := .cells #[.int .i64 a0_0, .slice A0_1 l0_1.length c0_1] 24 (0, 0)) (by (with_reducible repeat (first | refine blk_drewN ?_ _ | refine blk_drew ?_ | refine blk_alloc ?_ _)); exact BK322.out)) : gb340 ≠ gb322))
              have n11_ := Aside0.mk ((by rw [hg]; exact Nat.ne_of_lt (blk_lt (g := gb323) (o := .cells #[.string (⟨#[114, 97, 110, 107]⟩ : ByteArray), .int .i64 a1_1, .int .i64 a1_2] 26 (0, 0)) (by (with_reducible repeat (first | refine blk_drewN ?_ _ | refine blk_drew ?_ | refine blk_alloc ?_ _)); exact BK323.out)) : gb323 ≠ gb340))
              have n12_ := Aside0.mk ((by rw [hg]; exact Nat.ne_of_gt (blk_lt (g := gb323) (o := .cells #[.string (⟨#[114, 97, 110, 107]⟩ : ByteArray), .int .i64 a1_1, .int .i64 a1_2] 26 (0, 0)) (by (with_reducible repeat (first | refine blk_drewN ?_ _ | refine blk_drew ?_ | refine blk_alloc ?_ _)); exact BK323.out)) : gb340 ≠ gb323))
              have n13_ := Aside0.mk ((by rw [hg]; exact Nat.ne_of_lt (blk_lt (g := gb324) (o := .cells #[.int .i64 a3_0, .int .i64 a3_1, .bool a3_2, .bool a3_3, .int .i64 a3_4] 28 (0, 0)) (by (with_reducible repeat (first | refine blk_drewN ?_ _ | refine blk_drew ?_ | refine blk_alloc ?_ _)); exact BK324.out)) : gb324 ≠ gb340))
              have n14_ := Aside0.mk ((by rw [hg]; exact Nat.ne_of_gt (blk_lt (g := gb324) (o := .cells #[.int .i64 a3_0, .int .i64 a3_1, .bool a3_2, .bool a3_3, .int .i64 a3_4] 28 (0, 0)) (by (with_reducible repeat (first | refine blk_drewN ?_ _ | refine blk_drew ?_ | refine blk_alloc ?_ _)); exact BK324.out)) : gb340 ≠ gb324))
              clear HO330
              clear HO338
              clear BK322
              clear BK323
              clear BK324
              clear HB
              have HO330 := n0_
              have HO338 := n1_
              have BK322 := n2_
              have BK323 := n3_
              have BK324 := n4_
              have HB := n5_
              have BK340 := n6_
              have GW340 := n7_
              have GE340 := n8_
              have NB322_340 := n9_
              have NB340_322 := n10_
              have NB323_340 := n11_
              have NB340_323 := n12_
              have NB324_340 := n13_
              have NB340_324 := n14_
              clear n0_ n1_ n2_ n3_ n4_ n5_ n6_ n7_ n8_ n9_ n10_ n11_ n12_ n13_ n14_
              clear hb hbox hg
              refine hK.out _ _ ⟨(blk_cell BK322.out 0).trans rfl, (blk_cell BK322.out 1).trans rfl, (blk_cell BK323.out 0).trans rfl, (blk_cell BK323.out 1).trans rfl, (blk_cell BK323.out 2).trans rfl, (blk_cell BK324.out 0).trans rfl, (blk_cell BK324.out 1).trans rfl, (blk_cell BK324.out 2).trans rfl, (blk_cell BK324.out 3).trans rfl, (blk_cell BK324.out 4).trans rfl⟩ (fun hHeld => ?_)
              clear hK K
              refine norm_ (a' := ?_) ?_ ?_
              rotate_left
              · show Act.put _ (some 9) _ = _
                simp only [Act.put, List.setIfInBounds_toArray, List.set_cons_zero, List.set_cons_succ, i64_w, i32_w]
                rfl
              exact norm_ (by simp only [putAll, Act.put, List.setIfInBounds_toArray, List.set_cons_zero, List.set_cons_succ]) (hCont (.slice Ao32 t328.length co32, v337, gb340) _ ⟨hHeld, (by (with_reducible repeat (first | apply Kd.R_alloc | apply Kd.R_drewN | apply Kd.R_drew)); exact HO330.out), (by (with_reducible repeat (first | apply Kd.R_alloc | apply Kd.R_drewN | apply Kd.R_drew)); exact HO338.out), (by (with_reducible repeat (first | refine blk_drewN ?_ _ | refine blk_drew ?_ | refine blk_alloc ?_ _)); exact BK322.out), (by (with_reducible repeat (first | refine blk_drewN ?_ _ | refine blk_drew ?_ | refine blk_alloc ?_ _)); exact BK323.out), (by (with_reducible repeat (first | refine blk_drewN ?_ _ | refine blk_drew ?_ | refine blk_alloc ?_ _)); exact BK324.out), (by (with_reducible repeat (first | refine blk_drewN ?_ _ | refine blk_drew ?_ | refine blk_alloc ?_ _)); exact BK340.out), GW340.out, GE340.out, NB322_340.out, NB340_322.out, NB323_340.out, NB340_323.out, NB324_340.out, NB340_324.out, (by repeat (first | (with_reducible first | exact HB.out | apply below_alloc | apply pw_below_drewN | apply below_drew1 | refine below_set ?_ GE322.out | refine below_set ?_ GE323.out | refine below_set ?_ GE324.out | refine below_set ?_ GE340.out) | exact HB.out))⟩)
            · skip
              refine box_step ?hg (N := 9) ?hd (cs := #[.int .i64 0, .int .i64 0, .bool false, .bool false, .int .i64 0]) (t := 28) ?hr ?_; (case hd => rfl); (case hg => rfl); (case hr => first | (go_simp; done) | (go_simp; rfl))
              intro gb340 hg w32 hbox hb
              have n0_ := Aside0.mk (Kd.R_below (by (with_reducible repeat (first | apply Kd.R_alloc | apply Kd.R_drewN | apply Kd.R_drew)); exact HO330.out) hb)
              have n1_ := Aside0.mk (blk_below (g := gb322) (o := .cells #[.int .i64 a0_0, .slice A0_1 l0_1.length c0_1] 24 (0, 0)) (by (with_reducible repeat (first | refine blk_drewN ?_ _ | refine blk_drew ?_ | refine blk_alloc ?_ _)); exact BK322.out) hb)
              have n2_ := Aside0.mk (blk_below (g := gb323) (o := .cells #[.string (⟨#[114, 97, 110, 107]⟩ : ByteArray), .int .i64 a1_1, .int .i64 a1_2] 26 (0, 0)) (by (with_reducible repeat (first | refine blk_drewN ?_ _ | refine blk_drew ?_ | refine blk_alloc ?_ _)); exact BK323.out) hb)
              have n3_ := Aside0.mk (blk_below (g := gb324) (o := .cells #[.int .i64 a3_0, .int .i64 a3_1, .bool a3_2, .bool a3_3, .int .i64 a3_4] 28 (0, 0)) (by (with_reducible repeat (first | refine blk_drewN ?_ _ | refine blk_drew ?_ | refine blk_alloc ?_ _)); exact BK324.out) hb)
              have n4_ := Aside0.mk (below_step (by repeat (first | (with_reducible first | exact HB.out | apply below_alloc | apply pw_below_drewN | apply below_drew1 | refine below_set ?_ GE322.out | refine below_set ?_ GE323.out | refine below_set ?_ GE324.out) | exact HB.out)) hb)
              have n5_ := Aside0.mk (hbox)
              have n6_ := Aside0.mk ((by rw [hg]; exact (below_size (by repeat (first | (with_reducible first | exact HB.out | apply below_alloc | apply pw_below_drewN | apply below_drew1 | refine below_set ?_ GE322.out | refine below_set ?_ GE323.out | refine below_set ?_ GE324.out) | exact HB.out))) : w.heap.size ≤ gb340))
              have n7_ := Aside0.mk ((by rw [hg]; exact (below_size (by repeat (first | (with_reducible first | exact HB.out | apply below_alloc | apply pw_below_drewN | apply below_drew1 | refine below_set ?_ GE322.out | refine below_set ?_ GE323.out | refine below_set ?_ GE324.out) | exact HB.out))) : w.heap.size ≤ gb340))
              have n8_ := Aside0.mk ((by rw [hg]; exact Nat.ne_of_lt (blk_lt (g := gb322) (o := .cells #[.int .i64 a0_0, .slice A0_1 l0_1.length c0_1] 24 (0, 0)) (by (with_reducible repeat (first | refine blk_drewN ?_ _ | refine blk_drew ?_ | refine blk_alloc ?_ _)); exact BK322.out)) : gb322 ≠ gb340))
              have n9_ := Aside0.mk ((by rw [hg]; exact Nat.ne_of_gt (blk_lt (g := gb322) (o := .cells #[.int .i64 a0_0, .slice A0_1 l0_1.length c0_1] 24 (0, 0)) (by (with_reducible repeat (first | refine blk_drewN ?_ _ | refine blk_drew ?_ | refine blk_alloc ?_ _)); exact BK322.out)) : gb340 ≠ gb322))
              have n10_ := Aside0.mk ((by rw [hg]; exact Nat.ne_of_lt (blk_lt (g := gb323) (o := .cells #[.string (⟨#[114, 97, 110, 107]⟩ : ByteArray), .int .i64 a1_1, .int .i64 a1_2] 26 (0, 0)) (by (with_reducible repeat (first | refine blk_drewN ?_ _ | refine blk_drew ?_ | refine blk_alloc ?_ _)); exact BK323.out)) : gb323 ≠ gb340))
              have n11_ := Aside0.mk ((by rw [hg]; exact Nat.ne_of_gt (blk_lt (g := gb323) (o := .cells #[.string (⟨#[114, 97, 110, 107]⟩ : ByteArray), .int .i64 a1_1, .int .i64 a1_2] 26 (0, 0)) (by (with_reducible repeat (first | refine blk_drewN ?_ _ | refine blk_drew ?_ | refine blk_alloc ?_ _)); exact BK323.out)) : gb340 ≠ gb323))
              have n12_ := Aside0.mk ((by rw [hg]; exact Nat.ne_of_lt (blk_lt (g := gb324) (o := .cells #[.int .i64 a3_0, .int .i64 a3_1, .bool a3_2, .bool a3_3, .int .i64 a3_4] 28 (0, 0)) (by (with_reducible repeat (first | refine blk_drewN ?_ _ | refine blk_drew ?_ | refine blk_alloc ?_ _)); exact BK324.out)) : gb324 ≠ gb340))
              have n13_ := Aside0.mk ((by rw [hg]; exact Nat.ne_of_gt (blk_lt (g := gb324) (o := .cells #[.int .i64 a3_0, .int .i64 a3_1, .bool a3_2, .bool a3_3, .int .i64 a3_4] 28 (0, 0)) (by (with_reducible repeat (first | refine blk_drewN ?_ _ | refine blk_drew ?_ | refine blk_alloc ?_ _)); exact BK324.out)) : gb340 ≠ gb324))
              clear HO330
              clear BK322
              clear BK323
              clear BK324
              clear HB
              have HO330 := n0_
              have BK322 := n1_
              have BK323 := n2_
              have BK324 := n3_
              have HB := n4_
              have BK340 := n5_
              have GW340 := n6_
              have GE340 := n7_
              have NB322_340 := n8_
              have NB340_322 := n9_
              have NB323_340 := n10_
              have NB340_323 := n11_
              have NB324_340 := n12_
              have NB340_324 := n13_
              clear n0_ n1_ n2_ n3_ n4_ n5_ n6_ n7_ n8_ n9_ n10_ n11_ n12_ n13_
              clear hb hbox hg
              obtain ⟨Ao33, co33, eo33⟩ := Kd.R_slice HO330.out
              (first | subst eo33 | (injection eo33 with f1_ f2_ f3_; have f4_ := f1_.symm; have f5_ := f3_.symm; clear f1_ f2_ f3_; subst f4_; subst f5_))
              refine hK.out _ _ ⟨(blk_cell BK322.out 0).trans rfl, (blk_cell BK322.out 1).trans rfl, (blk_cell BK323.out 0).trans rfl, (blk_cell BK323.out 1).trans rfl, (blk_cell BK323.out 2).trans rfl, (blk_cell BK324.out 0).trans rfl, (blk_cell BK324.out 1).trans rfl, (blk_cell BK324.out 2).trans rfl, (blk_cell BK324.out 3).trans rfl, (blk_cell BK324.out 4).trans rfl⟩ (fun hHeld => ?_)
              clear hK K
              refine norm_ (a' := ?_) ?_ ?_
              rotate_left
              · show Act.put _ (some 9) _ = _
                simp only [Act.put, List.setIfInBounds_toArray, List.set_cons_zero, List.set_cons_succ, i64_w, i32_w]
                rfl
              refine one_ (i := 5) (N := some 28) #[true, true, true, true, true, true, false, false, false, false, true, false, false, false] rfl rfl (one_of HT_.out (by kernel_rfl)) (by decide) (fun K hK => ?_)
              refine goes_ Try.func12 (by kernel_rfl) rfl #[.agg #[.int .i64 t327, .slice Ao33 t328.length co33], .agg #[.string (⟨#[114, 97, 110, 107]⟩ : ByteArray), .int .i64 a1_1, .int .i64 a1_2], .int .i64 a2, .agg #[.int .i64 a3_0, .int .i64 a3_1, .bool a3_2, .bool a3_3, .int .i64 a3_4]] (by rfl) rfl rfl (by (try simp only [List.map_toArray, List.map_cons, List.map_nil]); first | done | rfl | (simp only [List.length_drop, List.length_take]; rfl)) ?_
              with_reducible refine (prog_Step.calls t327 _ _ t328 (⟨#[114, 97, 110, 107]⟩ : ByteArray) a1_1 a1_2 a2 a3_0 a3_1 a3_2 a3_3 a3_4 t331 t332 t333 t334 t335 t336 t339 _ ?side1 ?side2 A20.out).mono ?_
              (case side1 => repeat (first | exact (Kd.R_reads' HO330.out).2.2 | (with_reducible refine Kd.C_alloc ?_ _) | (with_reducible refine Kd.C_drewN ?_ _) | (with_reducible refine Kd.C_drew ?_)))
              (case side2 => exact (Kd.R_reads' HO330.out).2.1)
              rintro e w34 ⟨v337, rfl, ho0, hb⟩
              refine ⟨_, rfl, ?_⟩
              have n0_ := Aside0.mk (Kd.R_below (by (with_reducible repeat (first | apply Kd.R_alloc | apply Kd.R_drewN | apply Kd.R_drew)); exact HO330.out) hb)
              have n1_ := Aside0.mk (Kd.R_lower ho0 (below_size (by repeat (first | (with_reducible first | exact HB.out | apply below_alloc | apply pw_below_drewN | apply below_drew1 | refine below_set ?_ GE322.out | refine below_set ?_ GE323.out | refine below_set ?_ GE324.out | refine below_set ?_ GE340.out) | exact HB.out))))
              have n2_ := Aside0.mk (blk_below (g := gb322) (o := .cells #[.int .i64 a0_0, .slice A0_1 l0_1.length c0_1] 24 (0, 0)) (by (with_reducible repeat (first | refine blk_drewN ?_ _ | refine blk_drew ?_ | refine blk_alloc ?_ _)); exact BK322.out) hb)
              have n3_ := Aside0.mk (blk_below (g := gb323) (o := .cells #[.string (⟨#[114, 97, 110, 107]⟩ : ByteArray), .int .i64 a1_1, .int .i64 a1_2] 26 (0, 0)) (by (with_reducible repeat (first | refine blk_drewN ?_ _ | refine blk_drew ?_ | refine blk_alloc ?_ _)); exact BK323.out) hb)
              have n4_ := Aside0.mk (blk_below (g := gb324) (o := .cells #[.int .i64 a3_0, .int .i64 a3_1, .bool a3_2, .bool a3_3, .int .i64 a3_4] 28 (0, 0)) (by (with_reducible repeat (first | refine blk_drewN ?_ _ | refine blk_drew ?_ | refine blk_alloc ?_ _)); exact BK324.out) hb)
              have n5_ := Aside0.mk (blk_below (g := gb340) (o := .cells #[.int .i64 0, .int .i64 0, .bool false, .bool false, .int .i64 0] 28 (0, 0)) (by (with_reducible repeat (first | refine blk_drewN ?_ _ | refine blk_drew ?_ | refine blk_alloc ?_ _)); exact BK340.out) hb)
              have n6_ := Aside0.mk (below_step (by repeat (first | (with_reducible first | exact HB.out | apply below_alloc | apply pw_below_drewN | apply below_drew1 | refine below_set ?_ GE322.out | refine below_set ?_ GE323.out | refine below_set ?_ GE324.out | refine below_set ?_ GE340.out) | exact HB.out)) hb)
              clear HO330
              clear BK322
              clear BK323
              clear BK324
              clear BK340
              clear HB
              have HO330 := n0_
              have HO338 := n1_
              have BK322 := n2_
              have BK323 := n3_
              have BK324 := n4_
              have BK340 := n5_
              have HB := n6_
              clear n0_ n1_ n2_ n3_ n4_ n5_ n6_
              (try clear hb)
              (try clear hb2)
              (try clear hk)
              (try clear hi)
              (try clear ho0)
              refine hK.out _ _ ⟨(blk_cell BK322.out 0).trans rfl, (blk_cell BK322.out 1).trans rfl, (blk_cell BK323.out 0).trans rfl, (blk_cell BK323.out 1).trans rfl, (blk_cell BK323.out 2).trans rfl, (blk_cell BK324.out 0).trans rfl, (blk_cell BK324.out 1).trans rfl, (blk_cell BK324.out 2).trans rfl, (blk_cell BK324.out 3).trans rfl, (blk_cell BK324.out 4).trans rfl⟩ (fun hHeld => ?_)
              clear hK K
              refine norm_ (a' := ?_) ?_ ?_
              rotate_left
              · show Act.put _ (some 28) _ = _
                simp only [Act.put, List.setIfInBounds_toArray, List.set_cons_zero, List.set_cons_succ, i64_w, i32_w]
                rfl
              refine pure_ (i := 6) (N := some 22) (v := ?_) (a' := ?_) #[true, true, true, true, true, true, true, false, false, false, true, false, false, false] rfl rfl (any_of HT_.out (by kernel_rfl)) (fun _ _ _ h => h) (Or.inl ⟨by rfl, ?_⟩) ?_ ?_
              rotate_left
              · intro w'
                go_simp
                with_reducible rfl
              rotate_left
              · simp only [Act.put, List.setIfInBounds_toArray, List.set_cons_zero, List.set_cons_succ, i64_w, i32_w]
                rfl
              refine pure_ (i := 7) (N := some 29) (v := ?_) (a' := ?_) #[true, true, true, true, true, true, true, true, false, false, true, false, false, false] rfl rfl (any_of HT_.out (by kernel_rfl)) (fun _ _ _ h => h) (Or.inl ⟨by rfl, ?_⟩) ?_ ?_
              rotate_left
              · intro w'
                go_simp
                with_reducible rfl
              rotate_left
              · simp only [Act.put, List.setIfInBounds_toArray, List.set_cons_zero, List.set_cons_succ, i64_w, i32_w]
                rfl
              refine pure_ (i := 8) (N := some 30) (v := ?_) (a' := ?_) #[true, true, true, true, true, true, true, true, true, false, true, false, false, false] rfl rfl (any_of HT_.out (by kernel_rfl)) (fun _ _ _ h => h) (Or.inl ⟨by rfl, ?_⟩) ?_ ?_
              rotate_left
              · intro w'
                go_simp
                with_reducible rfl
              rotate_left
              · simp only [Act.put, List.setIfInBounds_toArray, List.set_cons_zero, List.set_cons_succ, i64_w, i32_w]
                rfl
              refine pure_ (i := 9) (N := some 31) (v := ?_) (a' := ?_) #[true, true, true, true, true, true, true, true, true, true, true, false, false, false] rfl rfl (any_of HT_.out (by kernel_rfl)) (fun _ _ _ h => h) (Or.inl ⟨by rfl, ?_⟩) ?_ ?_
              rotate_left
              · intro w'
                go_simp
                with_reducible rfl
              rotate_left
              · simp only [Act.put, List.setIfInBounds_toArray, List.set_cons_zero, List.set_cons_succ, i64_w, i32_w]
                rfl
              exact norm_ (by simp only [putAll, Act.put, List.setIfInBounds_toArray, List.set_cons_zero, List.set_cons_succ]) (hCont (.slice Ao33 t328.length co33, v337, gb340) _ ⟨hHeld, (by (with_reducible repeat (first | apply Kd.R_alloc | apply Kd.R_drewN | apply Kd.R_drew)); exact HO330.out), (by (with_reducible repeat (first | apply Kd.R_alloc | apply Kd.R_drewN | apply Kd.R_drew)); exact HO338.out), (by (with_reducible repeat (first | refine blk_drewN ?_ _ | refine blk_drew ?_ | refine blk_alloc ?_ _)); exact BK322.out), (by (with_reducible repeat (first | refine blk_drewN ?_ _ | refine blk_drew ?_ | refine blk_alloc ?_ _)); exact BK323.out), (by (with_reducible repeat (first | refine blk_drewN ?_ _ | refine blk_drew ?_ | refine blk_alloc ?_ _)); exact BK324.out), (by (with_reducible repeat (first | refine blk_drewN ?_ _ | refine blk_drew ?_ | refine blk_alloc ?_ _)); exact BK340.out), GW340.out, GE340.out, NB322_340.out, NB340_322.out, NB323_340.out, NB340_323.out, NB324_340.out, NB340_324.out, (by repeat (first | (with_reducible first | exact HB.out | apply below_alloc | apply pw_below_drewN | apply below_drew1 | refine below_set ?_ GE322.out | refine below_set ?_ GE323.out | refine below_set ?_ GE324.out | refine below_set ?_ GE340.out) | exact HB.out))⟩)
          · skip
            refine box_step ?hg (N := 9) ?hd (cs := #[.int .i64 0, .int .i64 0, .bool false, .bool false, .int .i64 0]) (t := 28) ?hr ?_; (case hd => rfl); (case hg => rfl); (case hr => first | (go_simp; done) | (go_simp; rfl))
            intro gb340 hg w31 hbox hb
            have n0_ := Aside0.mk (blk_below (g := gb322) (o := .cells #[.int .i64 a0_0, .slice A0_1 l0_1.length c0_1] 24 (0, 0)) (by (with_reducible repeat (first | refine blk_drewN ?_ _ | refine blk_drew ?_ | refine blk_alloc ?_ _)); exact BK322.out) hb)
            have n1_ := Aside0.mk (blk_below (g := gb323) (o := .cells #[.string (⟨#[114, 97, 110, 107]⟩ : ByteArray), .int .i64 a1_1, .int .i64 a1_2] 26 (0, 0)) (by (with_reducible repeat (first | refine blk_drewN ?_ _ | refine blk_drew ?_ | refine blk_alloc ?_ _)); exact BK323.out) hb)
            have n2_ := Aside0.mk (blk_below (g := gb324) (o := .cells #[.int .i64 a3_0, .int .i64 a3_1, .bool a3_2, .bool a3_3, .int .i64 a3_4] 28 (0, 0)) (by (with_reducible repeat (first | refine blk_drewN ?_ _ | refine blk_drew ?_ | refine blk_alloc ?_ _)); exact BK324.out) hb)
            have n3_ := Aside0.mk (below_step (by repeat (first | (with_reducible first | exact HB.out | apply below_alloc | apply pw_below_drewN | apply below_drew1 | refine below_set ?_ GE322.out | refine below_set ?_ GE323.out | refine below_set ?_ GE324.out) | exact HB.out)) hb)
            have n4_ := Aside0.mk (hbox)
            have n5_ := Aside0.mk ((by rw [hg]; exact (below_size (by repeat (first | (with_reducible first | exact HB.out | apply below_alloc | apply pw_below_drewN | apply below_drew1 | refine below_set ?_ GE322.out | refine below_set ?_ GE323.out | refine below_set ?_ GE324.out) | exact HB.out))) : w.heap.size ≤ gb340))
            have n6_ := Aside0.mk ((by rw [hg]; exact (below_size (by repeat (first | (with_reducible first | exact HB.out | apply below_alloc | apply pw_below_drewN | apply below_drew1 | refine below_set ?_ GE322.out | refine below_set ?_ GE323.out | refine below_set ?_ GE324.out) | exact HB.out))) : w.heap.size ≤ gb340))
            have n7_ := Aside0.mk ((by rw [hg]; exact Nat.ne_of_lt (blk_lt (g := gb322) (o := .cells #[.int .i64 a0_0, .slice A0_1 l0_1.length c0_1] 24 (0, 0)) (by (with_reducible repeat (first | refine blk_drewN ?_ _ | refine blk_drew ?_ | refine blk_alloc ?_ _)); exact BK322.out)) : gb322 ≠ gb340))
            have n8_ := Aside0.mk ((by rw [hg]; exact Nat.ne_of_gt (blk_lt (g := gb322) (o := .cells #[.int .i64 a0_0, .slice A0_1 l0_1.length c0_1] 24 (0, 0)) (by (with_reducible repeat (first | refine blk_drewN ?_ _ | refine blk_drew ?_ | refine blk_alloc ?_ _)); exact BK322.out)) : gb340 ≠ gb322))
            have n9_ := Aside0.mk ((by rw [hg]; exact Nat.ne_of_lt (blk_lt (g := gb323) (o := .cells #[.string (⟨#[114, 97, 110, 107]⟩ : ByteArray), .int .i64 a1_1, .int .i64 a1_2] 26 (0, 0)) (by (with_reducible repeat (first | refine blk_drewN ?_ _ | refine blk_drew ?_ | refine blk_alloc ?_ _)); exact BK323.out)) : gb323 ≠ gb340))
            have n10_ := Aside0.mk ((by rw [hg]; exact Nat.ne_of_gt (blk_lt (g := gb323) (o := .cells #[.string (⟨#[114, 97, 110, 107]⟩ : ByteArray), .int .i64 a1_1, .int .i64 a1_2] 26 (0, 0)) (by (with_reducible repeat (first | refine blk_drewN ?_ _ | refine blk_drew ?_ | refine blk_alloc ?_ _)); exact BK323.out)) : gb340 ≠ gb323))
            have n11_ := Aside0.mk ((by rw [hg]; exact Nat.ne_of_lt (blk_lt (g := gb324) (o := .cells #[.int .i64 a3_0, .int .i64 a3_1, .bool a3_2, .bool a3_3, .int .i64 a3_4] 28 (0, 0)) (by (with_reducible repeat (first | refine blk_drewN ?_ _ | refine blk_drew ?_ | refine blk_alloc ?_ _)); exact BK324.out)) : gb324 ≠ gb340))
            have n12_ := Aside0.mk ((by rw [hg]; exact Nat.ne_of_gt (blk_lt (g := gb324) (o := .cells #[.int .i64 a3_0, .int .i64 a3_1, .bool a3_2, .bool a3_3, .int .i64 a3_4] 28 (0, 0)) (by (with_reducible repeat (first | refine blk_drewN ?_ _ | refine blk_drew ?_ | refine blk_alloc ?_ _)); exact BK324.out)) : gb340 ≠ gb324))
            clear BK322
            clear BK323
            clear BK324
            clear HB
            have BK322 := n0_
            have BK323 := n1_
            have BK324 := n2_
            have HB := n3_
            have BK340 := n4_
            have GW340 := n5_
            have GE340 := n6_
            have NB322_340 := n7_
            have NB340_322 := n8_
            have NB323_340 := n9_
            have NB340_323 := n10_
            have NB324_340 := n11_
            have NB340_324 := n12_
            clear n0_ n1_ n2_ n3_ n4_ n5_ n6_ n7_ n8_ n9_ n10_ n11_ n12_
            clear hb hbox hg
            refine hK.out _ _ ⟨(blk_cell BK322.out 0).trans rfl, (blk_cell BK322.out 1).trans rfl, (blk_cell BK323.out 0).trans rfl, (blk_cell BK323.out 1).trans rfl, (blk_cell BK323.out 2).trans rfl, (blk_cell BK324.out 0).trans rfl, (blk_cell BK324.out 1).trans rfl, (blk_cell BK324.out 2).trans rfl, (blk_cell BK324.out 3).trans rfl, (blk_cell BK324.out 4).trans rfl⟩ (fun hHeld => ?_)
            clear hK K
            refine norm_ (a' := ?_) ?_ ?_
            rotate_left
            · show Act.put _ (some 9) _ = _
              simp only [Act.put, List.setIfInBounds_toArray, List.set_cons_zero, List.set_cons_succ, i64_w, i32_w]
              rfl
            refine one_ (i := 1) (N := some 24) #[true, true, true, true, true, false, false, false, false, false, true, false, false, false] rfl rfl (one_of HT_.out (by kernel_rfl)) (by decide) (fun K hK => ?_)
            refine goes_ Try.func13 (by kernel_rfl) rfl #[.agg #[.int .i64 a0_0, .slice A0_1 l0_1.length c0_1]] (by rfl) rfl rfl (by (try simp only [List.map_toArray, List.map_cons, List.map_nil]); first | done | rfl | (simp only [List.length_drop, List.length_take]; rfl)) ?_
            with_reducible refine (modillionlaw07_own.calls a0_0 _ _ l0_1 t327 t328 _ ?side1 ?side2 A19.out).mono ?_
            (case side1 => repeat (first | exact (Kd.C_below HR0_1.out HB.out) | (with_reducible refine Kd.C_alloc ?_ _) | (with_reducible refine Kd.C_drewN ?_ _) | (with_reducible refine Kd.C_drew ?_)))
            (case side2 => exact HC0_1.out)
            rintro e w32 ⟨v329, rfl, ho0, hb⟩
            refine ⟨_, rfl, ?_⟩
            have n0_ := Aside0.mk (Kd.R_lower ho0 (below_size (by repeat (first | (with_reducible first | exact HB.out | apply below_alloc | apply pw_below_drewN | apply below_drew1 | refine below_set ?_ GE322.out | refine below_set ?_ GE323.out | refine below_set ?_ GE324.out | refine below_set ?_ GE340.out) | exact HB.out))))
            have n1_ := Aside0.mk (blk_below (g := gb322) (o := .cells #[.int .i64 a0_0, .slice A0_1 l0_1.length c0_1] 24 (0, 0)) (by (with_reducible repeat (first | refine blk_drewN ?_ _ | refine blk_drew ?_ | refine blk_alloc ?_ _)); exact BK322.out) hb)
            have n2_ := Aside0.mk (blk_below (g := gb323) (o := .cells #[.string (⟨#[114, 97, 110, 107]⟩ : ByteArray), .int .i64 a1_1, .int .i64 a1_2] 26 (0, 0)) (by (with_reducible repeat (first | refine blk_drewN ?_ _ | refine blk_drew ?_ | refine blk_alloc ?_ _)); exact BK323.out) hb)
            have n3_ := Aside0.mk (blk_below (g := gb324) (o := .cells #[.int .i64 a3_0, .int .i64 a3_1, .bool a3_2, .bool a3_3, .int .i64 a3_4] 28 (0, 0)) (by (with_reducible repeat (first | refine blk_drewN ?_ _ | refine blk_drew ?_ | refine blk_alloc ?_ _)); exact BK324.out) hb)
            have n4_ := Aside0.mk (blk_below (g := gb340) (o := .cells #[.int .i64 0, .int .i64 0, .bool false, .bool false, .int .i64 0] 28 (0, 0)) (by (with_reducible repeat (first | refine blk_drewN ?_ _ | refine blk_drew ?_ | refine blk_alloc ?_ _)); exact BK340.out) hb)
            have n5_ := Aside0.mk (below_step (by repeat (first | (with_reducible first | exact HB.out | apply below_alloc | apply pw_below_drewN | apply below_drew1 | refine below_set ?_ GE322.out | refine below_set ?_ GE323.out | refine below_set ?_ GE324.out | refine below_set ?_ GE340.out) | exact HB.out)) hb)
            clear BK322
            clear BK323
            clear BK324
            clear BK340
            clear HB
            have HO330 := n0_
            have BK322 := n1_
            have BK323 := n2_
            have BK324 := n3_
            have BK340 := n4_
            have HB := n5_
            clear n0_ n1_ n2_ n3_ n4_ n5_
            (try clear hb)
            (try clear hb2)
            (try clear hk)
            (try clear hi)
            (try clear ho0)
            obtain ⟨Ao33, co33, eo33⟩ := Kd.R_slice HO330.out
            (first | subst eo33 | (injection eo33 with f1_ f2_ f3_; have f4_ := f1_.symm; have f5_ := f3_.symm; clear f1_ f2_ f3_; subst f4_; subst f5_))
            refine hK.out _ _ ⟨(blk_cell BK322.out 0).trans rfl, (blk_cell BK322.out 1).trans rfl, (blk_cell BK323.out 0).trans rfl, (blk_cell BK323.out 1).trans rfl, (blk_cell BK323.out 2).trans rfl, (blk_cell BK324.out 0).trans rfl, (blk_cell BK324.out 1).trans rfl, (blk_cell BK324.out 2).trans rfl, (blk_cell BK324.out 3).trans rfl, (blk_cell BK324.out 4).trans rfl⟩ (fun hHeld => ?_)
            clear hK K
            refine norm_ (a' := ?_) ?_ ?_
            rotate_left
            · show Act.put _ (some 24) _ = _
              simp only [Act.put, List.setIfInBounds_toArray, List.set_cons_zero, List.set_cons_succ, i64_w, i32_w]
              rfl
            refine one_ (i := 5) (N := some 28) #[true, true, true, true, true, true, false, false, false, false, true, false, false, false] rfl rfl (one_of HT_.out (by kernel_rfl)) (by decide) (fun K hK => ?_)
            refine goes_ Try.func12 (by kernel_rfl) rfl #[.agg #[.int .i64 t327, .slice Ao33 t328.length co33], .agg #[.string (⟨#[114, 97, 110, 107]⟩ : ByteArray), .int .i64 a1_1, .int .i64 a1_2], .int .i64 a2, .agg #[.int .i64 a3_0, .int .i64 a3_1, .bool a3_2, .bool a3_3, .int .i64 a3_4]] (by rfl) rfl rfl (by (try simp only [List.map_toArray, List.map_cons, List.map_nil]); first | done | rfl | (simp only [List.length_drop, List.length_take]; rfl)) ?_
            with_reducible refine (prog_Step.calls t327 _ _ t328 (⟨#[114, 97, 110, 107]⟩ : ByteArray) a1_1 a1_2 a2 a3_0 a3_1 a3_2 a3_3 a3_4 t331 t332 t333 t334 t335 t336 t339 _ ?side1 ?side2 A20.out).mono ?_
            (case side1 => repeat (first | exact (Kd.R_reads' HO330.out).2.2 | (with_reducible refine Kd.C_alloc ?_ _) | (with_reducible refine Kd.C_drewN ?_ _) | (with_reducible refine Kd.C_drew ?_)))
            (case side2 => exact (Kd.R_reads' HO330.out).2.1)
            rintro e w34 ⟨v337, rfl, ho0, hb⟩
            refine ⟨_, rfl, ?_⟩
            have n0_ := Aside0.mk (Kd.R_below (by (with_reducible repeat (first | apply Kd.R_alloc | apply Kd.R_drewN | apply Kd.R_drew)); exact HO330.out) hb)
            have n1_ := Aside0.mk (Kd.R_lower ho0 (below_size (by repeat (first | (with_reducible first | exact HB.out | apply below_alloc | apply pw_below_drewN | apply below_drew1 | refine below_set ?_ GE322.out | refine below_set ?_ GE323.out | refine below_set ?_ GE324.out | refine below_set ?_ GE340.out) | exact HB.out))))
            have n2_ := Aside0.mk (blk_below (g := gb322) (o := .cells #[.int .i64 a0_0, .slice A0_1 l0_1.length c0_1] 24 (0, 0)) (by (with_reducible repeat (first | refine blk_drewN ?_ _ | refine blk_drew ?_ | refine blk_alloc ?_ _)); exact BK322.out) hb)
            have n3_ := Aside0.mk (blk_below (g := gb323) (o := .cells #[.string (⟨#[114, 97, 110, 107]⟩ : ByteArray), .int .i64 a1_1, .int .i64 a1_2] 26 (0, 0)) (by (with_reducible repeat (first | refine blk_drewN ?_ _ | refine blk_drew ?_ | refine blk_alloc ?_ _)); exact BK323.out) hb)
            have n4_ := Aside0.mk (blk_below (g := gb324) (o := .cells #[.int .i64 a3_0, .int .i64 a3_1, .bool a3_2, .bool a3_3, .int .i64 a3_4] 28 (0, 0)) (by (with_reducible repeat (first | refine blk_drewN ?_ _ | refine blk_drew ?_ | refine blk_alloc ?_ _)); exact BK324.out) hb)
            have n5_ := Aside0.mk (blk_below (g := gb340) (o := .cells #[.int .i64 0, .int .i64 0, .bool false, .bool false, .int .i64 0] 28 (0, 0)) (by (with_reducible repeat (first | refine blk_drewN ?_ _ | refine blk_drew ?_ | refine blk_alloc ?_ _)); exact BK340.out) hb)
            have n6_ := Aside0.mk (below_step (by repeat (first | (with_reducible first | exact HB.out | apply below_alloc | apply pw_below_drewN | apply below_drew1 | refine below_set ?_ GE322.out | refine below_set ?_ GE323.out | refine below_set ?_ GE324.out | refine below_set ?_ GE340.out) | exact HB.out)) hb)
            clear HO330
            clear BK322
            clear BK323
            clear BK324
            clear BK340
            clear HB
            have HO330 := n0_
            have HO338 := n1_
            have BK322 := n2_
            have BK323 := n3_
            have BK324 := n4_
            have BK340 := n5_
            have HB := n6_
            clear n0_ n1_ n2_ n3_ n4_ n5_ n6_
            (try clear hb)
            (try clear hb2)
            (try clear hk)
            (try clear hi)
            (try clear ho0)
            refine hK.out _ _ ⟨(blk_cell BK322.out 0).trans rfl, (blk_cell BK322.out 1).trans rfl, (blk_cell BK323.out 0).trans rfl, (blk_cell BK323.out 1).trans rfl, (blk_cell BK323.out 2).trans rfl, (blk_cell BK324.out 0).trans rfl, (blk_cell BK324.out 1).trans rfl, (blk_cell BK324.out 2).trans rfl, (blk_cell BK324.out 3).trans rfl, (blk_cell BK324.out 4).trans rfl⟩ (fun hHeld => ?_)
            clear hK K
            refine norm_ (a' := ?_) ?_ ?_
            rotate_left
            · show Act.put _ (some 28) _ = _
              simp only [Act.put, List.setIfInBounds_toArray, List.set_cons_zero, List.set_cons_succ, i64_w, i32_w]
              rfl
            refine pure_ (i := 6) (N := some 22) (v := ?_) (a' := ?_) #[true, true, true, true, true, true, true, false, false, false, true, false, false, false] rfl rfl (any_of HT_.out (by kernel_rfl)) (fun _ _ _ h => h) (Or.inl ⟨by rfl, ?_⟩) ?_ ?_
            rotate_left
            · intro w'
              go_simp
              with_reducible rfl
            rotate_left
            · simp only [Act.put, List.setIfInBounds_toArray, List.set_cons_zero, List.set_cons_succ, i64_w, i32_w]
              rfl
            refine pure_ (i := 7) (N := some 29) (v := ?_) (a' := ?_) #[true, true, true, true, true, true, true, true, false, false, true, false, false, false] rfl rfl (any_of HT_.out (by kernel_rfl)) (fun _ _ _ h => h) (Or.inl ⟨by rfl, ?_⟩) ?_ ?_
            rotate_left
            · intro w'
              go_simp
              with_reducible rfl
            rotate_left
            · simp only [Act.put, List.setIfInBounds_toArray, List.set_cons_zero, List.set_cons_succ, i64_w, i32_w]
              rfl
            refine pure_ (i := 8) (N := some 30) (v := ?_) (a' := ?_) #[true, true, true, true, true, true, true, true, true, false, true, false, false, false] rfl rfl (any_of HT_.out (by kernel_rfl)) (fun _ _ _ h => h) (Or.inl ⟨by rfl, ?_⟩) ?_ ?_
            rotate_left
            · intro w'
              go_simp
              with_reducible rfl
            rotate_left
            · simp only [Act.put, List.setIfInBounds_toArray, List.set_cons_zero, List.set_cons_succ, i64_w, i32_w]
              rfl
            refine pure_ (i := 9) (N := some 31) (v := ?_) (a' := ?_) #[true, true, true, true, true, true, true, true, true, true, true, false, false, false] rfl rfl (any_of HT_.out (by kernel_rfl)) (fun _ _ _ h => h) (Or.inl ⟨by rfl, ?_⟩) ?_ ?_
            rotate_left
            · intro w'
              go_simp
              with_reducible rfl
            rotate_left
            · simp only [Act.put, List.setIfInBounds_toArray, List.set_cons_zero, List.set_cons_succ, i64_w, i32_w]
              rfl
            exact norm_ (by simp only [putAll, Act.put, List.setIfInBounds_toArray, List.set_cons_zero, List.set_cons_succ]) (hCont (.slice Ao33 t328.length co33, v337, gb340) _ ⟨hHeld, (by (with_reducible repeat (first | apply Kd.R_alloc | apply Kd.R_drewN | apply Kd.R_drew)); exact HO330.out), (by (with_reducible repeat (first | apply Kd.R_alloc | apply Kd.R_drewN | apply Kd.R_drew)); exact HO338.out), (by (with_reducible repeat (first | refine blk_drewN ?_ _ | refine blk_drew ?_ | refine blk_alloc ?_ _)); exact BK322.out), (by (with_reducible repeat (first | refine blk_drewN ?_ _ | refine blk_drew ?_ | refine blk_alloc ?_ _)); exact BK323.out), (by (with_reducible repeat (first | refine blk_drewN ?_ _ | refine blk_drew ?_ | refine blk_alloc ?_ _)); exact BK324.out), (by (with_reducible repeat (first | refine blk_drewN ?_ _ | refine blk_drew ?_ | refine blk_alloc ?_ _)); exact BK340.out), GW340.out, GE340.out, NB322_340.out, NB340_322.out, NB323_340.out, NB340_323.out, NB324_340.out, NB340_324.out, (by repeat (first | (with_reducible first | exact HB.out | apply below_alloc | apply pw_below_drewN | apply below_drew1 | refine below_set ?_ GE322.out | refine below_set ?_ GE323.out | refine below_set ?_ GE324.out | refine below_set ?_ GE340.out) | exact HB.out))⟩)
        rintro ⟨v329, v337, gb340⟩ w35 ⟨hS_, h0_, h1_, h2_, h3_, h4_, h5_, h6_, h7_, h8_, h9_, h10_, h11_, h12_, h13_, h14_⟩
        have n0_ : Aside0 (Kd.R k46 46 w35 w.heap.size (fun _ => True) v329 t328) := ⟨h0_⟩
        have n1_ : Aside0 (Kd.R k48 48 w35 w.heap.size (fun _ => True) v337 t336) := ⟨h1_⟩
        have n2_ : Aside0 (w35.heap[gb322]? = some (.cells #[.int .i64 a0_0, .slice A0_1 l0_1.length c0_1] 24 (0, 0))) := ⟨h2_⟩
        have n3_ : Aside0 (w35.heap[gb323]? = some (.cells #[.string (⟨#[114, 97, 110, 107]⟩ : ByteArray), .int .i64 a1_1, .int .i64 a1_2] 26 (0, 0))) := ⟨h3_⟩
        have n4_ : Aside0 (w35.heap[gb324]? = some (.cells #[.int .i64 a3_0, .int .i64 a3_1, .bool a3_2, .bool a3_3, .int .i64 a3_4] 28 (0, 0))) := ⟨h4_⟩
        have n5_ : Aside0 (w35.heap[gb340]? = some (.cells #[.int .i64 0, .int .i64 0, .bool false, .bool false, .int .i64 0] 28 (0, 0))) := ⟨h5_⟩
        have n6_ : Aside0 (w.heap.size ≤ gb340) := ⟨h6_⟩
        have n7_ : Aside0 (w.heap.size ≤ gb340) := ⟨h7_⟩
        have n8_ : Aside0 (gb322 ≠ gb340) := ⟨h8_⟩
        have n9_ : Aside0 (gb340 ≠ gb322) := ⟨h9_⟩
        have n10_ : Aside0 (gb323 ≠ gb340) := ⟨h10_⟩
        have n11_ : Aside0 (gb340 ≠ gb323) := ⟨h11_⟩
        have n12_ : Aside0 (gb324 ≠ gb340) := ⟨h12_⟩
        have n13_ : Aside0 (gb340 ≠ gb324) := ⟨h13_⟩
        have n14_ : Aside0 (Below w.heap.size w w35) := ⟨h14_⟩
        clear BK322
        clear BK323
        clear BK324
        clear HB
        clear h0_ h1_ h2_ h3_ h4_ h5_ h6_ h7_ h8_ h9_ h10_ h11_ h12_ h13_ h14_
        have HO330 := n0_
        have HO338 := n1_
        have BK322 := n2_
        have BK323 := n3_
        have BK324 := n4_
        have BK340 := n5_
        have GW340 := n6_
        have GE340 := n7_
        have NB322_340 := n8_
        have NB340_322 := n9_
        have NB323_340 := n10_
        have NB340_323 := n11_
        have NB324_340 := n12_
        have NB340_324 := n13_
        have HB := n14_
        clear n0_ n1_ n2_ n3_ n4_ n5_ n6_ n7_ n8_ n9_ n10_ n11_ n12_ n13_ n14_
        have hHeld : w35.cell? ⟨gb322, 0, none⟩ = some (.int .i64 a0_0) ∧ w35.cell? ⟨gb322, 1, none⟩ = some (.slice A0_1 l0_1.length c0_1) ∧ w35.cell? ⟨gb323, 0, none⟩ = some (.string (⟨#[114, 97, 110, 107]⟩ : ByteArray)) ∧ w35.cell? ⟨gb323, 1, none⟩ = some (.int .i64 a1_1) ∧ w35.cell? ⟨gb323, 2, none⟩ = some (.int .i64 a1_2) ∧ w35.cell? ⟨gb324, 0, none⟩ = some (.int .i64 a3_0) ∧ w35.cell? ⟨gb324, 1, none⟩ = some (.int .i64 a3_1) ∧ w35.cell? ⟨gb324, 2, none⟩ = some (.bool a3_2) ∧ w35.cell? ⟨gb324, 3, none⟩ = some (.bool a3_3) ∧ w35.cell? ⟨gb324, 4, none⟩ = some (.int .i64 a3_4) := hS_
        refine norm_ (a' := ?_) ?_ ?_
        rotate_left
        · simp only [putAll, Act.put, List.setIfInBounds_toArray, List.set_cons_zero, List.set_cons_succ]
          rfl
        refine one_ (i := 11) (N := none) #[true, true, true, true, true, true, true, true, true, true, true, true, false, false] rfl rfl (one_of HT_.out (by kernel_rfl)) (by decide) (fun K hK => ?_)
        have hs36 : w35.cell? ⟨gb340, 0, none⟩ = some (.int .i64 0) := (blk_cell BK340.out 0).trans rfl
        have hfs36 := blk_frozen BK340.out 0
        have hns36_0 := NB322_340.out
        have hns36_1 := NB323_340.out
        have hns36_2 := NB324_340.out
        have hms36_0 := NB340_322.out
        have hms36_1 := NB340_323.out
        have hms36_2 := NB340_324.out
        have hs37 : w35.cell? ⟨gb340, 1, none⟩ = some (.int .i64 0) := (blk_cell BK340.out 1).trans rfl
        have hfs37 := blk_frozen BK340.out 1
        have hns37_0 := NB322_340.out
        have hns37_1 := NB323_340.out
        have hns37_2 := NB324_340.out
        have hms37_0 := NB340_322.out
        have hms37_1 := NB340_323.out
        have hms37_2 := NB340_324.out
        have hs38 : w35.cell? ⟨gb340, 2, none⟩ = some (.bool false) := (blk_cell BK340.out 2).trans rfl
        have hfs38 := blk_frozen BK340.out 2
        have hns38_0 := NB322_340.out
        have hns38_1 := NB323_340.out
        have hns38_2 := NB324_340.out
        have hms38_0 := NB340_322.out
        have hms38_1 := NB340_323.out
        have hms38_2 := NB340_324.out
        have hs39 : w35.cell? ⟨gb340, 3, none⟩ = some (.bool false) := (blk_cell BK340.out 3).trans rfl
        have hfs39 := blk_frozen BK340.out 3
        have hns39_0 := NB322_340.out
        have hns39_1 := NB323_340.out
        have hns39_2 := NB324_340.out
        have hms39_0 := NB340_322.out
        have hms39_1 := NB340_323.out
        have hms39_2 := NB340_324.out
        have hs40 : w35.cell? ⟨gb340, 4, none⟩ = some (.int .i64 0) := (blk_cell BK340.out 4).trans rfl
        have hfs40 := blk_frozen BK340.out 4
        have hns40_0 := NB322_340.out
        have hns40_1 := NB323_340.out
        have hns40_2 := NB324_340.out
        have hms40_0 := NB340_322.out
        have hms40_1 := NB340_323.out
        have hms40_2 := NB340_324.out
        refine skip_ (w1 := ?_) (by rfl) rfl ?_ ?_
        rotate_left
        · go_simp
          rfl
        refine hK.out _ _ ⟨((cell_far (p := ⟨gb340, _, none⟩) NB322_340.out _).trans (((cell_far (p := ⟨gb340, _, none⟩) NB322_340.out _).trans (((cell_far (p := ⟨gb340, _, none⟩) NB322_340.out _).trans (((cell_far (p := ⟨gb340, _, none⟩) NB322_340.out _).trans (((cell_far (p := ⟨gb340, _, none⟩) NB322_340.out _).trans (hHeld.1)))))))))), ((cell_far (p := ⟨gb340, _, none⟩) NB322_340.out _).trans (((cell_far (p := ⟨gb340, _, none⟩) NB322_340.out _).trans (((cell_far (p := ⟨gb340, _, none⟩) NB322_340.out _).trans (((cell_far (p := ⟨gb340, _, none⟩) NB322_340.out _).trans (((cell_far (p := ⟨gb340, _, none⟩) NB322_340.out _).trans (hHeld.2.1)))))))))), ((cell_far (p := ⟨gb340, _, none⟩) NB323_340.out _).trans (((cell_far (p := ⟨gb340, _, none⟩) NB323_340.out _).trans (((cell_far (p := ⟨gb340, _, none⟩) NB323_340.out _).trans (((cell_far (p := ⟨gb340, _, none⟩) NB323_340.out _).trans (((cell_far (p := ⟨gb340, _, none⟩) NB323_340.out _).trans (hHeld.2.2.1)))))))))), ((cell_far (p := ⟨gb340, _, none⟩) NB323_340.out _).trans (((cell_far (p := ⟨gb340, _, none⟩) NB323_340.out _).trans (((cell_far (p := ⟨gb340, _, none⟩) NB323_340.out _).trans (((cell_far (p := ⟨gb340, _, none⟩) NB323_340.out _).trans (((cell_far (p := ⟨gb340, _, none⟩) NB323_340.out _).trans (hHeld.2.2.2.1)))))))))), ((cell_far (p := ⟨gb340, _, none⟩) NB323_340.out _).trans (((cell_far (p := ⟨gb340, _, none⟩) NB323_340.out _).trans (((cell_far (p := ⟨gb340, _, none⟩) NB323_340.out _).trans (((cell_far (p := ⟨gb340, _, none⟩) NB323_340.out _).trans (((cell_far (p := ⟨gb340, _, none⟩) NB323_340.out _).trans (hHeld.2.2.2.2.1)))))))))), ((cell_far (p := ⟨gb340, _, none⟩) NB324_340.out _).trans (((cell_far (p := ⟨gb340, _, none⟩) NB324_340.out _).trans (((cell_far (p := ⟨gb340, _, none⟩) NB324_340.out _).trans (((cell_far (p := ⟨gb340, _, none⟩) NB324_340.out _).trans (((cell_far (p := ⟨gb340, _, none⟩) NB324_340.out _).trans (hHeld.2.2.2.2.2.1)))))))))), ((cell_far (p := ⟨gb340, _, none⟩) NB324_340.out _).trans (((cell_far (p := ⟨gb340, _, none⟩) NB324_340.out _).trans (((cell_far (p := ⟨gb340, _, none⟩) NB324_340.out _).trans (((cell_far (p := ⟨gb340, _, none⟩) NB324_340.out _).trans (((cell_far (p := ⟨gb340, _, none⟩) NB324_340.out _).trans (hHeld.2.2.2.2.2.2.1)))))))))), ((cell_far (p := ⟨gb340, _, none⟩) NB324_340.out _).trans (((cell_far (p := ⟨gb340, _, none⟩) NB324_340.out _).trans (((cell_far (p := ⟨gb340, _, none⟩) NB324_340.out _).trans (((cell_far (p := ⟨gb340, _, none⟩) NB324_340.out _).trans (((cell_far (p := ⟨gb340, _, none⟩) NB324_340.out _).trans (hHeld.2.2.2.2.2.2.2.1)))))))))), ((cell_far (p := ⟨gb340, _, none⟩) NB324_340.out _).trans (((cell_far (p := ⟨gb340, _, none⟩) NB324_340.out _).trans (((cell_far (p := ⟨gb340, _, none⟩) NB324_340.out _).trans (((cell_far (p := ⟨gb340, _, none⟩) NB324_340.out _).trans (((cell_far (p := ⟨gb340, _, none⟩) NB324_340.out _).trans (hHeld.2.2.2.2.2.2.2.2.1)))))))))), ((cell_far (p := ⟨gb340, _, none⟩) NB324_340.out _).trans (((cell_far (p := ⟨gb340, _, none⟩) NB324_340.out _).trans (((cell_far (p := ⟨gb340, _, none⟩) NB324_340.out _).trans (((cell_far (p := ⟨gb340, _, none⟩) NB324_340.out _).trans (((cell_far (p := ⟨gb340, _, none⟩) NB324_340.out _).trans (hHeld.2.2.2.2.2.2.2.2.2))))))))))⟩ (fun hHeld => ?_)
        clear hK K
        refine pure_ (i := 12) (N := some 10) (v := ?_) (a' := ?_) #[true, true, true, true, true, true, true, true, true, true, true, true, true, false] rfl rfl (any_of HT_.out (by kernel_rfl)) (fun _ _ _ h => h) (Or.inl ⟨by rfl, ?_⟩) ?_ ?_
        rotate_left
        · intro w'
          go_simp
          with_reducible rfl
        rotate_left
        · simp only [Act.put, List.setIfInBounds_toArray, List.set_cons_zero, List.set_cons_succ, i64_w, i32_w]
          rfl
        refine pure_ (i := 13) (N := some 11) (v := ?_) (a' := ?_) #[true, true, true, true, true, true, true, true, true, true, true, true, true, true] rfl rfl (any_of HT_.out (by kernel_rfl)) (fun _ _ _ h => h) (Or.inl ⟨by rfl, ?_⟩) ?_ ?_
        rotate_left
        · intro w'
          go_simp
          with_reducible rfl
        rotate_left
        · simp only [Act.put, List.setIfInBounds_toArray, List.set_cons_zero, List.set_cons_succ, i64_w, i32_w]
          rfl
        refine done_ (done_of HT_.out (by kernel_rfl)) ?_
        have H := HH_.out
        clear HH_
        by_cases c21 : t339 = 0
        · rw [if_pos c21] at H
          have c21b0 : (t339 == 0) = true := beq_iff_eq.mpr c21
          have c21b1 : (t339 != 0) = false := bne_eq_false_iff_eq.mpr c21
          clear c21
          have HH_ := Aside0.mk H
          clear H
          have hnb41 := NB324_322.out
          have hnc41 := NB322_324.out
          have hnb42 := NB324_340.out
          have hnc42 := NB340_324.out
          have hcz43_0 : w35.cell? ⟨gb324, 0, none⟩ = some (.int .i64 a3_0) := (blk_cell BK324.out 0).trans rfl
          have hcz43_1 : w35.cell? ⟨gb324, 1, none⟩ = some (.int .i64 a3_1) := (blk_cell BK324.out 1).trans rfl
          have hcz43_2 : w35.cell? ⟨gb324, 2, none⟩ = some (.bool a3_2) := (blk_cell BK324.out 2).trans rfl
          have hcz43_3 : w35.cell? ⟨gb324, 3, none⟩ = some (.bool a3_3) := (blk_cell BK324.out 3).trans rfl
          have hcz43_4 : w35.cell? ⟨gb324, 4, none⟩ = some (.int .i64 a3_4) := (blk_cell BK324.out 4).trans rfl
          have hfz43_0 := blk_frozen BK324.out 0
          have hfz43_1 := blk_frozen BK324.out 1
          have hfz43_2 := blk_frozen BK324.out 2
          have hfz43_3 := blk_frozen BK324.out 3
          have hfz43_4 := blk_frozen BK324.out 4
          have H := HH_.out
          clear HH_
          by_cases c22 : a3_2 = true
          · subst c22
            have H1 : (if (t333 == (decide (a2 < (wrap64 (a1_2 - 1))))) = true then (if t333 = true then (if a2 > 0 then (some true) else (some (t332 == a3_1))) else (if (t336.length : Int) = 0 then (if a2 > 0 then (some true) else (some (t332 == a3_1))) else (some false))) else (some false)) = some r := by rw [if_pos rfl] at H; exact H
            clear H
            have H := H1
            clear H1
            have HH_ := Aside0.mk H
            clear H
            have hnb44 := NB340_322.out
            have hnc44 := NB322_340.out
            have hnb45 := NB340_323.out
            have hnc45 := NB323_340.out
            have hcz46_0 : w35.cell? ⟨gb340, 0, none⟩ = some (.int .i64 0) := (blk_cell BK340.out 0).trans rfl
            have hcz46_1 : w35.cell? ⟨gb340, 1, none⟩ = some (.int .i64 0) := (blk_cell BK340.out 1).trans rfl
            have hcz46_2 : w35.cell? ⟨gb340, 2, none⟩ = some (.bool false) := (blk_cell BK340.out 2).trans rfl
            have hcz46_3 : w35.cell? ⟨gb340, 3, none⟩ = some (.bool false) := (blk_cell BK340.out 3).trans rfl
            have hcz46_4 : w35.cell? ⟨gb340, 4, none⟩ = some (.int .i64 0) := (blk_cell BK340.out 4).trans rfl
            have hfz46_0 := blk_frozen BK340.out 0
            have hfz46_1 := blk_frozen BK340.out 1
            have hfz46_2 := blk_frozen BK340.out 2
            have hfz46_3 := blk_frozen BK340.out 3
            have hfz46_4 := blk_frozen BK340.out 4
            have hcz47_0 : w35.cell? ⟨gb323, 0, none⟩ = some (.string (⟨#[114, 97, 110, 107]⟩ : ByteArray)) := (blk_cell BK323.out 0).trans rfl
            have hcz47_1 : w35.cell? ⟨gb323, 1, none⟩ = some (.int .i64 a1_1) := (blk_cell BK323.out 1).trans rfl
            have hcz47_2 : w35.cell? ⟨gb323, 2, none⟩ = some (.int .i64 a1_2) := (blk_cell BK323.out 2).trans rfl
            have hfz47_0 := blk_frozen BK323.out 0
            have hfz47_1 := blk_frozen BK323.out 1
            have hfz47_2 := blk_frozen BK323.out 2
            have H := HH_.out
            clear HH_
            by_cases c23 : (t333 == (decide (a2 < (wrap64 (a1_2 - 1))))) = true
            · rw [if_pos c23] at H
              have c23b0 : (t333 == (decide (a2 < (wrap64 (a1_2 - 1))))) = true := c23
              (try (have c23b1 : decide (t333 = (decide (a2 < (wrap64 (a1_2 - 1))))) = true := by simpa using c23))
              (try (have c23b2 : (t333 == (decide (a2 < (wrap64 (a1_2 - 1))))) = true := by simpa using c23))
              clear c23
              by_cases c24 : t333 = true
              · subst c24
                have H1 : (if a2 > 0 then (some true) else (some (t332 == a3_1))) = some r := by rw [if_pos rfl] at H; exact H
                clear H
                have H := H1
                clear H1
                by_cases c25 : a2 > 0
                · rw [if_pos c25] at H
                  have c25b0 : decide (0 < a2) = true := decide_eq_true c25
                  clear c25
                  obtain rfl := Option.some.inj H
                  try go_wp2
                  go_ret
                  exact ⟨by first | rfl | (simp [errW_none, errW_some] <;> rfl) | (simp [*, errW_none, errW_some] <;> rfl), by repeat (first | (with_reducible first | exact HB.out | apply below_alloc | apply pw_below_drewN | apply below_drew1 | refine below_set ?_ GE322.out | refine below_set ?_ GE323.out | refine below_set ?_ GE324.out | refine below_set ?_ GE340.out) | exact HB.out)⟩
                · rw [if_neg c25] at H
                  have c25b0 : decide (0 < a2) = false := decide_eq_false c25
                  clear c25
                  obtain rfl := Option.some.inj H
                  try go_wp2
                  go_ret
                  exact ⟨by first | rfl | (simp [errW_none, errW_some] <;> rfl) | (simp [*, errW_none, errW_some] <;> rfl), by repeat (first | (with_reducible first | exact HB.out | apply below_alloc | apply pw_below_drewN | apply below_drew1 | refine below_set ?_ GE322.out | refine below_set ?_ GE323.out | refine below_set ?_ GE324.out | refine below_set ?_ GE340.out) | exact HB.out)⟩
              · replace c24 := Bool.eq_false_iff.mpr c24
                subst c24
                have H1 : (if (t336.length : Int) = 0 then (if a2 > 0 then (some true) else (some (t332 == a3_1))) else (some false)) = some r := by rw [if_neg (show ¬ (false = true) by decide)] at H; exact H
                clear H
                have H := H1
                clear H1
                have HH_ := Aside0.mk H
                clear H
                obtain ⟨Ao94, co94, eo94⟩ := Kd.R_slice HO338.out
                subst eo94
                have H := HH_.out
                clear HH_
                by_cases c70 : (t336.length : Int) = 0
                · rw [if_pos c70] at H
                  have c70b0 : ((t336.length : Int) == 0) = true := beq_iff_eq.mpr c70
                  have c70b1 : ((t336.length : Int) != 0) = false := bne_eq_false_iff_eq.mpr c70
                  clear c70
                  by_cases c71 : a2 > 0
                  · rw [if_pos c71] at H
                    have c71b0 : decide (0 < a2) = true := decide_eq_true c71
                    clear c71
                    obtain rfl := Option.some.inj H
                    try go_wp2
                    go_ret
                    exact ⟨by first | rfl | (simp [errW_none, errW_some] <;> rfl) | (simp [*, errW_none, errW_some] <;> rfl), by repeat (first | (with_reducible first | exact HB.out | apply below_alloc | apply pw_below_drewN | apply below_drew1 | refine below_set ?_ GE322.out | refine below_set ?_ GE323.out | refine below_set ?_ GE324.out | refine below_set ?_ GE340.out) | exact HB.out)⟩
                  · rw [if_neg c71] at H
                    have c71b0 : decide (0 < a2) = false := decide_eq_false c71
                    clear c71
                    obtain rfl := Option.some.inj H
                    try go_wp2
                    go_ret
                    exact ⟨by first | rfl | (simp [errW_none, errW_some] <;> rfl) | (simp [*, errW_none, errW_some] <;> rfl), by repeat (first | (with_reducible first | exact HB.out | apply below_alloc | apply pw_below_drewN | apply below_drew1 | refine below_set ?_ GE322.out | refine below_set ?_ GE323.out | refine below_set ?_ GE324.out | refine below_set ?_ GE340.out) | exact HB.out)⟩
                · rw [if_neg c70] at H
                  have c70b0 : ((t336.length : Int) == 0) = false := beq_eq_false_iff_ne.mpr c70
                  have c70b1 : ((t336.length : Int) != 0) = true := bne_iff_ne.mpr c70
                  have c70b2 : ¬ (t336 = []) := fun h_ => c70 (by rw [h_]; rfl)
                  obtain rfl := Option.some.inj H
                  try go_wp2
                  go_ret
                  exact ⟨by first | rfl | (simp [errW_none, errW_some] <;> rfl) | (simp [*, errW_none, errW_some] <;> rfl), by repeat (first | (with_reducible first | exact HB.out | apply below_alloc | apply pw_below_drewN | apply below_drew1 | refine below_set ?_ GE322.out | refine below_set ?_ GE323.out | refine below_set ?_ GE324.out | refine below_set ?_ GE340.out) | exact HB.out)⟩
            · rw [if_neg c23] at H
              have c23b0 : (t333 == (decide (a2 < (wrap64 (a1_2 - 1))))) = false := by simpa using c23
              (try (have c23b1 : decide (t333 = (decide (a2 < (wrap64 (a1_2 - 1))))) = false := by simpa using c23))
              (try (have c23b2 : (t333 == (decide (a2 < (wrap64 (a1_2 - 1))))) = false := by simpa using c23))
              (try (have c23b3 : ¬ (t333 = (decide (a2 < (wrap64 (a1_2 - 1))))) := by simpa using c23))
              clear c23
              obtain rfl := Option.some.inj H
              try go_wp2
              go_ret
              exact ⟨by first | rfl | (simp [errW_none, errW_some] <;> rfl) | (simp [*, errW_none, errW_some] <;> rfl), by repeat (first | (with_reducible first | exact HB.out | apply below_alloc | apply pw_below_drewN | apply below_drew1 | refine below_set ?_ GE322.out | refine below_set ?_ GE323.out | refine below_set ?_ GE324.out | refine below_set ?_ GE340.out) | exact HB.out)⟩
          · replace c22 := Bool.eq_false_iff.mpr c22
            subst c22
            have H1 : (if a3_3 = true then (if (t333 == (decide (a2 < (wrap64 (a1_2 - 1))))) = true then (if t333 = true then (if a2 > 0 then (some true) else (some (t332 == a3_1))) else (if (t336.length : Int) = 0 then (if a2 > 0 then (some true) else (some (t332 == a3_1))) else (some false))) else (some false)) else (some ((t336.length : Int) == 0))) = some r := by rw [if_neg (show ¬ (false = true) by decide)] at H; exact H
            clear H
            have H := H1
            clear H1
            by_cases c163 : a3_3 = true
            · subst c163
              have H1 : (if (t333 == (decide (a2 < (wrap64 (a1_2 - 1))))) = true then (if t333 = true then (if a2 > 0 then (some true) else (some (t332 == a3_1))) else (if (t336.length : Int) = 0 then (if a2 > 0 then (some true) else (some (t332 == a3_1))) else (some false))) else (some false)) = some r := by rw [if_pos rfl] at H; exact H
              clear H
              have H := H1
              clear H1
              have HH_ := Aside0.mk H
              clear H
              have hnb185 := NB340_322.out
              have hnc185 := NB322_340.out
              have hnb186 := NB340_323.out
              have hnc186 := NB323_340.out
              have hcz187_0 : w35.cell? ⟨gb340, 0, none⟩ = some (.int .i64 0) := (blk_cell BK340.out 0).trans rfl
              have hcz187_1 : w35.cell? ⟨gb340, 1, none⟩ = some (.int .i64 0) := (blk_cell BK340.out 1).trans rfl
              have hcz187_2 : w35.cell? ⟨gb340, 2, none⟩ = some (.bool false) := (blk_cell BK340.out 2).trans rfl
              have hcz187_3 : w35.cell? ⟨gb340, 3, none⟩ = some (.bool false) := (blk_cell BK340.out 3).trans rfl
              have hcz187_4 : w35.cell? ⟨gb340, 4, none⟩ = some (.int .i64 0) := (blk_cell BK340.out 4).trans rfl
              have hfz187_0 := blk_frozen BK340.out 0
              have hfz187_1 := blk_frozen BK340.out 1
              have hfz187_2 := blk_frozen BK340.out 2
              have hfz187_3 := blk_frozen BK340.out 3
              have hfz187_4 := blk_frozen BK340.out 4
              have hcz188_0 : w35.cell? ⟨gb323, 0, none⟩ = some (.string (⟨#[114, 97, 110, 107]⟩ : ByteArray)) := (blk_cell BK323.out 0).trans rfl
              have hcz188_1 : w35.cell? ⟨gb323, 1, none⟩ = some (.int .i64 a1_1) := (blk_cell BK323.out 1).trans rfl
              have hcz188_2 : w35.cell? ⟨gb323, 2, none⟩ = some (.int .i64 a1_2) := (blk_cell BK323.out 2).trans rfl
              have hfz188_0 := blk_frozen BK323.out 0
              have hfz188_1 := blk_frozen BK323.out 1
              have hfz188_2 := blk_frozen BK323.out 2
              have H := HH_.out
              clear HH_
              by_cases c164 : (t333 == (decide (a2 < (wrap64 (a1_2 - 1))))) = true
              · rw [if_pos c164] at H
                have c164b0 : (t333 == (decide (a2 < (wrap64 (a1_2 - 1))))) = true := c164
                (try (have c164b1 : decide (t333 = (decide (a2 < (wrap64 (a1_2 - 1))))) = true := by simpa using c164))
                (try (have c164b2 : (t333 == (decide (a2 < (wrap64 (a1_2 - 1))))) = true := by simpa using c164))
                clear c164
                by_cases c165 : t333 = true
                · subst c165
                  have H1 : (if a2 > 0 then (some true) else (some (t332 == a3_1))) = some r := by rw [if_pos rfl] at H; exact H
                  clear H
                  have H := H1
                  clear H1
                  by_cases c166 : a2 > 0
                  · rw [if_pos c166] at H
                    have c166b0 : decide (0 < a2) = true := decide_eq_true c166
                    clear c166
                    obtain rfl := Option.some.inj H
                    try go_wp2
                    go_ret
                    exact ⟨by first | rfl | (simp [errW_none, errW_some] <;> rfl) | (simp [*, errW_none, errW_some] <;> rfl), by repeat (first | (with_reducible first | exact HB.out | apply below_alloc | apply pw_below_drewN | apply below_drew1 | refine below_set ?_ GE322.out | refine below_set ?_ GE323.out | refine below_set ?_ GE324.out | refine below_set ?_ GE340.out) | exact HB.out)⟩
                  · rw [if_neg c166] at H
                    have c166b0 : decide (0 < a2) = false := decide_eq_false c166
                    clear c166
                    obtain rfl := Option.some.inj H
                    try go_wp2
                    go_ret
                    exact ⟨by first | rfl | (simp [errW_none, errW_some] <;> rfl) | (simp [*, errW_none, errW_some] <;> rfl), by repeat (first | (with_reducible first | exact HB.out | apply below_alloc | apply pw_below_drewN | apply below_drew1 | refine below_set ?_ GE322.out | refine below_set ?_ GE323.out | refine below_set ?_ GE324.out | refine below_set ?_ GE340.out) | exact HB.out)⟩
                · replace c165 := Bool.eq_false_iff.mpr c165
                  subst c165
                  have H1 : (if (t336.length : Int) = 0 then (if a2 > 0 then (some true) else (some (t332 == a3_1))) else (some false)) = some r := by rw [if_neg (show ¬ (false = true) by decide)] at H; exact H
                  clear H
                  have H := H1
                  clear H1
                  have HH_ := Aside0.mk H
                  clear H
                  obtain ⟨Ao235, co235, eo235⟩ := Kd.R_slice HO338.out
                  subst eo235
                  have H := HH_.out
                  clear HH_
                  by_cases c211 : (t336.length : Int) = 0
                  · rw [if_pos c211] at H
                    have c211b0 : ((t336.length : Int) == 0) = true := beq_iff_eq.mpr c211
                    have c211b1 : ((t336.length : Int) != 0) = false := bne_eq_false_iff_eq.mpr c211
                    clear c211
                    by_cases c212 : a2 > 0
                    · rw [if_pos c212] at H
                      have c212b0 : decide (0 < a2) = true := decide_eq_true c212
                      clear c212
                      obtain rfl := Option.some.inj H
                      try go_wp2
                      go_ret
                      exact ⟨by first | rfl | (simp [errW_none, errW_some] <;> rfl) | (simp [*, errW_none, errW_some] <;> rfl), by repeat (first | (with_reducible first | exact HB.out | apply below_alloc | apply pw_below_drewN | apply below_drew1 | refine below_set ?_ GE322.out | refine below_set ?_ GE323.out | refine below_set ?_ GE324.out | refine below_set ?_ GE340.out) | exact HB.out)⟩
                    · rw [if_neg c212] at H
                      have c212b0 : decide (0 < a2) = false := decide_eq_false c212
                      clear c212
                      obtain rfl := Option.some.inj H
                      try go_wp2
                      go_ret
                      exact ⟨by first | rfl | (simp [errW_none, errW_some] <;> rfl) | (simp [*, errW_none, errW_some] <;> rfl), by repeat (first | (with_reducible first | exact HB.out | apply below_alloc | apply pw_below_drewN | apply below_drew1 | refine below_set ?_ GE322.out | refine below_set ?_ GE323.out | refine below_set ?_ GE324.out | refine below_set ?_ GE340.out) | exact HB.out)⟩
                  · rw [if_neg c211] at H
                    have c211b0 : ((t336.length : Int) == 0) = false := beq_eq_false_iff_ne.mpr c211
                    have c211b1 : ((t336.length : Int) != 0) = true := bne_iff_ne.mpr c211
                    have c211b2 : ¬ (t336 = []) := fun h_ => c211 (by rw [h_]; rfl)
                    obtain rfl := Option.some.inj H
                    try go_wp2
                    go_ret
                    exact ⟨by first | rfl | (simp [errW_none, errW_some] <;> rfl) | (simp [*, errW_none, errW_some] <;> rfl), by repeat (first | (with_reducible first | exact HB.out | apply below_alloc | apply pw_below_drewN | apply below_drew1 | refine below_set ?_ GE322.out | refine below_set ?_ GE323.out | refine below_set ?_ GE324.out | refine below_set ?_ GE340.out) | exact HB.out)⟩
              · rw [if_neg c164] at H
                have c164b0 : (t333 == (decide (a2 < (wrap64 (a1_2 - 1))))) = false := by simpa using c164
                (try (have c164b1 : decide (t333 = (decide (a2 < (wrap64 (a1_2 - 1))))) = false := by simpa using c164))
                (try (have c164b2 : (t333 == (decide (a2 < (wrap64 (a1_2 - 1))))) = false := by simpa using c164))
                (try (have c164b3 : ¬ (t333 = (decide (a2 < (wrap64 (a1_2 - 1))))) := by simpa using c164))
                clear c164
                obtain rfl := Option.some.inj H
                try go_wp2
                go_ret
                exact ⟨by first | rfl | (simp [errW_none, errW_some] <;> rfl) | (simp [*, errW_none, errW_some] <;> rfl), by repeat (first | (with_reducible first | exact HB.out | apply below_alloc | apply pw_below_drewN | apply below_drew1 | refine below_set ?_ GE322.out | refine below_set ?_ GE323.out | refine below_set ?_ GE324.out | refine below_set ?_ GE340.out) | exact HB.out)⟩
            · replace c163 := Bool.eq_false_iff.mpr c163
              subst c163
              have H1 : (some ((t336.length : Int) == 0)) = some r := by rw [if_neg (show ¬ (false = true) by decide)] at H; exact H
              clear H
              have H := H1
              clear H1
              obtain rfl := Option.some.inj H
              obtain ⟨Ao322, co322, eo322⟩ := Kd.R_slice HO338.out
              subst eo322
              try go_wp2
              go_ret
              exact ⟨by first | rfl | (simp [errW_none, errW_some] <;> rfl) | (simp [*, errW_none, errW_some] <;> rfl), by repeat (first | (with_reducible first | exact HB.out | apply below_alloc | apply pw_below_drewN | apply below_drew1 | refine below_set ?_ GE322.out | refine below_set ?_ GE323.out | refine below_set ?_ GE324.out | refine below_set ?_ GE340.out) | exact HB.out)⟩
        · rw [if_neg c21] at H
          have c21b0 : (t339 == 0) = false := beq_eq_false_iff_ne.mpr c21
          have c21b1 : (t339 != 0) = true := bne_iff_ne.mpr c21
          obtain rfl := Option.some.inj H
          obtain ⟨Ao338, co338, eo338⟩ := Kd.R_slice HO338.out
          subst eo338
          try go_wp2
          go_ret
          exact ⟨by first | rfl | (simp [errW_none, errW_some] <;> rfl) | (simp [*, errW_none, errW_some] <;> rfl), by repeat (first | (with_reducible first | exact HB.out | apply below_alloc | apply pw_below_drewN | apply below_drew1 | refine below_set ?_ GE322.out | refine below_set ?_ GE323.out | refine below_set ?_ GE324.out | refine below_set ?_ GE340.out) | exact HB.out)⟩

end Go.Proofs.Ytdmihkffjbapjaa.P
