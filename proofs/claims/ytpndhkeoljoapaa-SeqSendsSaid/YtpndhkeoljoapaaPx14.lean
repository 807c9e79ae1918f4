/- Printed by a program of this session (wip/myprint.py) over the print of the kit: what the Go functions of this seat compute, as Lean functions, and that they do; for the functions that take or make function values the contracts are by hand. No condition. -/
import Derived.Test.YtpndhkeoljoapaaPx0
import Derived.Test.YtpndhkeoljoapaaPx8
import Derived.Test.YtpndhkeoljoapaaPx9
import Derived.Test.YtpndhkeoljoapaaPx10
namespace Go.Proofs.Ytpndhkeoljoapaa.P
open Go.RowKit Go.Proofs.YtpndhkeoljoapaaW.PrintWords Go.Proofs.YtpndhkeoljoapaaW.PrintLast Go.Proofs.YtpndhkeoljoapaaW.PrintMore
attribute [local go_sem] max2_int min2_int max_two min_two max_three min_three max_four min_four   -- for this text's walks alone
set_option linter.unusedVariables false
set_option linter.unusedSimpArgs false
set_option linter.unnecessarySimpa false

/-! ### modillionlaw09_SeqSends: function 6 -/
mutual
def modillionlaw09_SeqSends.j0 : Nat → Int → List (S50) → Bool → Int → List (S45) → ByteArray → Int → Int → Option (Bool)
  | 0, _, _, _, _, _, _, _, _ => none
  | k + 1, x2, x3, x27, x279000, x279001, x280000, x280001, x280002 => if x27 = true then ((modillionlaw09_awake.f k).bind fun t281 => (some t281)) else ((modillionlaw09_Own.f x279000 x279001).bind fun bt282 => ((some (([] : List (S50)) : List (S50))).bind fun y286 => (if y286.length + x3.length < 4398046511104 then ((seq_Next.f bt282.1 bt282.2 x280000 x280001 x280002 x2 (y286 ++ x3)).bind fun bt292 => (if bt292.2.2 = 0 then (modillionlaw09_SeqSends.l0 k x3 bt292.1 bt292.2.1 0) else (if (bt292.1.length : Int) = 0 then (some ((bt292.2.1.length : Int) == 0)) else (some false)))) else (none))))
def modillionlaw09_SeqSends.l0 : Nat → List (S50) → List (S50) → List (S48) → Int → Option (Bool)
  | 0, _, _, _, _ => none
  | k + 1, x3, x9, x10, x12 => if x12 < (x9.length : Int) then (modillionlaw09_SeqSends.l1 k x3 x9 x10 x12 false 0) else (some ((x9.length : Int) == (x3.length : Int)))
def modillionlaw09_SeqSends.l1 : Nat → List (S50) → List (S50) → List (S48) → Int → Bool → Int → Option (Bool)
  | 0, _, _, _, _, _, _ => none
  | k + 1, x3, x9, x10, x12, x13, x14 => if x14 < (x10.length : Int) then (if x13 = true then (modillionlaw09_SeqSends.l1 k x3 x9 x10 x12 true (wrap64 (x14 + 1))) else (if 0 ≤ x14 then (modillionlaw09_SeqSends.l1 k x3 x9 x10 x12 (((rd_T48 x10 x14).f1) == x12) (wrap64 (x14 + 1))) else (none))) else (if 0 ≤ x12 then (if x12 < (x9.length : Int) then (if ((rd_T50 x9 x12).f0) = x12 then (if (((rd_T50 x9 x12).f3) != x13) = true then (some false) else (if x13 = true then (modillionlaw09_SeqSends.l0 k x3 x9 x10 (wrap64 (x12 + 1))) else (if ((rd_T50 x9 x12).f4) = 0 then (modillionlaw09_SeqSends.l0 k x3 x9 x10 (wrap64 (x12 + 1))) else (some false)))) else (some false)) else (none)) else (none))
end
def modillionlaw09_SeqSends.f (k : Nat) (a0_0 : Int) (l0_1 : List (S45)) (a1_0 : ByteArray) (a1_1 : Int) (a1_2 : Int) (a2 : Int) (l3 : List (S50)) : Option (Bool) := (modillionlaw09_awake.f k).bind fun t280 => (if t280 = true then (if (l0_1.length : Int) > 60 then (modillionlaw09_SeqSends.j0 k a2 l3 true a0_0 l0_1 a1_0 a1_1 a1_2) else (modillionlaw09_SeqSends.j0 k a2 l3 (decide ((l3.length : Int) > 70)) a0_0 l0_1 a1_0 a1_1 a1_2)) else (modillionlaw09_SeqSends.j0 k a2 l3 true a0_0 l0_1 a1_0 a1_1 a1_2))
theorem modillionlaw09_SeqSends.mono_l : ∀ k, (∀ y0 y1 y2 y3 y4 y5 y6 y7, LeO (modillionlaw09_SeqSends.j0 k y0 y1 y2 y3 y4 y5 y6 y7) (modillionlaw09_SeqSends.j0 (k + 1) y0 y1 y2 y3 y4 y5 y6 y7)) ∧ (∀ y0 y1 y2 y3, LeO (modillionlaw09_SeqSends.l0 k y0 y1 y2 y3) (modillionlaw09_SeqSends.l0 (k + 1) y0 y1 y2 y3)) ∧ (∀ y0 y1 y2 y3 y4 y5, LeO (modillionlaw09_SeqSends.l1 k y0 y1 y2 y3 y4 y5) (modillionlaw09_SeqSends.l1 (k + 1) y0 y1 y2 y3 y4 y5))
  | 0 => ⟨fun _ _ _ _ _ _ _ _ r h => by simp [modillionlaw09_SeqSends.j0] at h, fun _ _ _ _ r h => by simp [modillionlaw09_SeqSends.l0] at h, fun _ _ _ _ _ _ r h => by simp [modillionlaw09_SeqSends.l1] at h⟩
  | k + 1 => by
    obtain ⟨ih0, ih1, ih2⟩ := modillionlaw09_SeqSends.mono_l k
    refine ⟨?_, ?_, ?_⟩
    · intro y0 y1 y2 y3 y4 y5 y6 y7
      unfold modillionlaw09_SeqSends.j0
      repeat' first
      | (with_reducible exact ih0 _ _ _ _ _ _ _ _)
      | (with_reducible exact ih1 _ _ _ _)
      | (with_reducible exact ih2 _ _ _ _ _ _)
      | (with_reducible exact modillionlaw09_awake.mono _)
      | (with_reducible exact LeO.refl _)
      | (with_reducible exact LeO.none _)
      | (with_reducible refine LeO.ite ?_ ?_)
      | (with_reducible refine LeO.bind ?_ (fun _ => ?_))
      | exact ih0 _ _ _ _ _ _ _ _
      | exact ih1 _ _ _ _
      | exact ih2 _ _ _ _ _ _
      | exact modillionlaw09_awake.mono _
      | exact LeO.none _
      | refine LeO.ite ?_ ?_
      | refine LeO.bind ?_ (fun _ => ?_)
    · intro y0 y1 y2 y3
      unfold modillionlaw09_SeqSends.l0
      repeat' first
      | (with_reducible exact ih0 _ _ _ _ _ _ _ _)
      | (with_reducible exact ih1 _ _ _ _)
      | (with_reducible exact ih2 _ _ _ _ _ _)
      | (with_reducible exact modillionlaw09_awake.mono _)
      | (with_reducible exact LeO.refl _)
      | (with_reducible exact LeO.none _)
      | (with_reducible refine LeO.ite ?_ ?_)
      | (with_reducible refine LeO.bind ?_ (fun _ => ?_))
      | exact ih0 _ _ _ _ _ _ _ _
      | exact ih1 _ _ _ _
      | exact ih2 _ _ _ _ _ _
      | exact modillionlaw09_awake.mono _
      | exact LeO.none _
      | refine LeO.ite ?_ ?_
      | refine LeO.bind ?_ (fun _ => ?_)
    · intro y0 y1 y2 y3 y4 y5
      unfold modillionlaw09_SeqSends.l1
      repeat' first
      | (with_reducible exact ih0 _ _ _ _ _ _ _ _)
      | (with_reducible exact ih1 _ _ _ _)
      | (with_reducible exact ih2 _ _ _ _ _ _)
      | (with_reducible exact modillionlaw09_awake.mono _)
      | (with_reducible exact LeO.refl _)
      | (with_reducible exact LeO.none _)
      | (with_reducible refine LeO.ite ?_ ?_)
      | (with_reducible refine LeO.bind ?_ (fun _ => ?_))
      | exact ih0 _ _ _ _ _ _ _ _
      | exact ih1 _ _ _ _
      | exact ih2 _ _ _ _ _ _
      | exact modillionlaw09_awake.mono _
      | exact LeO.none _
      | refine LeO.ite ?_ ?_
      | refine LeO.bind ?_ (fun _ => ?_)
theorem modillionlaw09_SeqSends.mono : ∀ a0 a1 a2 a3 a4 a5 a6 k, LeO (modillionlaw09_SeqSends.f k a0 a1 a2 a3 a4 a5 a6) (modillionlaw09_SeqSends.f (k + 1) a0 a1 a2 a3 a4 a5 a6) := by
  intro a0 a1 a2 a3 a4 a5 a6 k
  obtain ⟨ih0, ih1, ih2⟩ := modillionlaw09_SeqSends.mono_l k
  unfold modillionlaw09_SeqSends.f
  repeat' first
      | (with_reducible exact ih0 _ _ _ _ _ _ _ _)
      | (with_reducible exact ih1 _ _ _ _)
      | (with_reducible exact ih2 _ _ _ _ _ _)
      | (with_reducible exact modillionlaw09_awake.mono _)
      | (with_reducible exact LeO.refl _)
      | (with_reducible exact LeO.none _)
      | (with_reducible refine LeO.ite ?_ ?_)
      | (with_reducible refine LeO.bind ?_ (fun _ => ?_))
      | exact ih0 _ _ _ _ _ _ _ _
      | exact ih1 _ _ _ _
      | exact ih2 _ _ _ _ _ _
      | exact modillionlaw09_awake.mono _
      | exact LeO.none _
      | refine LeO.ite ?_ ?_
      | refine LeO.bind ?_ (fun _ => ?_)
def modillionlaw09_SeqSends.T3 : Bool × List (List Nat × List Nat) := (true, [([], []), ([0], [0]), ([], []), ([], []), ([], []), ([], []), ([4, 5, 1], [4, 5]), ([1, 2, 3, 6, 6], [1, 2, 3, 6]), ([7], [7]), ([8], [8]), ([8], [8]), ([8], [8]), ([9, 7, 0, 1, 2, 3, 4, 5, 6, 7, 8, 9], [9]), ([10, 12, 0, 1, 2, 3, 4, 5, 6, 7, 8, 9, 10, 12], [10]), ([11, 13, 0, 1, 2, 3, 4, 5, 6, 7, 8, 9, 10, 11, 12, 13], [11])])
def modillionlaw09_SeqSends.B3 : List Nat := [0, 1, 0, 0, 0, 0, 51, 127, 255, 511, 511, 511, 1023, 6143, 16383]
theorem modillionlaw09_SeqSends.tab3 : rtab .any (opsOf Try.f6 3) = modillionlaw09_SeqSends.T3 := by kernel_rfl
theorem modillionlaw09_SeqSends.bits3 : waitsOk modillionlaw09_SeqSends.T3.2 modillionlaw09_SeqSends.B3 = true := by kernel_rfl
set_option maxHeartbeats 8000000 in
set_option maxRecDepth 100000 in
theorem modillionlaw09_SeqSends.calls (k : Nat) (a0_0 : Int) (A0_1 : Option Addr) (c0_1 : Nat) (l0_1 : List (S45)) (a1_0 : ByteArray) (a1_1 : Int) (a1_2 : Int) (a2 : Int) (A3 : Option Addr) (c3 : Nat) (l3 : List (S50)) (r : Bool) (w : World) (hr0_1 : Kd.C k45 w A0_1 l0_1.length l0_1) (hc0_1 : l0_1.length ≤ c0_1) (hr3 : Kd.C k50 w A3 l3.length l3) (hc3 : l3.length ≤ c3) (h : modillionlaw09_SeqSends.f k a0_0 l0_1 a1_0 a1_1 a1_2 a2 l3 = some r) :
    Calls Try.prog 6 #[.agg #[.int .i64 a0_0, .slice A0_1 l0_1.length c0_1], .agg #[.string a1_0, .int .i64 a1_1, .int .i64 a1_2], .int .i64 a2, .slice A3 l3.length c3] w fun e w' => e = .returned (.bool r) ∧ Below w.heap.size w w' := by
  have hu24 := Try.underlying24
  have hu26 := Try.underlying26
  have HR0_1 := Aside0.mk hr0_1
  have HC0_1 := Aside0.mk hc0_1
  clear hr0_1 hc0_1
  have HR3 := Aside0.mk hr3
  have HC3 := Aside0.mk hc3
  clear hr3 hc3
  have HB := Aside0.mk (Below.refl w.heap.size w)
  have H : ((modillionlaw09_awake.f k).bind fun t280 => (if t280 = true then (if (l0_1.length : Int) > 60 then (modillionlaw09_SeqSends.j0 k a2 l3 true a0_0 l0_1 a1_0 a1_1 a1_2) else (modillionlaw09_SeqSends.j0 k a2 l3 (decide ((l3.length : Int) > 70)) a0_0 l0_1 a1_0 a1_1 a1_2)) else (modillionlaw09_SeqSends.j0 k a2 l3 true a0_0 l0_1 a1_0 a1_1 a1_2))) = some r := h
  clear h
  have HC5 := Aside0.mk H
  clear H
  go_enter Try.func6, Try.ntmps6
  go_upto_region 1 with (first | ((with_reducible refine gate_dst (N := 4) rfl ?_); (try (refine gate_guard (by rfl) ?_; dsimp only)); refine box_event ?hg (N := 4) ?hd (cs := #[.int .i64 a0_0, .slice A0_1 l0_1.length c0_1]) (t := 24) ?hr ?_; (case hd => rfl); (case hg => rfl); (case hr => first | (go_simp; done) | (go_simp; rfl)); intro gb278 hg w6 hbox hb; have n0_ := Aside0.mk (below_step (by repeat (first | (with_reducible first | exact HB.out | apply below_alloc | apply pw_below_drewN | apply below_drew1) | exact HB.out)) hb); have n1_ := Aside0.mk (hbox); have n2_ := Aside0.mk ((by rw [hg]; exact (below_size (by repeat (first | (with_reducible first | exact HB.out | apply below_alloc | apply pw_below_drewN | apply below_drew1) | exact HB.out))) : w.heap.size ≤ gb278)); have n3_ := Aside0.mk ((by rw [hg]; exact (below_size (by repeat (first | (with_reducible first | exact HB.out | apply below_alloc | apply pw_below_drewN | apply below_drew1) | exact HB.out))) : w.heap.size ≤ gb278)); clear HB; have HB := n0_; have BK278 := n1_; have GW278 := n2_; have GE278 := n3_; clear n0_ n1_ n2_ n3_; clear hb hbox hg) | ((with_reducible refine gate_dst (N := 5) rfl ?_); (try (refine gate_guard (by rfl) ?_; dsimp only)); refine box_event ?hg (N := 5) ?hd (cs := #[.string a1_0, .int .i64 a1_1, .int .i64 a1_2]) (t := 26) ?hr ?_; (case hd => rfl); (case hg => rfl); (case hr => first | (go_simp; done) | (go_simp; rfl)); intro gb279 hg w7 hbox hb; have n0_ := Aside0.mk (blk_below (g := gb278) (o := .cells #[.int .i64 a0_0, .slice A0_1 l0_1.length c0_1] 24 (0, 0)) (by (with_reducible repeat (first | refine blk_drewN ?_ _ | refine blk_drew ?_ | refine blk_alloc ?_ _)); exact BK278.out) hb); have n1_ := Aside0.mk (below_step (by repeat (first | (with_reducible first | exact HB.out | apply below_alloc | apply pw_below_drewN | apply below_drew1 | refine below_set ?_ GE278.out) | exact HB.out)) hb); have n2_ := Aside0.mk (hbox); have n3_ := Aside0.mk ((by rw [hg]; exact (below_size (by repeat (first | (with_reducible first | exact HB.out | apply below_alloc | apply pw_below_drewN | apply below_drew1 | refine below_set ?_ GE278.out) | exact HB.out))) : w.heap.size ≤ gb279)); have n4_ := Aside0.mk ((by rw [hg]; exact (below_size (by repeat (first | (with_reducible first | exact HB.out | apply below_alloc | apply pw_below_drewN | apply below_drew1 | refine below_set ?_ GE278.out) | exact HB.out))) : w.heap.size ≤ gb279)); have n5_ := Aside0.mk ((by rw [hg]; exact Nat.ne_of_lt (blk_lt (g := gb278) (o := .cells #[.int .i64 a0_0, .slice A0_1 l0_1.length c0_1] 24 (0, 0)) (by (with_reducible repeat (first | refine blk_drewN ?_ _ | refine blk_drew ?_ | refine blk_alloc ?_ _)); exact BK278.out)) : gb278 ≠ gb279)); have n6_ := Aside0.mk ((by rw [hg]; exact Nat.ne_of_gt (blk_lt (g := gb278) (o := .cells #[.int .i64 a0_0, .slice A0_1 l0_1.length c0_1] 24 (0, 0)) (by (with_reducible repeat (first | refine blk_drewN ?_ _ | refine blk_drew ?_ | refine blk_alloc ?_ _)); exact BK278.out)) : gb279 ≠ gb278)); clear BK278; clear HB; have BK278 := n0_; have HB := n1_; have BK279 := n2_; have GW279 := n3_; have GE279 := n4_; have NB278_279 := n5_; have NB279_278 := n6_; clear n0_ n1_ n2_ n3_ n4_ n5_ n6_; clear hb hbox hg))
  (try simp only [Act.put, List.setIfInBounds_toArray, List.set_cons_zero, List.set_cons_succ])
  go_cut [27] (fun v27 wc => ∃ (kq : Nat) (x27_4 : Bool), v27 = .bool x27_4 ∧ Aside0 (modillionlaw09_SeqSends.j0 kq a2 l3 x27_4 a0_0 l0_1 a1_0 a1_1 a1_2 = some r) ∧ Aside0 (kq ≤ k) ∧ Aside0 (wc.heap[gb278]? = some (.cells #[.int .i64 a0_0, (.slice A0_1 l0_1.length c0_1)] 24 (0, 0))) ∧ Aside0 (wc.heap[gb279]? = some (.cells #[.string a1_0, .int .i64 a1_1, .int .i64 a1_2] 26 (0, 0))) ∧ Aside0 (Below w.heap.size w wc))
  case first =>
    have H := HC5.out
    clear HC5
    replace H := Option.bind_eq_some_iff.mp H
    obtain ⟨t280, A80, H⟩ := H
    replace H : (if t280 = true then (if (l0_1.length : Int) > 60 then (modillionlaw09_SeqSends.j0 k a2 l3 true a0_0 l0_1 a1_0 a1_1 a1_2) else (modillionlaw09_SeqSends.j0 k a2 l3 (decide ((l3.length : Int) > 70)) a0_0 l0_1 a1_0 a1_1 a1_2)) else (modillionlaw09_SeqSends.j0 k a2 l3 true a0_0 l0_1 a1_0 a1_1 a1_2)) = some r := H
    have A8 := Aside0.mk A80
    clear A80
    by_cases c9 : t280 = true
    · subst c9
      have H1 : (if (l0_1.length : Int) > 60 then (modillionlaw09_SeqSends.j0 k a2 l3 true a0_0 l0_1 a1_0 a1_1 a1_2) else (modillionlaw09_SeqSends.j0 k a2 l3 (decide ((l3.length : Int) > 70)) a0_0 l0_1 a1_0 a1_1 a1_2)) = some r := by rw [if_pos rfl] at H; exact H
      clear H
      have H := H1
      clear H1
      by_cases c10 : (l0_1.length : Int) > 60
      · rw [if_pos c10] at H
        have c10b0 : decide (60 < (l0_1.length : Int)) = true := decide_eq_true c10
        have c10b1 : decide (60 < l0_1.length) = true := decide_eq_true (by omega)
        clear c10
        (first | rw [c10b0] | (simp only [i64_w, i32_w]; rw [c10b0]) | skip)
        have H' := Aside0.mk H
        clear H
        go_wp2_with (first | ((with_reducible refine gate_callee (f := 11) rfl ?_); refine goesL_ (some 15) rfl rfl Try.func11 (by kernel_rfl) rfl #[] rfl (by (try simp only [List.map_toArray, List.map_cons, List.map_nil]); first | done | rfl | (simp only [List.length_drop, List.length_take]; rfl)) ?_; (with_reducible refine (modillionlaw09_awake.calls k  true _ A8.out).mono ?_); rintro e w11 ⟨rfl, hb⟩; refine ⟨_, rfl, ?_⟩; have n0_ := Aside0.mk (blk_below (g := gb278) (o := .cells #[.int .i64 a0_0, .slice A0_1 l0_1.length c0_1] 24 (0, 0)) (by (with_reducible repeat (first | refine blk_drewN ?_ _ | refine blk_drew ?_ | refine blk_alloc ?_ _)); exact BK278.out) hb); have n1_ := Aside0.mk (blk_below (g := gb279) (o := .cells #[.string a1_0, .int .i64 a1_1, .int .i64 a1_2] 26 (0, 0)) (by (with_reducible repeat (first | refine blk_drewN ?_ _ | refine blk_drew ?_ | refine blk_alloc ?_ _)); exact BK279.out) hb); have n2_ := Aside0.mk (below_step (by repeat (first | (with_reducible first | exact HB.out | apply below_alloc | apply pw_below_drewN | apply below_drew1 | refine below_set ?_ GE278.out | refine below_set ?_ GE279.out) | exact HB.out)) hb); clear BK278; clear BK279; clear HB; have BK278 := n0_; have BK279 := n1_; have HB := n2_; clear n0_ n1_ n2_; (try clear hb); (try clear hb2); (try clear hk); (try clear hi); have hnb12 := NB278_279.out; have hnc12 := NB279_278.out; have hcz13_0 : w11.cell? ⟨gb278, 0, none⟩ = some (.int .i64 a0_0) := (blk_cell BK278.out 0).trans rfl; have hcz13_1 : w11.cell? ⟨gb278, 1, none⟩ = some (.slice A0_1 l0_1.length c0_1) := (blk_cell BK278.out 1).trans rfl; have hfz13_0 := blk_frozen BK278.out 0; have hfz13_1 := blk_frozen BK278.out 1))
        go_meet
        case rel => exact ⟨_, (true), (by first | rfl | (simp; done) | (simp [*]; done)), H', ⟨by first | omega | exact Nat.le_refl _⟩, ⟨by (with_reducible repeat (first | refine blk_drewN ?_ _ | refine blk_drew ?_ | refine blk_alloc ?_ _)); exact BK278.out⟩, ⟨by (with_reducible repeat (first | refine blk_drewN ?_ _ | refine blk_drew ?_ | refine blk_alloc ?_ _)); exact BK279.out⟩, ⟨by repeat (first | (with_reducible first | exact HB.out | apply below_alloc | apply pw_below_drewN | apply below_drew1 | refine below_set ?_ GE278.out | refine below_set ?_ GE279.out) | exact HB.out)⟩⟩
      · rw [if_neg c10] at H
        have c10b0 : decide (60 < (l0_1.length : Int)) = false := decide_eq_false c10
        have c10b1 : decide (60 < l0_1.length) = false := decide_eq_false (by omega)
        clear c10
        (first | rw [c10b0] | (simp only [i64_w, i32_w]; rw [c10b0]) | skip)
        have H' := Aside0.mk H
        clear H
        go_wp2_with (first | ((with_reducible refine gate_callee (f := 11) rfl ?_); refine goesL_ (some 15) rfl rfl Try.func11 (by kernel_rfl) rfl #[] rfl (by (try simp only [List.map_toArray, List.map_cons, List.map_nil]); first | done | rfl | (simp only [List.length_drop, List.length_take]; rfl)) ?_; (with_reducible refine (modillionlaw09_awake.calls k  true _ A8.out).mono ?_); rintro e w14 ⟨rfl, hb⟩; refine ⟨_, rfl, ?_⟩; have n0_ := Aside0.mk (blk_below (g := gb278) (o := .cells #[.int .i64 a0_0, .slice A0_1 l0_1.length c0_1] 24 (0, 0)) (by (with_reducible repeat (first | refine blk_drewN ?_ _ | refine blk_drew ?_ | refine blk_alloc ?_ _)); exact BK278.out) hb); have n1_ := Aside0.mk (blk_below (g := gb279) (o := .cells #[.string a1_0, .int .i64 a1_1, .int .i64 a1_2] 26 (0, 0)) (by (with_reducible repeat (first | refine blk_drewN ?_ _ | refine blk_drew ?_ | refine blk_alloc ?_ _)); exact BK279.out) hb); have n2_ := Aside0.mk (below_step (by repeat (first | (with_reducible first | exact HB.out | apply below_alloc | apply pw_below_drewN | apply below_drew1 | refine below_set ?_ GE278.out | refine below_set ?_ GE279.out) | exact HB.out)) hb); clear BK278; clear BK279; clear HB; have BK278 := n0_; have BK279 := n1_; have HB := n2_; clear n0_ n1_ n2_; (try clear hb); (try clear hb2); (try clear hk); (try clear hi); have hnb15 := NB278_279.out; have hnc15 := NB279_278.out; have hcz16_0 : w14.cell? ⟨gb278, 0, none⟩ = some (.int .i64 a0_0) := (blk_cell BK278.out 0).trans rfl; have hcz16_1 : w14.cell? ⟨gb278, 1, none⟩ = some (.slice A0_1 l0_1.length c0_1) := (blk_cell BK278.out 1).trans rfl; have hfz16_0 := blk_frozen BK278.out 0; have hfz16_1 := blk_frozen BK278.out 1))
        go_meet
        case rel => exact ⟨_, (decide ((l3.length : Int) > 70)), (by first | rfl | (simp; done) | (simp [*]; done)), H', ⟨by first | omega | exact Nat.le_refl _⟩, ⟨by (with_reducible repeat (first | refine blk_drewN ?_ _ | refine blk_drew ?_ | refine blk_alloc ?_ _)); exact BK278.out⟩, ⟨by (with_reducible repeat (first | refine blk_drewN ?_ _ | refine blk_drew ?_ | refine blk_alloc ?_ _)); exact BK279.out⟩, ⟨by repeat (first | (with_reducible first | exact HB.out | apply below_alloc | apply pw_below_drewN | apply below_drew1 | refine below_set ?_ GE278.out | refine below_set ?_ GE279.out) | exact HB.out)⟩⟩
    · replace c9 := Bool.eq_false_iff.mpr c9
      subst c9
      have H1 : (modillionlaw09_SeqSends.j0 k a2 l3 true a0_0 l0_1 a1_0 a1_1 a1_2) = some r := by rw [if_neg (show ¬ (false = true) by decide)] at H; exact H
      clear H
      have H := H1
      clear H1
      have H' := Aside0.mk H
      clear H
      go_wp2_with (first | ((with_reducible refine gate_callee (f := 11) rfl ?_); refine goesL_ (some 15) rfl rfl Try.func11 (by kernel_rfl) rfl #[] rfl (by (try simp only [List.map_toArray, List.map_cons, List.map_nil]); first | done | rfl | (simp only [List.length_drop, List.length_take]; rfl)) ?_; (with_reducible refine (modillionlaw09_awake.calls k  false _ A8.out).mono ?_); rintro e w17 ⟨rfl, hb⟩; refine ⟨_, rfl, ?_⟩; have n0_ := Aside0.mk (blk_below (g := gb278) (o := .cells #[.int .i64 a0_0, .slice A0_1 l0_1.length c0_1] 24 (0, 0)) (by (with_reducible repeat (first | refine blk_drewN ?_ _ | refine blk_drew ?_ | refine blk_alloc ?_ _)); exact BK278.out) hb); have n1_ := Aside0.mk (blk_below (g := gb279) (o := .cells #[.string a1_0, .int .i64 a1_1, .int .i64 a1_2] 26 (0, 0)) (by (with_reducible repeat (first | refine blk_drewN ?_ _ | refine blk_drew ?_ | refine blk_alloc ?_ _)); exact BK279.out) hb); have n2_ := Aside0.mk (below_step (by repeat (first | (with_reducible first | exact HB.out | apply below_alloc | apply pw_below_drewN | apply below_drew1 | refine below_set ?_ GE278.out | refine below_set ?_ GE279.out) | exact HB.out)) hb); clear BK278; clear BK279; clear HB; have BK278 := n0_; have BK279 := n1_; have HB := n2_; clear n0_ n1_ n2_; (try clear hb); (try clear hb2); (try clear hk); (try clear hi)))
      go_meet
      case rel => exact ⟨_, (true), (by first | rfl | (simp; done) | (simp [*]; done)), H', ⟨by first | omega | exact Nat.le_refl _⟩, ⟨by (with_reducible repeat (first | refine blk_drewN ?_ _ | refine blk_drew ?_ | refine blk_alloc ?_ _)); exact BK278.out⟩, ⟨by (with_reducible repeat (first | refine blk_drewN ?_ _ | refine blk_drew ?_ | refine blk_alloc ?_ _)); exact BK279.out⟩, ⟨by repeat (first | (with_reducible first | exact HB.out | apply below_alloc | apply pw_below_drewN | apply below_drew1 | refine below_set ?_ GE278.out | refine below_set ?_ GE279.out) | exact HB.out)⟩⟩
  case rest =>
    clear HC5
    try clear c1
    try clear p2
    try clear c3
    try clear c6
    try clear c9
    try clear c10
    try clear c10b0
    try clear c10b1
    try clear c11
    try clear c12
    try clear c15
    try clear hcz13_0
    try clear hcz13_1
    try clear hcz16_0
    try clear hcz16_1
    try clear hfz13_0
    try clear hfz13_1
    try clear hfz16_0
    try clear hfz16_1
    obtain ⟨kq, x27_4, rfl, HA, HJ4, BK278, BK279, HB⟩ := hcut
    cases kq with
    | zero => exact absurd HA.out (by simp [modillionlaw09_SeqSends.j0])
    | succ kj4 =>
      have H := HA.out
      clear HA
      simp only [modillionlaw09_SeqSends.j0] at H
      by_cases c18 : x27_4 = true
      · subst c18
        have H1 : ((modillionlaw09_awake.f kj4).bind fun t281 => (some t281)) = some r := by rw [if_pos rfl] at H; exact H
        clear H
        have H := H1
        clear H1
        replace H := Option.bind_eq_some_iff.mp H
        obtain ⟨t281, A190, H⟩ := H
        replace H : (some t281) = some r := H
        have A19 := Aside0.mk A190
        clear A190
        obtain rfl := Option.some.inj H
        go_wp2_with (first | ((with_reducible refine gate_callee (f := 11) rfl ?_); refine goesL_ (some 28) rfl rfl Try.func11 (by kernel_rfl) rfl #[] rfl (by (try simp only [List.map_toArray, List.map_cons, List.map_nil]); first | done | rfl | (simp only [List.length_drop, List.length_take]; rfl)) ?_; (with_reducible refine (modillionlaw09_awake.calls kj4  t281 _ A19.out).mono ?_); rintro e w20 ⟨rfl, hb⟩; refine ⟨_, rfl, ?_⟩; have n0_ := Aside0.mk (blk_below (g := gb278) (o := .cells #[.int .i64 a0_0, .slice A0_1 l0_1.length c0_1] 24 (0, 0)) (by (with_reducible repeat (first | refine blk_drewN ?_ _ | refine blk_drew ?_ | refine blk_alloc ?_ _)); exact BK278.out) hb); have n1_ := Aside0.mk (blk_below (g := gb279) (o := .cells #[.string a1_0, .int .i64 a1_1, .int .i64 a1_2] 26 (0, 0)) (by (with_reducible repeat (first | refine blk_drewN ?_ _ | refine blk_drew ?_ | refine blk_alloc ?_ _)); exact BK279.out) hb); have n2_ := Aside0.mk (below_step (by repeat (first | (with_reducible first | exact HB.out | apply below_alloc | apply pw_below_drewN | apply below_drew1 | refine below_set ?_ GE278.out | refine below_set ?_ GE279.out) | exact HB.out)) hb); clear BK278; clear BK279; clear HB; have BK278 := n0_; have BK279 := n1_; have HB := n2_; clear n0_ n1_ n2_; (try clear hb); (try clear hb2); (try clear hk); (try clear hi)))
        go_ret
        exact ⟨by first | rfl | (simp [errW_none, errW_some] <;> rfl) | (simp [*, errW_none, errW_some] <;> rfl), by repeat (first | (with_reducible first | exact HB.out | apply below_alloc | apply pw_below_drewN | apply below_drew1 | refine below_set ?_ GE278.out | refine below_set ?_ GE279.out) | exact HB.out)⟩
      · replace c18 := Bool.eq_false_iff.mpr c18
        subst c18
        have H1 : ((modillionlaw09_Own.f a0_0 l0_1).bind fun bt282 => ((some (([] : List (S50)) : List (S50))).bind fun y286 => (if y286.length + l3.length < 4398046511104 then ((seq_Next.f bt282.1 bt282.2 a1_0 a1_1 a1_2 a2 (y286 ++ l3)).bind fun bt292 => (if bt292.2.2 = 0 then (modillionlaw09_SeqSends.l0 kj4 l3 bt292.1 bt292.2.1 0) else (if (bt292.1.length : Int) = 0 then (some ((bt292.2.1.length : Int) == 0)) else (some false)))) else (none)))) = some r := by rw [if_neg (show ¬ (false = true) by decide)] at H; exact H
        clear H
        have H := H1
        clear H1
        replace H := Option.bind_eq_some_iff.mp H
        obtain ⟨⟨t282, t283⟩, A210, H⟩ := H
        replace H : ((some (([] : List (S50)) : List (S50))).bind fun y286 => (if y286.length + l3.length < 4398046511104 then ((seq_Next.f t282 t283 a1_0 a1_1 a1_2 a2 (y286 ++ l3)).bind fun bt292 => (if bt292.2.2 = 0 then (modillionlaw09_SeqSends.l0 kj4 l3 bt292.1 bt292.2.1 0) else (if (bt292.1.length : Int) = 0 then (some ((bt292.2.1.length : Int) == 0)) else (some false)))) else (none))) = some r := H
        have A21 := Aside0.mk A210
        clear A210
        obtain ⟨y286, hy286⟩ : ∃ y_ : List (S50), y_ = (([] : List (S50))) := ⟨_, rfl⟩
        replace H : (if y286.length + l3.length < 4398046511104 then ((seq_Next.f t282 t283 a1_0 a1_1 a1_2 a2 (y286 ++ l3)).bind fun bt292 => (if bt292.2.2 = 0 then (modillionlaw09_SeqSends.l0 kj4 l3 bt292.1 bt292.2.1 0) else (if (bt292.1.length : Int) = 0 then (some ((bt292.2.1.length : Int) == 0)) else (some false)))) else (none)) = some r := by first | (rw [hy286]; with_reducible exact H) | (have H2_ := (Option.bind_some _ _).symm.trans H; rw [hy286]; with_reducible exact H2_) | (have H2_ := (Option.bind_some _ _).symm.trans H; with_reducible exact H2_) | with_reducible exact H | (rw [hy286]; exact H) | exact H
        have Ny286 := Aside0.mk hy286
        clear hy286
        by_cases c22 : y286.length + l3.length < 4398046511104
        · rw [if_pos c22] at H
          have LMc22 := Aside0.mk c22
          clear c22
          obtain ⟨y289, hy289⟩ : ∃ y_ : List (S50), y_ = (y286 ++ l3) := ⟨_, rfl⟩
          replace H : ((seq_Next.f t282 t283 a1_0 a1_1 a1_2 a2 y289).bind fun bt292 => (if bt292.2.2 = 0 then (modillionlaw09_SeqSends.l0 kj4 l3 bt292.1 bt292.2.1 0) else (if (bt292.1.length : Int) = 0 then (some ((bt292.2.1.length : Int) == 0)) else (some false)))) = some r := by first | (rw [hy289]; with_reducible exact H) | (have H2_ := (Option.bind_some _ _).symm.trans H; rw [hy289]; with_reducible exact H2_) | (have H2_ := (Option.bind_some _ _).symm.trans H; with_reducible exact H2_) | with_reducible exact H | (rw [hy289]; exact H) | exact H
          have Ny289 := Aside0.mk hy289
          clear hy289
          replace H := Option.bind_eq_some_iff.mp H
          obtain ⟨⟨t292, t295, t298⟩, A230, H⟩ := H
          replace H : (if t298 = 0 then (modillionlaw09_SeqSends.l0 kj4 l3 t292 t295 0) else (if (t292.length : Int) = 0 then (some ((t295.length : Int) == 0)) else (some false))) = some r := H
          have A23 := Aside0.mk A230
          clear A230
          have HH_ := Aside0.mk H
          clear H
          try go_wp2
          have n0_ := Aside0.mk (blk_drew BK278.out)
          have n1_ := Aside0.mk (blk_drew BK279.out)
          have n2_ := Aside0.mk (below_drew1 HB.out)
          clear BK278
          clear BK279
          clear HB
          have BK278 := n0_
          have BK279 := n1_
          have HB := n2_
          clear n0_ n1_ n2_
          refine start_ (n := 15) (S := fun w' => w'.cell? ⟨gb278, 0, none⟩ = some (.int .i64 a0_0) ∧ w'.cell? ⟨gb278, 1, none⟩ = some (.slice A0_1 l0_1.length c0_1) ∧ w'.cell? ⟨gb279, 0, none⟩ = some (.string a1_0) ∧ w'.cell? ⟨gb279, 1, none⟩ = some (.int .i64 a1_1) ∧ w'.cell? ⟨gb279, 2, none⟩ = some (.int .i64 a1_2)) (ds := []) #[false, false, false, false, false, false, false, false, false, false, false, false, false, false, false] (by kernel_rfl) rfl rfl ⟨(blk_cell BK278.out 0).trans rfl, (blk_cell BK278.out 1).trans rfl, (blk_cell BK279.out 0).trans rfl, (blk_cell BK279.out 1).trans rfl, (blk_cell BK279.out 2).trans rfl⟩ (fun hHeld => ?_); refine with_tabW modillionlaw09_SeqSends.tab3 modillionlaw09_SeqSends.bits3 (fun HT_ HW_ => ?_)
          generalize wc.drew = w25 at BK278 BK279 HB hHeld ⊢
          refine pure_ (i := 3) (N := some 33) (v := ?_) (a' := ?_) #[false, false, false, true, false, false, false, false, false, false, false, false, false, false, false] rfl rfl (any_of HT_.out (by kernel_rfl)) (fun _ _ _ h => h) (Or.inl ⟨by rfl, ?_⟩) ?_ ?_
          rotate_left
          · intro w'
            go_simp
            with_reducible rfl
          rotate_left
          · simp only [Act.put, List.setIfInBounds_toArray, List.set_cons_zero, List.set_cons_succ, i64_w, i32_w]
            rfl
          refine pure_ (i := 5) (N := some 35) (v := ?_) (a' := ?_) #[false, false, false, true, false, true, false, false, false, false, false, false, false, false, false] rfl rfl (any_of HT_.out (by kernel_rfl)) (fun _ _ _ h => h) (Or.inl ⟨by rfl, ?_⟩) ?_ ?_
          rotate_left
          · intro w'
            go_simp
            with_reducible rfl
          rotate_left
          · simp only [Act.put, List.setIfInBounds_toArray, List.set_cons_zero, List.set_cons_succ, i64_w, i32_w]
            rfl
          refine take_ (i := 0) (N := some 30) (v := ?_) (a' := ?_) #[true, false, false, true, false, true, false, false, false, false, false, false, false, false, false] rfl rfl (take_ofW HT_.out HW_.out (by kernel_rfl)) (fun _ _ _ h => h) (Or.inl ⟨by rfl, ?_⟩) hHeld ?_ ?_
          rotate_left
          · rintro w' ⟨s0, s1, s2, s3, s4⟩
            go_simp
            with_reducible rfl
          rotate_left
          · simp only [Act.put, List.setIfInBounds_toArray, List.set_cons_zero, List.set_cons_succ, i64_w, i32_w]
            rfl
          refine take_ (i := 2) (N := some 32) (v := ?_) (a' := ?_) #[true, false, true, true, false, true, false, false, false, false, false, false, false, false, false] rfl rfl (take_ofW HT_.out HW_.out (by kernel_rfl)) (fun _ _ _ h => h) (Or.inl ⟨by rfl, ?_⟩) hHeld ?_ ?_
          rotate_left
          · rintro w' ⟨s0, s1, s2, s3, s4⟩
            go_simp
            with_reducible rfl
          rotate_left
          · simp only [Act.put, List.setIfInBounds_toArray, List.set_cons_zero, List.set_cons_succ, i64_w, i32_w]
            rfl
          refine join_ (σ := Value × Value) 9 #[true, true, true, true, true, true, false, false, false, false, false, false, false, false, false] (fun s_ => [(31, .agg #[.int .i64 t282, s_.1]), (34, s_.2)]) (fun s_ w' => (w'.cell? ⟨gb278, 0, none⟩ = some (.int .i64 a0_0) ∧ w'.cell? ⟨gb278, 1, none⟩ = some (.slice A0_1 l0_1.length c0_1) ∧ w'.cell? ⟨gb279, 0, none⟩ = some (.string a1_0) ∧ w'.cell? ⟨gb279, 1, none⟩ = some (.int .i64 a1_1) ∧ w'.cell? ⟨gb279, 2, none⟩ = some (.int .i64 a1_2)) ∧ (Kd.R k45 45 w' w.heap.size (fun _ => True) s_.1 t283) ∧ (Kd.R k50 50 w' w.heap.size (fun _ => True) s_.2 y286) ∧ (w'.heap[gb278]? = some (.cells #[.int .i64 a0_0, .slice A0_1 l0_1.length c0_1] 24 (0, 0))) ∧ (w'.heap[gb279]? = some (.cells #[.string a1_0, .int .i64 a1_1, .int .i64 a1_2] 26 (0, 0))) ∧ (Below w.heap.size w w')) ?_ ?_
          rotate_left
          · intro hCont
            refine two_ (i := 1) (j := 4) (Ni := some 31) (Nj := some 34) #[true, true, true, true, false, true, false, false, false, false, false, false, false, false, false] #[true, false, true, true, true, true, false, false, false, false, false, false, false, false, false] rfl rfl rfl rfl (two_of HT_.out (by kernel_rfl)) (by decide) (by decide) (fun K hK => ?_) (fun K hK => ?_)
            · skip
              refine goes_ Try.func13 (by kernel_rfl) rfl #[.agg #[.int .i64 a0_0, .slice A0_1 l0_1.length c0_1]] (by rfl) rfl rfl (by (try simp only [List.map_toArray, List.map_cons, List.map_nil]); first | done | rfl | (simp only [List.length_drop, List.length_take]; rfl)) ?_
              with_reducible refine (modillionlaw09_Own.calls a0_0 _ _ l0_1 t282 t283 _ ?side1 ?side2 A21.out).mono ?_
              (case side1 => repeat (first | exact (Kd.C_below HR0_1.out HB.out) | (with_reducible refine Kd.C_alloc ?_ _) | (with_reducible refine Kd.C_drewN ?_ _) | (with_reducible refine Kd.C_drew ?_)))
              (case side2 => exact HC0_1.out)
              rintro e w26 ⟨v284, rfl, ho0, hb⟩
              refine ⟨_, rfl, ?_⟩
              have n0_ := Aside0.mk (Kd.R_lower ho0 (below_size (by repeat (first | (with_reducible first | exact HB.out | apply below_alloc | apply pw_below_drewN | apply below_drew1 | refine below_set ?_ GE278.out | refine below_set ?_ GE279.out) | exact HB.out))))
              have n1_ := Aside0.mk (blk_below (g := gb278) (o := .cells #[.int .i64 a0_0, .slice A0_1 l0_1.length c0_1] 24 (0, 0)) (by (with_reducible repeat (first | refine blk_drewN ?_ _ | refine blk_drew ?_ | refine blk_alloc ?_ _)); exact BK278.out) hb)
              have n2_ := Aside0.mk (blk_below (g := gb279) (o := .cells #[.string a1_0, .int .i64 a1_1, .int .i64 a1_2] 26 (0, 0)) (by (with_reducible repeat (first | refine blk_drewN ?_ _ | refine blk_drew ?_ | refine blk_alloc ?_ _)); exact BK279.out) hb)
              have n3_ := Aside0.mk (below_step (by repeat (first | (with_reducible first | exact HB.out | apply below_alloc | apply pw_below_drewN | apply below_drew1 | refine below_set ?_ GE278.out | refine below_set ?_ GE279.out) | exact HB.out)) hb)
              clear BK278
              clear BK279
              clear HB
              have HO285 := n0_
              have BK278 := n1_
              have BK279 := n2_
              have HB := n3_
              clear n0_ n1_ n2_ n3_
              (try clear hb)
              (try clear hb2)
              (try clear hk)
              (try clear hi)
              (try clear ho0)
              refine hK.out _ _ ⟨(blk_cell BK278.out 0).trans rfl, (blk_cell BK278.out 1).trans rfl, (blk_cell BK279.out 0).trans rfl, (blk_cell BK279.out 1).trans rfl, (blk_cell BK279.out 2).trans rfl⟩ (fun hHeld => ?_)
              clear hK K
              refine norm_ (a' := ?_) ?_ ?_
              rotate_left
              · show Act.put _ (some 31) _ = _
                simp only [Act.put, List.setIfInBounds_toArray, List.set_cons_zero, List.set_cons_succ, i64_w, i32_w]
                rfl
              refine one_ (i := 4) (N := some 34) #[true, true, true, true, true, true, false, false, false, false, false, false, false, false, false] rfl rfl (one_of HT_.out (by kernel_rfl)) (by decide) (fun K hK => ?_)
              refine Kd.R_lit_step k50 _ 50 ?hg (N := 34) ?hd (xs := ([] : List (S50))) (inner := []) (ok := fun _ => True) (okp := fun _ => True) ?hr ?hp (fun _ hk => hk) trivial (Below.refl _ _) (Nat.le_refl _) (by simp) ?_; (case hd => rfl); (case hg => rfl); (case hr => first | (go_simp; done) | (go_simp; rfl)); (case hp => exact (Reps.none _ _))
              intro v287 w27 ho28 hb hg_ hnew_
              clear hg_ hnew_
              (first | rw [← Ny286.out] at ho28 | (simp only [Int.reduceToNat] at ho28; rw [← Ny286.out] at ho28))
              have n0_ := Aside0.mk (Kd.R_below (by (with_reducible repeat (first | apply Kd.R_alloc | apply Kd.R_drewN | apply Kd.R_drew)); exact HO285.out) hb)
              have n1_ := Aside0.mk (Kd.R_lower ho28 (below_size (by repeat (first | (with_reducible first | exact HB.out | apply below_alloc | apply pw_below_drewN | apply below_drew1 | refine below_set ?_ GE278.out | refine below_set ?_ GE279.out) | exact HB.out))))
              have n2_ := Aside0.mk (blk_below (g := gb278) (o := .cells #[.int .i64 a0_0, .slice A0_1 l0_1.length c0_1] 24 (0, 0)) (by (with_reducible repeat (first | refine blk_drewN ?_ _ | refine blk_drew ?_ | refine blk_alloc ?_ _)); exact BK278.out) hb)
              have n3_ := Aside0.mk (blk_below (g := gb279) (o := .cells #[.string a1_0, .int .i64 a1_1, .int .i64 a1_2] 26 (0, 0)) (by (with_reducible repeat (first | refine blk_drewN ?_ _ | refine blk_drew ?_ | refine blk_alloc ?_ _)); exact BK279.out) hb)
              have n4_ := Aside0.mk (below_step (by repeat (first | (with_reducible first | exact HB.out | apply below_alloc | apply pw_below_drewN | apply below_drew1 | refine below_set ?_ GE278.out | refine below_set ?_ GE279.out) | exact HB.out)) hb)
              clear HO285
              clear BK278
              clear BK279
              clear HB
              have HO285 := n0_
              have HO288 := n1_
              have BK278 := n2_
              have BK279 := n3_
              have HB := n4_
              clear n0_ n1_ n2_ n3_ n4_
              clear hb ho28
              refine hK.out _ _ ⟨(blk_cell BK278.out 0).trans rfl, (blk_cell BK278.out 1).trans rfl, (blk_cell BK279.out 0).trans rfl, (blk_cell BK279.out 1).trans rfl, (blk_cell BK279.out 2).trans rfl⟩ (fun hHeld => ?_)
              clear hK K
              refine norm_ (a' := ?_) ?_ ?_
              rotate_left
              · show Act.put _ (some 34) _ = _
                simp only [Act.put, List.setIfInBounds_toArray, List.set_cons_zero, List.set_cons_succ, i64_w, i32_w]
                rfl
              exact norm_ (by simp only [putAll, Act.put, List.setIfInBounds_toArray, List.set_cons_zero, List.set_cons_succ]) (hCont (v284, v287) _ ⟨hHeld, (by (with_reducible repeat (first | apply Kd.R_alloc | apply Kd.R_drewN | apply Kd.R_drew)); exact HO285.out), (by (with_reducible repeat (first | apply Kd.R_alloc | apply Kd.R_drewN | apply Kd.R_drew)); exact HO288.out), (by (with_reducible repeat (first | refine blk_drewN ?_ _ | refine blk_drew ?_ | refine blk_alloc ?_ _)); exact BK278.out), (by (with_reducible repeat (first | refine blk_drewN ?_ _ | refine blk_drew ?_ | refine blk_alloc ?_ _)); exact BK279.out), (by repeat (first | (with_reducible first | exact HB.out | apply below_alloc | apply pw_below_drewN | apply below_drew1 | refine below_set ?_ GE278.out | refine below_set ?_ GE279.out) | exact HB.out))⟩)
            · skip
              refine Kd.R_lit_step k50 _ 50 ?hg (N := 34) ?hd (xs := ([] : List (S50))) (inner := []) (ok := fun _ => True) (okp := fun _ => True) ?hr ?hp (fun _ hk => hk) trivial (Below.refl _ _) (Nat.le_refl _) (by simp) ?_; (case hd => rfl); (case hg => rfl); (case hr => first | (go_simp; done) | (go_simp; rfl)); (case hp => exact (Reps.none _ _))
              intro v287 w26 ho27 hb hg_ hnew_
              clear hg_ hnew_
              (first | rw [← Ny286.out] at ho27 | (simp only [Int.reduceToNat] at ho27; rw [← Ny286.out] at ho27))
              have n0_ := Aside0.mk (Kd.R_lower ho27 (below_size (by repeat (first | (with_reducible first | exact HB.out | apply below_alloc | apply pw_below_drewN | apply below_drew1 | refine below_set ?_ GE278.out | refine below_set ?_ GE279.out) | exact HB.out))))
              have n1_ := Aside0.mk (blk_below (g := gb278) (o := .cells #[.int .i64 a0_0, .slice A0_1 l0_1.length c0_1] 24 (0, 0)) (by (with_reducible repeat (first | refine blk_drewN ?_ _ | refine blk_drew ?_ | refine blk_alloc ?_ _)); exact BK278.out) hb)
              have n2_ := Aside0.mk (blk_below (g := gb279) (o := .cells #[.string a1_0, .int .i64 a1_1, .int .i64 a1_2] 26 (0, 0)) (by (with_reducible repeat (first | refine blk_drewN ?_ _ | refine blk_drew ?_ | refine blk_alloc ?_ _)); exact BK279.out) hb)
              have n3_ := Aside0.mk (below_step (by repeat (first | (with_reducible first | exact HB.out | apply below_alloc | apply pw_below_drewN | apply below_drew1 | refine below_set ?_ GE278.out | refine below_set ?_ GE279.out) | exact HB.out)) hb)
              clear BK278
              clear BK279
              clear HB
              have HO288 := n0_
              have BK278 := n1_
              have BK279 := n2_
              have HB := n3_
              clear n0_ n1_ n2_ n3_
              clear hb ho27
              refine hK.out _ _ ⟨(blk_cell BK278.out 0).trans rfl, (blk_cell BK278.out 1).trans rfl, (blk_cell BK279.out 0).trans rfl, (blk_cell BK279.out 1).trans rfl, (blk_cell BK279.out 2).trans rfl⟩ (fun hHeld => ?_)
              clear hK K
              refine norm_ (a' := ?_) ?_ ?_
              rotate_left
              · show Act.put _ (some 34) _ = _
                simp only [Act.put, List.setIfInBounds_toArray, List.set_cons_zero, List.set_cons_succ, i64_w, i32_w]
                rfl
              refine one_ (i := 1) (N := some 31) #[true, true, true, true, true, true, false, false, false, false, false, false, false, false, false] rfl rfl (one_of HT_.out (by kernel_rfl)) (by decide) (fun K hK => ?_)
              refine goes_ Try.func13 (by kernel_rfl) rfl #[.agg #[.int .i64 a0_0, .slice A0_1 l0_1.length c0_1]] (by rfl) rfl rfl (by (try simp only [List.map_toArray, List.map_cons, List.map_nil]); first | done | rfl | (simp only [List.length_drop, List.length_take]; rfl)) ?_
              with_reducible refine (modillionlaw09_Own.calls a0_0 _ _ l0_1 t282 t283 _ ?side1 ?side2 A21.out).mono ?_
              (case side1 => repeat (first | exact (Kd.C_below HR0_1.out HB.out) | (with_reducible refine Kd.C_alloc ?_ _) | (with_reducible refine Kd.C_drewN ?_ _) | (with_reducible refine Kd.C_drew ?_)))
              (case side2 => exact HC0_1.out)
              rintro e w28 ⟨v284, rfl, ho0, hb⟩
              refine ⟨_, rfl, ?_⟩
              have n0_ := Aside0.mk (Kd.R_below (by (with_reducible repeat (first | apply Kd.R_alloc | apply Kd.R_drewN | apply Kd.R_drew)); exact HO288.out) hb)
              have n1_ := Aside0.mk (Kd.R_lower ho0 (below_size (by repeat (first | (with_reducible first | exact HB.out | apply below_alloc | apply pw_below_drewN | apply below_drew1 | refine below_set ?_ GE278.out | refine below_set ?_ GE279.out) | exact HB.out))))
              have n2_ := Aside0.mk (blk_below (g := gb278) (o := .cells #[.int .i64 a0_0, .slice A0_1 l0_1.length c0_1] 24 (0, 0)) (by (with_reducible repeat (first | refine blk_drewN ?_ _ | refine blk_drew ?_ | refine blk_alloc ?_ _)); exact BK278.out) hb)
              have n3_ := Aside0.mk (blk_below (g := gb279) (o := .cells #[.string a1_0, .int .i64 a1_1, .int .i64 a1_2] 26 (0, 0)) (by (with_reducible repeat (first | refine blk_drewN ?_ _ | refine blk_drew ?_ | refine blk_alloc ?_ _)); exact BK279.out) hb)
              have n4_ := Aside0.mk (below_step (by repeat (first | (with_reducible first | exact HB.out | apply below_alloc | apply pw_below_drewN | apply below_drew1 | refine below_set ?_ GE278.out | refine below_set ?_ GE279.out) | exact HB.out)) hb)
              clear HO288
              clear BK278
              clear BK279
              clear HB
              have HO288 := n0_
              have HO285 := n1_
              have BK278 := n2_
              have BK279 := n3_
              have HB := n4_
              clear n0_ n1_ n2_ n3_ n4_
              (try clear hb)
              (try clear hb2)
              (try clear hk)
              (try clear hi)
              (try clear ho0)
              refine hK.out _ _ ⟨(blk_cell BK278.out 0).trans rfl, (blk_cell BK278.out 1).trans rfl, (blk_cell BK279.out 0).trans rfl, (blk_cell BK279.out 1).trans rfl, (blk_cell BK279.out 2).trans rfl⟩ (fun hHeld => ?_)
              clear hK K
              refine norm_ (a' := ?_) ?_ ?_
              rotate_left
              · show Act.put _ (some 31) _ = _
                simp only [Act.put, List.setIfInBounds_toArray, List.set_cons_zero, List.set_cons_succ, i64_w, i32_w]
                rfl
              exact norm_ (by simp only [putAll, Act.put, List.setIfInBounds_toArray, List.set_cons_zero, List.set_cons_succ]) (hCont (v284, v287) _ ⟨hHeld, (by (with_reducible repeat (first | apply Kd.R_alloc | apply Kd.R_drewN | apply Kd.R_drew)); exact HO285.out), (by (with_reducible repeat (first | apply Kd.R_alloc | apply Kd.R_drewN | apply Kd.R_drew)); exact HO288.out), (by (with_reducible repeat (first | refine blk_drewN ?_ _ | refine blk_drew ?_ | refine blk_alloc ?_ _)); exact BK278.out), (by (with_reducible repeat (first | refine blk_drewN ?_ _ | refine blk_drew ?_ | refine blk_alloc ?_ _)); exact BK279.out), (by repeat (first | (with_reducible first | exact HB.out | apply below_alloc | apply pw_below_drewN | apply below_drew1 | refine below_set ?_ GE278.out | refine below_set ?_ GE279.out) | exact HB.out))⟩)
          rintro ⟨v284, v287⟩ w29 ⟨hS_, h0_, h1_, h2_, h3_, h4_⟩
          have n0_ : Aside0 (Kd.R k45 45 w29 w.heap.size (fun _ => True) v284 t283) := ⟨h0_⟩
          have n1_ : Aside0 (Kd.R k50 50 w29 w.heap.size (fun _ => True) v287 y286) := ⟨h1_⟩
          have n2_ : Aside0 (w29.heap[gb278]? = some (.cells #[.int .i64 a0_0, .slice A0_1 l0_1.length c0_1] 24 (0, 0))) := ⟨h2_⟩
          have n3_ : Aside0 (w29.heap[gb279]? = some (.cells #[.string a1_0, .int .i64 a1_1, .int .i64 a1_2] 26 (0, 0))) := ⟨h3_⟩
          have n4_ : Aside0 (Below w.heap.size w w29) := ⟨h4_⟩
          clear BK278
          clear BK279
          clear HB
          clear h0_ h1_ h2_ h3_ h4_
          have HO285 := n0_
          have HO288 := n1_
          have BK278 := n2_
          have BK279 := n3_
          have HB := n4_
          clear n0_ n1_ n2_ n3_ n4_
          have hHeld : w29.cell? ⟨gb278, 0, none⟩ = some (.int .i64 a0_0) ∧ w29.cell? ⟨gb278, 1, none⟩ = some (.slice A0_1 l0_1.length c0_1) ∧ w29.cell? ⟨gb279, 0, none⟩ = some (.string a1_0) ∧ w29.cell? ⟨gb279, 1, none⟩ = some (.int .i64 a1_1) ∧ w29.cell? ⟨gb279, 2, none⟩ = some (.int .i64 a1_2) := hS_
          refine norm_ (a' := ?_) ?_ ?_
          rotate_left
          · simp only [putAll, Act.put, List.setIfInBounds_toArray, List.set_cons_zero, List.set_cons_succ]
            rfl
          refine one_ (i := 6) (N := some 36) #[true, true, true, true, true, true, true, false, false, false, false, false, false, false, false] rfl rfl (one_of HT_.out (by kernel_rfl)) (by decide) (fun K hK => ?_)
          refine Kd.R_append_rows_step k50 (w0 := w) w.heap.size (by rfl) (.tmp 34) (.tmp 35) 28 50 (.agg #[(.int .i64 0), (.int .i64 0), (.bool false), (.bool false), (.int .i64 0)]) 32 rfl Try.underlying28 info50 rfl (by decide) (by omega) v287 y286 l3 _ _ _ (fun _ => True) (fun _ => False) rfl rfl ?aO ?aR (fun _ _ h => h) (fun _ h => h.elim) ?aF ?aB ?aS ?aL ?_
          (case aR => repeat (first | exact (Kd.C_below HR3.out HB.out) | (with_reducible refine Kd.C_alloc ?_ _) | (with_reducible refine Kd.C_drewN ?_ _) | (with_reducible refine Kd.C_drew ?_)))
          (case aB => exact (by repeat (first | (with_reducible first | exact HB.out | apply below_alloc | apply pw_below_drewN | apply below_drew1 | refine below_set ?_ GE278.out | refine below_set ?_ GE279.out) | exact HB.out)))
          (case aF => exact (fun _ _ => trivial))
          (case aO => exact (by (with_reducible repeat (first | apply Kd.R_alloc | apply Kd.R_drewN | apply Kd.R_drew)); exact HO288.out))
          (case aS => exact (below_size (by repeat (first | (with_reducible first | exact HB.out | apply below_alloc | apply pw_below_drewN | apply below_drew1 | refine below_set ?_ GE278.out | refine below_set ?_ GE279.out) | exact HB.out))))
          (case aL => have := LMc22.out; omega)
          intro v290 w30 ho hb hg hat
          rw [← Ny289.out] at ho
          have n0_ := Aside0.mk (blk_grown (g := gb278) (o := .cells #[.int .i64 a0_0, .slice A0_1 l0_1.length c0_1] 24 (0, 0)) (by (with_reducible repeat (first | refine blk_drewN ?_ _ | refine blk_drew ?_ | refine blk_alloc ?_ _)); exact BK278.out) hg (Kd.R_ne HO288.out BK278.out (by decide)))
          have n1_ := Aside0.mk (blk_grown (g := gb279) (o := .cells #[.string a1_0, .int .i64 a1_1, .int .i64 a1_2] 26 (0, 0)) (by (with_reducible repeat (first | refine blk_drewN ?_ _ | refine blk_drew ?_ | refine blk_alloc ?_ _)); exact BK279.out) hg (Kd.R_ne HO288.out BK279.out (by decide)))
          have n2_ := Aside0.mk (Kd.R_over' (by (with_reducible repeat (first | apply Kd.R_alloc | apply Kd.R_drewN | apply Kd.R_drew)); exact HO285.out) (Kd.R_typed (by (with_reducible repeat (first | apply Kd.R_alloc | apply Kd.R_drewN | apply Kd.R_drew)); exact HO288.out)) (by decide) hg)
          have n3_ := Aside0.mk (hb)
          have n4_ := Aside0.mk (ho)
          clear BK278
          clear BK279
          clear HO285
          clear HB
          clear HO288
          have BK278 := n0_
          have BK279 := n1_
          have HO285 := n2_
          have HB := n3_
          have HO291 := n4_
          clear n0_ n1_ n2_ n3_ n4_
          clear ho hb hg hat
          obtain ⟨Ao31, co31, eo31⟩ := Kd.R_slice HO285.out
          (first | subst eo31 | (injection eo31 with f1_ f2_ f3_; have f4_ := f1_.symm; have f5_ := f3_.symm; clear f1_ f2_ f3_; subst f4_; subst f5_))
          obtain ⟨Ao32, co32, eo32⟩ := Kd.R_slice HO291.out
          (first | subst eo32 | (injection eo32 with f1_ f2_ f3_; have f4_ := f1_.symm; have f5_ := f3_.symm; clear f1_ f2_ f3_; subst f4_; subst f5_))
          refine hK.out _ _ ⟨(blk_cell BK278.out 0).trans rfl, (blk_cell BK278.out 1).trans rfl, (blk_cell BK279.out 0).trans rfl, (blk_cell BK279.out 1).trans rfl, (blk_cell BK279.out 2).trans rfl⟩ (fun hHeld => ?_)
          clear hK K
          refine norm_ (a' := ?_) ?_ ?_
          rotate_left
          · show Act.put _ (some 36) _ = _
            simp only [Act.put, List.setIfInBounds_toArray, List.set_cons_zero, List.set_cons_succ, i64_w, i32_w]
            rfl
          refine one_ (i := 7) (N := some 37) #[true, true, true, true, true, true, true, true, false, false, false, false, false, false, false] rfl rfl (one_of HT_.out (by kernel_rfl)) (by decide) (fun K hK => ?_)
          refine goes_ Try.func16 (by kernel_rfl) rfl #[.agg #[.int .i64 t282, .slice Ao31 t283.length co31], .agg #[.string a1_0, .int .i64 a1_1, .int .i64 a1_2], .int .i64 a2, .slice Ao32 y289.length co32] (by rfl) rfl rfl (by (try simp only [List.map_toArray, List.map_cons, List.map_nil]); first | done | rfl | (simp only [List.length_drop, List.length_take]; rfl)) ?_
          with_reducible refine (seq_Next.calls t282 _ _ t283 a1_0 a1_1 a1_2 a2 _ _ y289 t292 t295 t298 _ ?side1 ?side2 ?side3 ?side4 A23.out).mono ?_
          (case side1 => repeat (first | exact (Kd.R_reads' HO285.out).2.2 | (with_reducible refine Kd.C_alloc ?_ _) | (with_reducible refine Kd.C_drewN ?_ _) | (with_reducible refine Kd.C_drew ?_)))
          (case side2 => exact (Kd.R_reads' HO285.out).2.1)
          (case side3 => repeat (first | exact (Kd.R_reads' HO291.out).2.2 | (with_reducible refine Kd.C_alloc ?_ _) | (with_reducible refine Kd.C_drewN ?_ _) | (with_reducible refine Kd.C_drew ?_)))
          (case side4 => exact (Kd.R_reads' HO291.out).2.1)
          rintro e w33 ⟨v293, v296, rfl, ho0, ho1, hb⟩
          refine ⟨_, rfl, ?_⟩
          have n0_ := Aside0.mk (Kd.R_below (by (with_reducible repeat (first | apply Kd.R_alloc | apply Kd.R_drewN | apply Kd.R_drew)); exact HO285.out) hb)
          have n1_ := Aside0.mk (Kd.R_elder' (by (with_reducible repeat (first | apply Kd.R_alloc | apply Kd.R_drewN | apply Kd.R_drew)); exact HO291.out) (Kd.R_base ho0) hb)
          have n2_ := Aside0.mk (Kd.R_lower (Kd.R_new' ho0 (Kd.R_lt (by (with_reducible repeat (first | apply Kd.R_alloc | apply Kd.R_drewN | apply Kd.R_drew)); exact HO291.out))) (below_size (by repeat (first | (with_reducible first | exact HB.out | apply below_alloc | apply pw_below_drewN | apply below_drew1 | refine below_set ?_ GE278.out | refine below_set ?_ GE279.out) | exact HB.out))))
          have n3_ := Aside0.mk (Kd.R_lower ho1 (below_size (by repeat (first | (with_reducible first | exact HB.out | apply below_alloc | apply pw_below_drewN | apply below_drew1 | refine below_set ?_ GE278.out | refine below_set ?_ GE279.out) | exact HB.out))))
          have n4_ := Aside0.mk (blk_below (g := gb278) (o := .cells #[.int .i64 a0_0, .slice A0_1 l0_1.length c0_1] 24 (0, 0)) (by (with_reducible repeat (first | refine blk_drewN ?_ _ | refine blk_drew ?_ | refine blk_alloc ?_ _)); exact BK278.out) hb)
          have n5_ := Aside0.mk (blk_below (g := gb279) (o := .cells #[.string a1_0, .int .i64 a1_1, .int .i64 a1_2] 26 (0, 0)) (by (with_reducible repeat (first | refine blk_drewN ?_ _ | refine blk_drew ?_ | refine blk_alloc ?_ _)); exact BK279.out) hb)
          have n6_ := Aside0.mk (below_step (by repeat (first | (with_reducible first | exact HB.out | apply below_alloc | apply pw_below_drewN | apply below_drew1 | refine below_set ?_ GE278.out | refine below_set ?_ GE279.out) | exact HB.out)) hb)
          clear HO285
          clear HO291
          clear BK278
          clear BK279
          clear HB
          have HO285 := n0_
          have HO291 := n1_
          have HO294 := n2_
          have HO297 := n3_
          have BK278 := n4_
          have BK279 := n5_
          have HB := n6_
          clear n0_ n1_ n2_ n3_ n4_ n5_ n6_
          (try clear hb)
          (try clear hb2)
          (try clear hk)
          (try clear hi)
          (try clear ho0)
          (try clear ho1)
          refine hK.out _ _ ⟨(blk_cell BK278.out 0).trans rfl, (blk_cell BK278.out 1).trans rfl, (blk_cell BK279.out 0).trans rfl, (blk_cell BK279.out 1).trans rfl, (blk_cell BK279.out 2).trans rfl⟩ (fun hHeld => ?_)
          clear hK K
          refine norm_ (a' := ?_) ?_ ?_
          rotate_left
          · show Act.put _ (some 37) _ = _
            simp only [Act.put, List.setIfInBounds_toArray, List.set_cons_zero, List.set_cons_succ, i64_w, i32_w]
            rfl
          refine pure_ (i := 8) (N := some 29) (v := ?_) (a' := ?_) #[true, true, true, true, true, true, true, true, true, false, false, false, false, false, false] rfl rfl (any_of HT_.out (by kernel_rfl)) (fun _ _ _ h => h) (Or.inl ⟨by rfl, ?_⟩) ?_ ?_
          rotate_left
          · intro w'
            go_simp
            with_reducible rfl
          rotate_left
          · simp only [Act.put, List.setIfInBounds_toArray, List.set_cons_zero, List.set_cons_succ, i64_w, i32_w]
            rfl
          refine pure_ (i := 9) (N := some 38) (v := ?_) (a' := ?_) #[true, true, true, true, true, true, true, true, true, true, false, false, false, false, false] rfl rfl (any_of HT_.out (by kernel_rfl)) (fun _ _ _ h => h) (Or.inl ⟨by rfl, ?_⟩) ?_ ?_
          rotate_left
          · intro w'
            go_simp
            with_reducible rfl
          rotate_left
          · simp only [Act.put, List.setIfInBounds_toArray, List.set_cons_zero, List.set_cons_succ, i64_w, i32_w]
            rfl
          refine pure_ (i := 10) (N := some 39) (v := ?_) (a' := ?_) #[true, true, true, true, true, true, true, true, true, true, true, false, false, false, false] rfl rfl (any_of HT_.out (by kernel_rfl)) (fun _ _ _ h => h) (Or.inl ⟨by rfl, ?_⟩) ?_ ?_
          rotate_left
          · intro w'
            go_simp
            with_reducible rfl
          rotate_left
          · simp only [Act.put, List.setIfInBounds_toArray, List.set_cons_zero, List.set_cons_succ, i64_w, i32_w]
            rfl
          refine pure_ (i := 11) (N := some 40) (v := ?_) (a' := ?_) #[true, true, true, true, true, true, true, true, true, true, true, true, false, false, false] rfl rfl (any_of HT_.out (by kernel_rfl)) (fun _ _ _ h => h) (Or.inl ⟨by rfl, ?_⟩) ?_ ?_
          rotate_left
          · intro w'
            go_simp
            with_reducible rfl
          rotate_left
          · simp only [Act.put, List.setIfInBounds_toArray, List.set_cons_zero, List.set_cons_succ, i64_w, i32_w]
            rfl
          refine pure_ (i := 12) (N := some 9) (v := ?_) (a' := ?_) #[true, true, true, true, true, true, true, true, true, true, true, true, true, false, false] rfl rfl (any_of HT_.out (by kernel_rfl)) (fun _ _ _ h => h) (Or.inl ⟨by rfl, ?_⟩) ?_ ?_
          rotate_left
          · intro w'
            go_simp
            with_reducible rfl
          rotate_left
          · simp only [Act.put, List.setIfInBounds_toArray, List.set_cons_zero, List.set_cons_succ, i64_w, i32_w]
            rfl
          refine pure_ (i := 13) (N := some 10) (v := ?_) (a' := ?_) #[true, true, true, true, true, true, true, true, true, true, true, true, true, true, false] rfl rfl (any_of HT_.out (by kernel_rfl)) (fun _ _ _ h => h) (Or.inl ⟨by rfl, ?_⟩) ?_ ?_
          rotate_left
          · intro w'
            go_simp
            with_reducible rfl
          rotate_left
          · simp only [Act.put, List.setIfInBounds_toArray, List.set_cons_zero, List.set_cons_succ, i64_w, i32_w]
            rfl
          refine pure_ (i := 14) (N := some 11) (v := ?_) (a' := ?_) #[true, true, true, true, true, true, true, true, true, true, true, true, true, true, true] rfl rfl (any_of HT_.out (by kernel_rfl)) (fun _ _ _ h => h) (Or.inl ⟨by rfl, ?_⟩) ?_ ?_
          rotate_left
          · intro w'
            go_simp
            with_reducible rfl
          rotate_left
          · simp only [Act.put, List.setIfInBounds_toArray, List.set_cons_zero, List.set_cons_succ, i64_w, i32_w]
            rfl
          refine done_ (done_of HT_.out (by kernel_rfl)) ?_
          have H := HH_.out
          clear HH_
          by_cases c24 : t298 = 0
          · rw [if_pos c24] at H
            have c24b0 : (t298 == 0) = true := beq_iff_eq.mpr c24
            have c24b1 : (t298 != 0) = false := bne_eq_false_iff_eq.mpr c24
            clear c24
            (first | rw [c24b0] | simp only [c24b0] | skip)
            have H' := Aside0.mk H
            clear H
            try go_wp2
            go_loopg [12] kj4 (fun kq v12 w' => ∃ (x12_2 : Int), v12 = .int .i64 x12_2 ∧ Aside0 (modillionlaw09_SeqSends.l0 kq l3 t292 t295 x12_2 = some r) ∧ Aside0 (kq ≤ kj4) ∧ Aside0 (Kd.R k50 50 w' w.heap.size (fun _ => True) v293 t292) ∧ Aside0 (Kd.R k48 48 w' w.heap.size (fun _ => True) v296 t295) ∧ Aside0 (w'.heap[gb278]? = some (.cells #[.int .i64 a0_0, (.slice A0_1 l0_1.length c0_1)] 24 (0, 0))) ∧ Aside0 (w'.heap[gb279]? = some (.cells #[.string a1_0, .int .i64 a1_1, .int .i64 a1_2] 26 (0, 0))) ∧ Aside0 (Below w.heap.size w w'))
            case atStart => exact ⟨(0), (by first | rfl | (simp; done) | (simp [*]; done)), H', ⟨Nat.le_refl _⟩, ⟨by (with_reducible repeat (first | apply Kd.R_alloc | apply Kd.R_drewN | apply Kd.R_drew)); exact Kd.R_mono HO294.out (fun _ hk => trivial)⟩, ⟨by (with_reducible repeat (first | apply Kd.R_alloc | apply Kd.R_drewN | apply Kd.R_drew)); exact HO297.out⟩, ⟨by (with_reducible repeat (first | refine blk_drewN ?_ _ | refine blk_drew ?_ | refine blk_alloc ?_ _)); exact BK278.out⟩, ⟨by (with_reducible repeat (first | refine blk_drewN ?_ _ | refine blk_drew ?_ | refine blk_alloc ?_ _)); exact BK279.out⟩, ⟨by repeat (first | (with_reducible first | exact HB.out | apply below_alloc | apply pw_below_drewN | apply below_drew1 | refine below_set ?_ GE278.out | refine below_set ?_ GE279.out) | exact HB.out)⟩⟩
            case round =>
              clear H'
              try clear c1
              try clear c2
              try clear p2
              try clear c3
              try clear c6
              try clear c9
              try clear c10
              try clear c10b0
              try clear c10b1
              try clear c11
              try clear c12
              try clear c13
              try clear c15
              try clear c16
              try clear c18
              try clear c22
              try clear c24
              try clear c24b0
              try clear c24b1
              try clear hcz13_0
              try clear hcz13_1
              try clear hcz16_0
              try clear hcz16_1
              try clear hfz13_0
              try clear hfz13_1
              try clear hfz16_0
              try clear hfz16_1
              try clear p2
              obtain ⟨x12_2, rfl, HA, HK2, HO_9, HO_10, BK278, BK279, HB⟩ := hrel
              cases gk with
              | zero => exact absurd HA.out (by simp [modillionlaw09_SeqSends.l0])
              | succ k2 =>
                have H := HA.out
                clear HA
                simp only [modillionlaw09_SeqSends.l0] at H
                by_cases c34 : x12_2 < (t292.length : Int)
                · rw [if_pos c34] at H
                  have c34b0 : decide (x12_2 < (t292.length : Int)) = true := decide_eq_true c34
                  clear c34
                  have H' := Aside0.mk H
                  clear H
                  obtain ⟨Ao35, co35, eo35⟩ := Kd.R_slice HO_9.out
                  subst eo35
                  go_wp2
                  go_loopg [13, 14] k2 (fun kq v13 v14 w' => ∃ (x13_3 : Bool) (x14_3 : Int), v13 = .bool x13_3 ∧ v14 = .int .i64 x14_3 ∧ Aside0 (modillionlaw09_SeqSends.l1 kq l3 t292 t295 x12_2 x13_3 x14_3 = some r) ∧ Aside0 (kq ≤ k2) ∧ Aside0 (Kd.R k50 50 w' w.heap.size (fun _ => True) (.slice Ao35 t292.length co35) t292) ∧ Aside0 (Kd.R k48 48 w' w.heap.size (fun _ => True) v296 t295) ∧ Aside0 (w'.heap[gb278]? = some (.cells #[.int .i64 a0_0, (.slice A0_1 l0_1.length c0_1)] 24 (0, 0))) ∧ Aside0 (w'.heap[gb279]? = some (.cells #[.string a1_0, .int .i64 a1_1, .int .i64 a1_2] 26 (0, 0))) ∧ Aside0 (Below w.heap.size w w'))
                  case atStart => exact ⟨(false), (0), (by first | rfl | (simp; done) | (simp [*]; done)), (by first | rfl | (simp; done) | (simp [*]; done)), H', ⟨Nat.le_refl _⟩, ⟨by (with_reducible repeat (first | apply Kd.R_alloc | apply Kd.R_drewN | apply Kd.R_drew)); exact HO_9.out⟩, ⟨by (with_reducible repeat (first | apply Kd.R_alloc | apply Kd.R_drewN | apply Kd.R_drew)); exact HO_10.out⟩, ⟨by (with_reducible repeat (first | refine blk_drewN ?_ _ | refine blk_drew ?_ | refine blk_alloc ?_ _)); exact BK278.out⟩, ⟨by (with_reducible repeat (first | refine blk_drewN ?_ _ | refine blk_drew ?_ | refine blk_alloc ?_ _)); exact BK279.out⟩, ⟨by repeat (first | (with_reducible first | exact HB.out | apply below_alloc | apply pw_below_drewN | apply below_drew1 | refine below_set ?_ GE278.out | refine below_set ?_ GE279.out) | exact HB.out)⟩⟩
                  case round =>
                    clear H'
                    try clear c1
                    try clear c2
                    try clear p2
                    try clear c3
                    try clear c6
                    try clear c9
                    try clear c10
                    try clear c10b0
                    try clear c10b1
                    try clear c11
                    try clear c12
                    try clear c13
                    try clear c15
                    try clear c16
                    try clear c18
                    try clear c22
                    try clear c24
                    try clear c24b0
                    try clear c24b1
                    try clear c34
                    try clear c34b0
                    try clear hcz13_0
                    try clear hcz13_1
                    try clear hcz16_0
                    try clear hcz16_1
                    try clear hfz13_0
                    try clear hfz13_1
                    try clear hfz16_0
                    try clear hfz16_1
                    try clear p2
                    obtain ⟨x13_3, x14_3, rfl, rfl, HA, HK3, HO_9, HO_10, BK278, BK279, HB⟩ := hrel
                    cases gk with
                    | zero => exact absurd HA.out (by simp [modillionlaw09_SeqSends.l1])
                    | succ k3 =>
                      have H := HA.out
                      clear HA
                      simp only [modillionlaw09_SeqSends.l1] at H
                      by_cases c36 : x14_3 < (t295.length : Int)
                      · rw [if_pos c36] at H
                        have c36b0 : decide (x14_3 < (t295.length : Int)) = true := decide_eq_true c36
                        clear c36
                        by_cases c37 : x13_3 = true
                        · subst c37
                          have H1 : (modillionlaw09_SeqSends.l1 k3 l3 t292 t295 x12_2 true (wrap64 (x14_3 + 1))) = some r := by rw [if_pos rfl] at H; exact H
                          clear H
                          have H := H1
                          clear H1
                          have H' := Aside0.mk H
                          clear H
                          obtain ⟨Ao38, co38, eo38⟩ := Kd.R_slice HO_10.out
                          subst eo38
                          go_wp2
                          go_roundg k3
                          case measure => have := HJ4.out; have := HK2.out; have := HK3.out; omega
                          case rel => exact ⟨(true), (wrap64 (x14_3 + 1)), (by first | rfl | (simp; done) | (simp [*]; done)), (by first | rfl | (simp; done) | (simp [*]; done)), H', ⟨by have := HJ4.out; have := HK2.out; have := HK3.out; omega⟩, ⟨by (with_reducible repeat (first | apply Kd.R_alloc | apply Kd.R_drewN | apply Kd.R_drew)); exact HO_9.out⟩, ⟨by (with_reducible repeat (first | apply Kd.R_alloc | apply Kd.R_drewN | apply Kd.R_drew)); exact HO_10.out⟩, ⟨by (with_reducible repeat (first | refine blk_drewN ?_ _ | refine blk_drew ?_ | refine blk_alloc ?_ _)); exact BK278.out⟩, ⟨by (with_reducible repeat (first | refine blk_drewN ?_ _ | refine blk_drew ?_ | refine blk_alloc ?_ _)); exact BK279.out⟩, ⟨by repeat (first | (with_reducible first | exact HB.out | apply below_alloc | apply pw_below_drewN | apply below_drew1 | refine below_set ?_ GE278.out | refine below_set ?_ GE279.out) | exact HB.out)⟩⟩
                        · replace c37 := Bool.eq_false_iff.mpr c37
                          subst c37
                          have H1 : (if 0 ≤ x14_3 then (modillionlaw09_SeqSends.l1 k3 l3 t292 t295 x12_2 (((rd_T48 t295 x14_3).f1) == x12_2) (wrap64 (x14_3 + 1))) else (none)) = some r := by rw [if_neg (show ¬ (false = true) by decide)] at H; exact H
                          clear H
                          have H := H1
                          clear H1
                          by_cases c39 : 0 ≤ x14_3
                          · rw [if_pos c39] at H
                            have c39b0 : decide (0 ≤ x14_3) = true := decide_eq_true c39
                            clear c39
                            have H' := Aside0.mk H
                            clear H
                            obtain ⟨Ao40, co40, eo40⟩ := Kd.R_slice HO_10.out
                            subst eo40
                            have p299 : 0 ≤ (x14_3 : Int) := of_decide_eq_true (by first | (with_reducible assumption) | assumption)
                            have q299 : x14_3 < (t295.length : Int) := of_decide_eq_true (by first | (with_reducible assumption) | assumption)
                            obtain ⟨ad299, e299, hx299_0, hx299_1, hx299_2⟩ := at_T48 (Kd.R_reads' HO_10.out).2.2 x14_3 p299 q299
                            cases e299
                            replace p299 := eq_true p299
                            replace q299 := eq_true q299
                            go_wp2
                            go_roundg k3
                            case measure => have := HJ4.out; have := HK2.out; have := HK3.out; omega
                            case rel => exact ⟨((((rd_T48 t295 x14_3).f1) == x12_2)), (wrap64 (x14_3 + 1)), (by first | rfl | (simp; done) | (simp [*]; done)), (by first | rfl | (simp; done) | (simp [*]; done)), H', ⟨by have := HJ4.out; have := HK2.out; have := HK3.out; omega⟩, ⟨by (with_reducible repeat (first | apply Kd.R_alloc | apply Kd.R_drewN | apply Kd.R_drew)); exact HO_9.out⟩, ⟨by (with_reducible repeat (first | apply Kd.R_alloc | apply Kd.R_drewN | apply Kd.R_drew)); exact HO_10.out⟩, ⟨by (with_reducible repeat (first | refine blk_drewN ?_ _ | refine blk_drew ?_ | refine blk_alloc ?_ _)); exact BK278.out⟩, ⟨by (with_reducible repeat (first | refine blk_drewN ?_ _ | refine blk_drew ?_ | refine blk_alloc ?_ _)); exact BK279.out⟩, ⟨by repeat (first | (with_reducible first | exact HB.out | apply below_alloc | apply pw_below_drewN | apply below_drew1 | refine below_set ?_ GE278.out | refine below_set ?_ GE279.out) | exact HB.out)⟩⟩
                          · rw [if_neg c39] at H
                            exact absurd H (by simp)
                      · rw [if_neg c36] at H
                        have c36b0 : decide (x14_3 < (t295.length : Int)) = false := decide_eq_false c36
                        clear c36
                        by_cases c41 : 0 ≤ x12_2
                        · rw [if_pos c41] at H
                          have c41b0 : decide (0 ≤ x12_2) = true := decide_eq_true c41
                          clear c41
                          by_cases c42 : x12_2 < (t292.length : Int)
                          · rw [if_pos c42] at H
                            have c42b0 : decide (x12_2 < (t292.length : Int)) = true := decide_eq_true c42
                            clear c42
                            by_cases c43 : ((rd_T50 t292 x12_2).f0) = x12_2
                            · rw [if_pos c43] at H
                              have c43b0 : (((rd_T50 t292 x12_2).f0) == x12_2) = true := beq_iff_eq.mpr c43
                              have c43b1 : (((rd_T50 t292 x12_2).f0) != x12_2) = false := bne_eq_false_iff_eq.mpr c43
                              clear c43
                              by_cases c44 : (((rd_T50 t292 x12_2).f3) != x13_3) = true
                              · rw [if_pos c44] at H
                                have c44b0 : (((rd_T50 t292 x12_2).f3) != x13_3) = true := c44
                                (try (have c44b1 : decide (((rd_T50 t292 x12_2).f3) = x13_3) = false := by simpa using c44))
                                (try (have c44b2 : (((rd_T50 t292 x12_2).f3) == x13_3) = false := by simpa using c44))
                                (try (have c44b3 : ¬ (((rd_T50 t292 x12_2).f3) = x13_3) := by simpa using c44))
                                clear c44
                                obtain rfl := Option.some.inj H
                                obtain ⟨Ao45, co45, eo45⟩ := Kd.R_slice HO_10.out
                                subst eo45
                                have p300 : 0 ≤ (x12_2 : Int) := of_decide_eq_true (by first | (with_reducible assumption) | assumption)
                                have q300 : x12_2 < (t292.length : Int) := of_decide_eq_true (by first | (with_reducible assumption) | assumption)
                                obtain ⟨ad300, e300, hx300_0, hx300_1, hx300_2, hx300_3, hx300_4⟩ := at_T50 (Kd.R_reads' HO_9.out).2.2 x12_2 p300 q300
                                cases e300
                                replace p300 := eq_true p300
                                replace q300 := eq_true q300
                                have p301 : 0 ≤ (x12_2 : Int) := of_decide_eq_true (by first | (with_reducible assumption) | assumption)
                                have q301 : x12_2 < (t292.length : Int) := of_decide_eq_true (by first | (with_reducible assumption) | assumption)
                                obtain ⟨ad301, e301, hx301_0, hx301_1, hx301_2, hx301_3, hx301_4⟩ := at_T50 (Kd.R_reads' HO_9.out).2.2 x12_2 p301 q301
                                obtain rfl : ad300 = ad301 := (by injection e301)
                                replace p301 := eq_true p301
                                replace q301 := eq_true q301
                                go_wp2
                                go_ret
                                exact ⟨by first | rfl | (simp [errW_none, errW_some] <;> rfl) | (simp [*, errW_none, errW_some] <;> rfl), by repeat (first | (with_reducible first | exact HB.out | apply below_alloc | apply pw_below_drewN | apply below_drew1 | refine below_set ?_ GE278.out | refine below_set ?_ GE279.out) | exact HB.out)⟩
                              · rw [if_neg c44] at H
                                have c44b0 : (((rd_T50 t292 x12_2).f3) != x13_3) = false := by simpa using c44
                                (try (have c44b1 : decide (((rd_T50 t292 x12_2).f3) = x13_3) = true := by simpa using c44))
                                (try (have c44b2 : (((rd_T50 t292 x12_2).f3) == x13_3) = true := by simpa using c44))
                                clear c44
                                by_cases c46 : x13_3 = true
                                · subst c46
                                  have H1 : (modillionlaw09_SeqSends.l0 k3 l3 t292 t295 (wrap64 (x12_2 + 1))) = some r := by rw [if_pos rfl] at H; exact H
                                  clear H
                                  have H := H1
                                  clear H1
                                  have H' := Aside0.mk H
                                  clear H
                                  obtain ⟨Ao47, co47, eo47⟩ := Kd.R_slice HO_10.out
                                  subst eo47
                                  have p300 : 0 ≤ (x12_2 : Int) := of_decide_eq_true (by first | (with_reducible assumption) | assumption)
                                  have q300 : x12_2 < (t292.length : Int) := of_decide_eq_true (by first | (with_reducible assumption) | assumption)
                                  obtain ⟨ad300, e300, hx300_0, hx300_1, hx300_2, hx300_3, hx300_4⟩ := at_T50 (Kd.R_reads' HO_9.out).2.2 x12_2 p300 q300
                                  cases e300
                                  replace p300 := eq_true p300
                                  replace q300 := eq_true q300
                                  have p301 : 0 ≤ (x12_2 : Int) := of_decide_eq_true (by first | (with_reducible assumption) | assumption)
                                  have q301 : x12_2 < (t292.length : Int) := of_decide_eq_true (by first | (with_reducible assumption) | assumption)
                                  obtain ⟨ad301, e301, hx301_0, hx301_1, hx301_2, hx301_3, hx301_4⟩ := at_T50 (Kd.R_reads' HO_9.out).2.2 x12_2 p301 q301
                                  obtain rfl : ad300 = ad301 := (by injection e301)
                                  replace p301 := eq_true p301
                                  replace q301 := eq_true q301
                                  go_wp2
                                  go_roundg k3
                                  case measure => have := HJ4.out; have := HK2.out; have := HK3.out; omega
                                  case rel => exact ⟨(wrap64 (x12_2 + 1)), (by first | rfl | (simp; done) | (simp [*]; done)), H', ⟨by have := HJ4.out; have := HK2.out; have := HK3.out; omega⟩, ⟨by (with_reducible repeat (first | apply Kd.R_alloc | apply Kd.R_drewN | apply Kd.R_drew)); exact HO_9.out⟩, ⟨by (with_reducible repeat (first | apply Kd.R_alloc | apply Kd.R_drewN | apply Kd.R_drew)); exact HO_10.out⟩, ⟨by (with_reducible repeat (first | refine blk_drewN ?_ _ | refine blk_drew ?_ | refine blk_alloc ?_ _)); exact BK278.out⟩, ⟨by (with_reducible repeat (first | refine blk_drewN ?_ _ | refine blk_drew ?_ | refine blk_alloc ?_ _)); exact BK279.out⟩, ⟨by repeat (first | (with_reducible first | exact HB.out | apply below_alloc | apply pw_below_drewN | apply below_drew1 | refine below_set ?_ GE278.out | refine below_set ?_ GE279.out) | exact HB.out)⟩⟩
                                · replace c46 := Bool.eq_false_iff.mpr c46
                                  subst c46
                                  have H1 : (if ((rd_T50 t292 x12_2).f4) = 0 then (modillionlaw09_SeqSends.l0 k3 l3 t292 t295 (wrap64 (x12_2 + 1))) else (some false)) = some r := by rw [if_neg (show ¬ (false = true) by decide)] at H; exact H
                                  clear H
                                  have H := H1
                                  clear H1
                                  by_cases c48 : ((rd_T50 t292 x12_2).f4) = 0
                                  · rw [if_pos c48] at H
                                    have c48b0 : (((rd_T50 t292 x12_2).f4) == 0) = true := beq_iff_eq.mpr c48
                                    have c48b1 : (((rd_T50 t292 x12_2).f4) != 0) = false := bne_eq_false_iff_eq.mpr c48
                                    clear c48
                                    have H' := Aside0.mk H
                                    clear H
                                    obtain ⟨Ao49, co49, eo49⟩ := Kd.R_slice HO_10.out
                                    subst eo49
                                    have p300 : 0 ≤ (x12_2 : Int) := of_decide_eq_true (by first | (with_reducible assumption) | assumption)
                                    have q300 : x12_2 < (t292.length : Int) := of_decide_eq_true (by first | (with_reducible assumption) | assumption)
                                    obtain ⟨ad300, e300, hx300_0, hx300_1, hx300_2, hx300_3, hx300_4⟩ := at_T50 (Kd.R_reads' HO_9.out).2.2 x12_2 p300 q300
                                    cases e300
                                    replace p300 := eq_true p300
                                    replace q300 := eq_true q300
                                    have p301 : 0 ≤ (x12_2 : Int) := of_decide_eq_true (by first | (with_reducible assumption) | assumption)
                                    have q301 : x12_2 < (t292.length : Int) := of_decide_eq_true (by first | (with_reducible assumption) | assumption)
                                    obtain ⟨ad301, e301, hx301_0, hx301_1, hx301_2, hx301_3, hx301_4⟩ := at_T50 (Kd.R_reads' HO_9.out).2.2 x12_2 p301 q301
                                    obtain rfl : ad300 = ad301 := (by injection e301)
                                    replace p301 := eq_true p301
                                    replace q301 := eq_true q301
                                    have p302 : 0 ≤ (x12_2 : Int) := of_decide_eq_true (by first | (with_reducible assumption) | assumption)
                                    have q302 : x12_2 < (t292.length : Int) := of_decide_eq_true (by first | (with_reducible assumption) | assumption)
                                    obtain ⟨ad302, e302, hx302_0, hx302_1, hx302_2, hx302_3, hx302_4⟩ := at_T50 (Kd.R_reads' HO_9.out).2.2 x12_2 p302 q302
                                    obtain rfl : ad300 = ad302 := (by injection e302)
                                    replace p302 := eq_true p302
                                    replace q302 := eq_true q302
                                    go_wp2
                                    go_roundg k3
                                    case measure => have := HJ4.out; have := HK2.out; have := HK3.out; omega
                                    case rel => exact ⟨(wrap64 (x12_2 + 1)), (by first | rfl | (simp; done) | (simp [*]; done)), H', ⟨by have := HJ4.out; have := HK2.out; have := HK3.out; omega⟩, ⟨by (with_reducible repeat (first | apply Kd.R_alloc | apply Kd.R_drewN | apply Kd.R_drew)); exact HO_9.out⟩, ⟨by (with_reducible repeat (first | apply Kd.R_alloc | apply Kd.R_drewN | apply Kd.R_drew)); exact HO_10.out⟩, ⟨by (with_reducible repeat (first | refine blk_drewN ?_ _ | refine blk_drew ?_ | refine blk_alloc ?_ _)); exact BK278.out⟩, ⟨by (with_reducible repeat (first | refine blk_drewN ?_ _ | refine blk_drew ?_ | refine blk_alloc ?_ _)); exact BK279.out⟩, ⟨by repeat (first | (with_reducible first | exact HB.out | apply below_alloc | apply pw_below_drewN | apply below_drew1 | refine below_set ?_ GE278.out | refine below_set ?_ GE279.out) | exact HB.out)⟩⟩
                                  · rw [if_neg c48] at H
                                    have c48b0 : (((rd_T50 t292 x12_2).f4) == 0) = false := beq_eq_false_iff_ne.mpr c48
                                    have c48b1 : (((rd_T50 t292 x12_2).f4) != 0) = true := bne_iff_ne.mpr c48
                                    obtain rfl := Option.some.inj H
                                    obtain ⟨Ao50, co50, eo50⟩ := Kd.R_slice HO_10.out
                                    subst eo50
                                    have p300 : 0 ≤ (x12_2 : Int) := of_decide_eq_true (by first | (with_reducible assumption) | assumption)
                                    have q300 : x12_2 < (t292.length : Int) := of_decide_eq_true (by first | (with_reducible assumption) | assumption)
                                    obtain ⟨ad300, e300, hx300_0, hx300_1, hx300_2, hx300_3, hx300_4⟩ := at_T50 (Kd.R_reads' HO_9.out).2.2 x12_2 p300 q300
                                    cases e300
                                    replace p300 := eq_true p300
                                    replace q300 := eq_true q300
                                    have p301 : 0 ≤ (x12_2 : Int) := of_decide_eq_true (by first | (with_reducible assumption) | assumption)
                                    have q301 : x12_2 < (t292.length : Int) := of_decide_eq_true (by first | (with_reducible assumption) | assumption)
                                    obtain ⟨ad301, e301, hx301_0, hx301_1, hx301_2, hx301_3, hx301_4⟩ := at_T50 (Kd.R_reads' HO_9.out).2.2 x12_2 p301 q301
                                    obtain rfl : ad300 = ad301 := (by injection e301)
                                    replace p301 := eq_true p301
                                    replace q301 := eq_true q301
                                    have p302 : 0 ≤ (x12_2 : Int) := of_decide_eq_true (by first | (with_reducible assumption) | assumption)
                                    have q302 : x12_2 < (t292.length : Int) := of_decide_eq_true (by first | (with_reducible assumption) | assumption)
                                    obtain ⟨ad302, e302, hx302_0, hx302_1, hx302_2, hx302_3, hx302_4⟩ := at_T50 (Kd.R_reads' HO_9.out).2.2 x12_2 p302 q302
                                    obtain rfl : ad300 = ad302 := (by injection e302)
                                    replace p302 := eq_true p302
                                    replace q302 := eq_true q302
                                    go_wp2
                                    go_ret
                                    exact ⟨by first | rfl | (simp [errW_none, errW_some] <;> rfl) | (simp [*, errW_none, errW_some] <;> rfl), by repeat (first | (with_reducible first | exact HB.out | apply below_alloc | apply pw_below_drewN | apply below_drew1 | refine below_set ?_ GE278.out | refine below_set ?_ GE279.out) | exact HB.out)⟩
                            · rw [if_neg c43] at H
                              have c43b0 : (((rd_T50 t292 x12_2).f0) == x12_2) = false := beq_eq_false_iff_ne.mpr c43
                              have c43b1 : (((rd_T50 t292 x12_2).f0) != x12_2) = true := bne_iff_ne.mpr c43
                              obtain rfl := Option.some.inj H
                              obtain ⟨Ao51, co51, eo51⟩ := Kd.R_slice HO_10.out
                              subst eo51
                              have p300 : 0 ≤ (x12_2 : Int) := of_decide_eq_true (by first | (with_reducible assumption) | assumption)
                              have q300 : x12_2 < (t292.length : Int) := of_decide_eq_true (by first | (with_reducible assumption) | assumption)
                              obtain ⟨ad300, e300, hx300_0, hx300_1, hx300_2, hx300_3, hx300_4⟩ := at_T50 (Kd.R_reads' HO_9.out).2.2 x12_2 p300 q300
                              cases e300
                              replace p300 := eq_true p300
                              replace q300 := eq_true q300
                              go_wp2
                              go_ret
                              exact ⟨by first | rfl | (simp [errW_none, errW_some] <;> rfl) | (simp [*, errW_none, errW_some] <;> rfl), by repeat (first | (with_reducible first | exact HB.out | apply below_alloc | apply pw_below_drewN | apply below_drew1 | refine below_set ?_ GE278.out | refine below_set ?_ GE279.out) | exact HB.out)⟩
                          · rw [if_neg c42] at H
                            exact absurd H (by simp)
                        · rw [if_neg c41] at H
                          exact absurd H (by simp)
                · rw [if_neg c34] at H
                  have c34b0 : decide (x12_2 < (t292.length : Int)) = false := decide_eq_false c34
                  clear c34
                  obtain rfl := Option.some.inj H
                  obtain ⟨Ao52, co52, eo52⟩ := Kd.R_slice HO_9.out
                  subst eo52
                  go_wp2
                  go_ret
                  exact ⟨by first | rfl | (simp [errW_none, errW_some] <;> rfl) | (simp [*, errW_none, errW_some] <;> rfl), by repeat (first | (with_reducible first | exact HB.out | apply below_alloc | apply pw_below_drewN | apply below_drew1 | refine below_set ?_ GE278.out | refine below_set ?_ GE279.out) | exact HB.out)⟩
          · rw [if_neg c24] at H
            have c24b0 : (t298 == 0) = false := beq_eq_false_iff_ne.mpr c24
            have c24b1 : (t298 != 0) = true := bne_iff_ne.mpr c24
            have HH_ := Aside0.mk H
            clear H
            obtain ⟨Ao63, co63, eo63⟩ := Kd.R_slice HO294.out
            subst eo63
            have H := HH_.out
            clear HH_
            by_cases c53 : (t292.length : Int) = 0
            · rw [if_pos c53] at H
              have c53b0 : ((t292.length : Int) == 0) = true := beq_iff_eq.mpr c53
              have c53b1 : ((t292.length : Int) != 0) = false := bne_eq_false_iff_eq.mpr c53
              clear c53
              (first | rw [c53b0] | simp only [c53b0] | skip)
              obtain rfl := Option.some.inj H
              obtain ⟨Ao64, co64, eo64⟩ := Kd.R_slice HO297.out
              subst eo64
              try go_wp2
              go_ret
              exact ⟨by first | rfl | (simp [errW_none, errW_some] <;> rfl) | (simp [*, errW_none, errW_some] <;> rfl), by repeat (first | (with_reducible first | exact HB.out | apply below_alloc | apply pw_below_drewN | apply below_drew1 | refine below_set ?_ GE278.out | refine below_set ?_ GE279.out) | exact HB.out)⟩
            · rw [if_neg c53] at H
              have c53b0 : ((t292.length : Int) == 0) = false := beq_eq_false_iff_ne.mpr c53
              have c53b1 : ((t292.length : Int) != 0) = true := bne_iff_ne.mpr c53
              have c53b2 : ¬ (t292 = []) := fun h_ => c53 (by rw [h_]; rfl)
              obtain rfl := Option.some.inj H
              try go_wp2
              go_ret
              exact ⟨by first | rfl | (simp [errW_none, errW_some] <;> rfl) | (simp [*, errW_none, errW_some] <;> rfl), by repeat (first | (with_reducible first | exact HB.out | apply below_alloc | apply pw_below_drewN | apply below_drew1 | refine below_set ?_ GE278.out | refine below_set ?_ GE279.out) | exact HB.out)⟩
        · rw [if_neg c22] at H
          exact absurd H (by simp)

end Go.Proofs.Ytpndhkeoljoapaa.P
