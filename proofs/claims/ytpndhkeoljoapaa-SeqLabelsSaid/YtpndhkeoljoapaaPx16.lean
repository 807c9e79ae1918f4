/- Printed by a program of this session (wip/myprint.py) over the print of the kit: what the Go functions of this seat compute, as Lean functions, and that they do; for the functions that take or make function values the contracts are by hand. No condition. -/
import Derived.Test.YtpndhkeoljoapaaPx0
import Derived.Test.YtpndhkeoljoapaaPx9
import Derived.Test.YtpndhkeoljoapaaPx10
namespace Go.Proofs.Ytpndhkeoljoapaa.P
open Go.RowKit Go.Proofs.YtpndhkeoljoapaaW.PrintWords Go.Proofs.YtpndhkeoljoapaaW.PrintLast Go.Proofs.YtpndhkeoljoapaaW.PrintMore
attribute [local go_sem] max2_int min2_int max_two min_two max_three min_three max_four min_four   -- for this text's walks alone
set_option linter.unusedVariables false
set_option linter.unusedSimpArgs false
set_option linter.unnecessarySimpa false

/-! ### modillionlaw09_SeqLabels: function 8 -/
mutual
def modillionlaw09_SeqLabels.j0 : Nat → Bool → Int → List (S45) → Option (Bool)
  | 0, _, _, _ => none
  | k + 1, x22, x318000, x318001 => if x22 = true then ((modillionlaw09_awake.f k).bind fun t319 => (some t319)) else ((modillionlaw09_Own.f x318000 x318001).bind fun bt320 => ((seq_Run.f k bt320.1 bt320.2 (⟨#[108, 97, 98, 101, 108]⟩ : ByteArray) 0 20).bind fun bt324 => (if bt324.2.2 = 0 then (modillionlaw09_SeqLabels.l0 k bt324.1 0 x318000 x318001) else (some ((bt324.1.length : Int) == 0)))))
def modillionlaw09_SeqLabels.l0 : Nat → List Int → Int → Int → List (S45) → Option (Bool)
  | 0, _, _, _, _ => none
  | k + 1, x3, x6, x318000, x318001 => if x6 < (x318001.length : Int) then (if 0 ≤ x6 then (if 0 ≤ ((rd_T45 x318001 x6).f1) then (if ((rd_T45 x318001 x6).f1) < (x3.length : Int) then (if 0 ≤ ((rd_T45 x318001 x6).f0) then (if ((rd_T45 x318001 x6).f0) < (x3.length : Int) then (if (rd x3 ((rd_T45 x318001 x6).f1)) > (rd x3 ((rd_T45 x318001 x6).f0)) then (some false) else (modillionlaw09_SeqLabels.l0 k x3 (wrap64 (x6 + 1)) x318000 x318001)) else (none)) else (none)) else (none)) else (none)) else (none)) else (modillionlaw09_SeqLabels.l1 k x3 0 x318000 x318001)
def modillionlaw09_SeqLabels.l1 : Nat → List Int → Int → Int → List (S45) → Option (Bool)
  | 0, _, _, _, _ => none
  | k + 1, x3, x7, x318000, x318001 => if x7 < (x3.length : Int) then (if 0 ≤ x7 then (modillionlaw09_SeqLabels.l2 k x3 x7 ((rd x3 x7) == x7) 0 x318000 x318001) else (none)) else (some true)
def modillionlaw09_SeqLabels.l2 : Nat → List Int → Int → Bool → Int → Int → List (S45) → Option (Bool)
  | 0, _, _, _, _, _, _ => none
  | k + 1, x3, x7, x8, x9, x318000, x318001 => if x9 < (x318001.length : Int) then (if x8 = true then (modillionlaw09_SeqLabels.l2 k x3 x7 true (wrap64 (x9 + 1)) x318000 x318001) else (if 0 ≤ x9 then (if ((rd_T45 x318001 x9).f1) = x7 then (if 0 ≤ ((rd_T45 x318001 x9).f0) then (if ((rd_T45 x318001 x9).f0) < (x3.length : Int) then (if 0 ≤ x7 then (if x7 < (x3.length : Int) then (modillionlaw09_SeqLabels.l2 k x3 x7 ((rd x3 ((rd_T45 x318001 x9).f0)) == (rd x3 x7)) (wrap64 (x9 + 1)) x318000 x318001) else (none)) else (none)) else (none)) else (none)) else (modillionlaw09_SeqLabels.l2 k x3 x7 false (wrap64 (x9 + 1)) x318000 x318001)) else (none))) else (if x8 = true then (if 0 ≤ x7 then (if x7 < (x3.length : Int) then (if (rd x3 x7) < 0 then (some false) else (if (rd x3 x7) > x7 then (some false) else (if 0 ≤ (rd x3 x7) then (if (rd x3 x7) < (x3.length : Int) then (if (rd x3 (rd x3 x7)) = (rd x3 x7) then (modillionlaw09_SeqLabels.l1 k x3 (wrap64 (x7 + 1)) x318000 x318001) else (some false)) else (none)) else (none)))) else (none)) else (none)) else (some false))
end
def modillionlaw09_SeqLabels.f (k : Nat) (a0_0 : Int) (l0_1 : List (S45)) : Option (Bool) := (modillionlaw09_awake.f k).bind fun t318 => (if t318 = true then (if (l0_1.length : Int) > 60 then (modillionlaw09_SeqLabels.j0 k true a0_0 l0_1) else (modillionlaw09_SeqLabels.j0 k (decide (a0_0 > 12)) a0_0 l0_1)) else (modillionlaw09_SeqLabels.j0 k true a0_0 l0_1))
theorem modillionlaw09_SeqLabels.mono_l : ∀ k, (∀ y0 y1 y2, LeO (modillionlaw09_SeqLabels.j0 k y0 y1 y2) (modillionlaw09_SeqLabels.j0 (k + 1) y0 y1 y2)) ∧ (∀ y0 y1 y2 y3, LeO (modillionlaw09_SeqLabels.l0 k y0 y1 y2 y3) (modillionlaw09_SeqLabels.l0 (k + 1) y0 y1 y2 y3)) ∧ (∀ y0 y1 y2 y3, LeO (modillionlaw09_SeqLabels.l1 k y0 y1 y2 y3) (modillionlaw09_SeqLabels.l1 (k + 1) y0 y1 y2 y3)) ∧ (∀ y0 y1 y2 y3 y4 y5, LeO (modillionlaw09_SeqLabels.l2 k y0 y1 y2 y3 y4 y5) (modillionlaw09_SeqLabels.l2 (k + 1) y0 y1 y2 y3 y4 y5))
  | 0 => ⟨fun _ _ _ r h => by simp [modillionlaw09_SeqLabels.j0] at h, fun _ _ _ _ r h => by simp [modillionlaw09_SeqLabels.l0] at h, fun _ _ _ _ r h => by simp [modillionlaw09_SeqLabels.l1] at h, fun _ _ _ _ _ _ r h => by simp [modillionlaw09_SeqLabels.l2] at h⟩
  | k + 1 => by
    obtain ⟨ih0, ih1, ih2, ih3⟩ := modillionlaw09_SeqLabels.mono_l k
    refine ⟨?_, ?_, ?_, ?_⟩
    · intro y0 y1 y2
      unfold modillionlaw09_SeqLabels.j0
      repeat' first
      | (with_reducible exact ih0 _ _ _)
      | (with_reducible exact ih1 _ _ _ _)
      | (with_reducible exact ih2 _ _ _ _)
      | (with_reducible exact ih3 _ _ _ _ _ _)
      | (with_reducible exact modillionlaw09_awake.mono _)
      | (with_reducible exact seq_Run.mono _ _ _ _ _ _)
      | (with_reducible exact LeO.refl _)
      | (with_reducible exact LeO.none _)
      | (with_reducible refine LeO.ite ?_ ?_)
      | (with_reducible refine LeO.bind ?_ (fun _ => ?_))
      | exact ih0 _ _ _
      | exact ih1 _ _ _ _
      | exact ih2 _ _ _ _
      | exact ih3 _ _ _ _ _ _
      | exact modillionlaw09_awake.mono _
      | exact seq_Run.mono _ _ _ _ _ _
      | exact LeO.none _
      | refine LeO.ite ?_ ?_
      | refine LeO.bind ?_ (fun _ => ?_)
    · intro y0 y1 y2 y3
      unfold modillionlaw09_SeqLabels.l0
      repeat' first
      | (with_reducible exact ih0 _ _ _)
      | (with_reducible exact ih1 _ _ _ _)
      | (with_reducible exact ih2 _ _ _ _)
      | (with_reducible exact ih3 _ _ _ _ _ _)
      | (with_reducible exact modillionlaw09_awake.mono _)
      | (with_reducible exact seq_Run.mono _ _ _ _ _ _)
      | (with_reducible exact LeO.refl _)
      | (with_reducible exact LeO.none _)
      | (with_reducible refine LeO.ite ?_ ?_)
      | (with_reducible refine LeO.bind ?_ (fun _ => ?_))
      | exact ih0 _ _ _
      | exact ih1 _ _ _ _
      | exact ih2 _ _ _ _
      | exact ih3 _ _ _ _ _ _
      | exact modillionlaw09_awake.mono _
      | exact seq_Run.mono _ _ _ _ _ _
      | exact LeO.none _
      | refine LeO.ite ?_ ?_
      | refine LeO.bind ?_ (fun _ => ?_)
    · intro y0 y1 y2 y3
      unfold modillionlaw09_SeqLabels.l1
      repeat' first
      | (with_reducible exact ih0 _ _ _)
      | (with_reducible exact ih1 _ _ _ _)
      | (with_reducible exact ih2 _ _ _ _)
      | (with_reducible exact ih3 _ _ _ _ _ _)
      | (with_reducible exact modillionlaw09_awake.mono _)
      | (with_reducible exact seq_Run.mono _ _ _ _ _ _)
      | (with_reducible exact LeO.refl _)
      | (with_reducible exact LeO.none _)
      | (with_reducible refine LeO.ite ?_ ?_)
      | (with_reducible refine LeO.bind ?_ (fun _ => ?_))
      | exact ih0 _ _ _
      | exact ih1 _ _ _ _
      | exact ih2 _ _ _ _
      | exact ih3 _ _ _ _ _ _
      | exact modillionlaw09_awake.mono _
      | exact seq_Run.mono _ _ _ _ _ _
      | exact LeO.none _
      | refine LeO.ite ?_ ?_
      | refine LeO.bind ?_ (fun _ => ?_)
    · intro y0 y1 y2 y3 y4 y5
      unfold modillionlaw09_SeqLabels.l2
      repeat' first
      | (with_reducible exact ih0 _ _ _)
      | (with_reducible exact ih1 _ _ _ _)
      | (with_reducible exact ih2 _ _ _ _)
      | (with_reducible exact ih3 _ _ _ _ _ _)
      | (with_reducible exact modillionlaw09_awake.mono _)
      | (with_reducible exact seq_Run.mono _ _ _ _ _ _)
      | (with_reducible exact LeO.refl _)
      | (with_reducible exact LeO.none _)
      | (with_reducible refine LeO.ite ?_ ?_)
      | (with_reducible refine LeO.bind ?_ (fun _ => ?_))
      | exact ih0 _ _ _
      | exact ih1 _ _ _ _
      | exact ih2 _ _ _ _
      | exact ih3 _ _ _ _ _ _
      | exact modillionlaw09_awake.mono _
      | exact seq_Run.mono _ _ _ _ _ _
      | exact LeO.none _
      | refine LeO.ite ?_ ?_
      | refine LeO.bind ?_ (fun _ => ?_)
theorem modillionlaw09_SeqLabels.mono : ∀ a0 a1 k, LeO (modillionlaw09_SeqLabels.f k a0 a1) (modillionlaw09_SeqLabels.f (k + 1) a0 a1) := by
  intro a0 a1 k
  obtain ⟨ih0, ih1, ih2, ih3⟩ := modillionlaw09_SeqLabels.mono_l k
  unfold modillionlaw09_SeqLabels.f
  repeat' first
      | (with_reducible exact ih0 _ _ _)
      | (with_reducible exact ih1 _ _ _ _)
      | (with_reducible exact ih2 _ _ _ _)
      | (with_reducible exact ih3 _ _ _ _ _ _)
      | (with_reducible exact modillionlaw09_awake.mono _)
      | (with_reducible exact seq_Run.mono _ _ _ _ _ _)
      | (with_reducible exact LeO.refl _)
      | (with_reducible exact LeO.none _)
      | (with_reducible refine LeO.ite ?_ ?_)
      | (with_reducible refine LeO.bind ?_ (fun _ => ?_))
      | exact ih0 _ _ _
      | exact ih1 _ _ _ _
      | exact ih2 _ _ _ _
      | exact ih3 _ _ _ _ _ _
      | exact modillionlaw09_awake.mono _
      | exact seq_Run.mono _ _ _ _ _ _
      | exact LeO.none _
      | refine LeO.ite ?_ ?_
      | refine LeO.bind ?_ (fun _ => ?_)
set_option maxHeartbeats 8000000 in
set_option maxRecDepth 100000 in
theorem modillionlaw09_SeqLabels.calls (k : Nat) (a0_0 : Int) (A0_1 : Option Addr) (c0_1 : Nat) (l0_1 : List (S45)) (r : Bool) (w : World) (hr0_1 : Kd.C k45 w A0_1 l0_1.length l0_1) (hc0_1 : l0_1.length ≤ c0_1) (h : modillionlaw09_SeqLabels.f k a0_0 l0_1 = some r) :
    Calls Try.prog 8 #[.agg #[.int .i64 a0_0, .slice A0_1 l0_1.length c0_1]] w fun e w' => e = .returned (.bool r) ∧ Below w.heap.size w w' := by
  have hu24 := Try.underlying24
  have hu26 := Try.underlying26
  have HR0_1 := Aside0.mk hr0_1
  have HC0_1 := Aside0.mk hc0_1
  clear hr0_1 hc0_1
  have HB := Aside0.mk (Below.refl w.heap.size w)
  have H : ((modillionlaw09_awake.f k).bind fun t318 => (if t318 = true then (if (l0_1.length : Int) > 60 then (modillionlaw09_SeqLabels.j0 k true a0_0 l0_1) else (modillionlaw09_SeqLabels.j0 k (decide (a0_0 > 12)) a0_0 l0_1)) else (modillionlaw09_SeqLabels.j0 k true a0_0 l0_1))) = some r := h
  clear h
  have HC2 := Aside0.mk H
  clear H
  go_enter Try.func8, Try.ntmps8
  go_upto_region 1 with (first | ((with_reducible refine gate_dst (N := 1) rfl ?_); (try (refine gate_guard (by rfl) ?_; dsimp only)); refine box_event ?hg (N := 1) ?hd (cs := #[.int .i64 a0_0, .slice A0_1 l0_1.length c0_1]) (t := 24) ?hr ?_; (case hd => rfl); (case hg => rfl); (case hr => first | (go_simp; done) | (go_simp; rfl)); intro gb317 hg w3 hbox hb; have n0_ := Aside0.mk (below_step (by repeat (first | (with_reducible first | exact HB.out | apply below_alloc | apply pw_below_drewN | apply below_drew1) | exact HB.out)) hb); have n1_ := Aside0.mk (hbox); have n2_ := Aside0.mk ((by rw [hg]; exact (below_size (by repeat (first | (with_reducible first | exact HB.out | apply below_alloc | apply pw_below_drewN | apply below_drew1) | exact HB.out))) : w.heap.size ≤ gb317)); have n3_ := Aside0.mk ((by rw [hg]; exact (below_size (by repeat (first | (with_reducible first | exact HB.out | apply below_alloc | apply pw_below_drewN | apply below_drew1) | exact HB.out))) : w.heap.size ≤ gb317)); clear HB; have HB := n0_; have BK317 := n1_; have GW317 := n2_; have GE317 := n3_; clear n0_ n1_ n2_ n3_; clear hb hbox hg))
  repeat (go_quiet (first | ((with_reducible refine gate_dst (N := 1) rfl ?_); (try (refine gate_guard (by rfl) ?_; dsimp only)); refine box_event ?hg (N := 1) ?hd (cs := #[.int .i64 a0_0, .slice A0_1 l0_1.length c0_1]) (t := 24) ?hr ?_; (case hd => rfl); (case hg => rfl); (case hr => first | (go_simp; done) | (go_simp; rfl)); intro gb317 hg w3 hbox hb; have n0_ := Aside0.mk (below_step (by repeat (first | (with_reducible first | exact HB.out | apply below_alloc | apply pw_below_drewN | apply below_drew1) | exact HB.out)) hb); have n1_ := Aside0.mk (hbox); have n2_ := Aside0.mk ((by rw [hg]; exact (below_size (by repeat (first | (with_reducible first | exact HB.out | apply below_alloc | apply pw_below_drewN | apply below_drew1) | exact HB.out))) : w.heap.size ≤ gb317)); have n3_ := Aside0.mk ((by rw [hg]; exact (below_size (by repeat (first | (with_reducible first | exact HB.out | apply below_alloc | apply pw_below_drewN | apply below_drew1) | exact HB.out))) : w.heap.size ≤ gb317)); clear HB; have HB := n0_; have BK317 := n1_; have GW317 := n2_; have GE317 := n3_; clear n0_ n1_ n2_ n3_; clear hb hbox hg)); go_upto_region 1 with (first | ((with_reducible refine gate_dst (N := 1) rfl ?_); (try (refine gate_guard (by rfl) ?_; dsimp only)); refine box_event ?hg (N := 1) ?hd (cs := #[.int .i64 a0_0, .slice A0_1 l0_1.length c0_1]) (t := 24) ?hr ?_; (case hd => rfl); (case hg => rfl); (case hr => first | (go_simp; done) | (go_simp; rfl)); intro gb317 hg w3 hbox hb; have n0_ := Aside0.mk (below_step (by repeat (first | (with_reducible first | exact HB.out | apply below_alloc | apply pw_below_drewN | apply below_drew1) | exact HB.out)) hb); have n1_ := Aside0.mk (hbox); have n2_ := Aside0.mk ((by rw [hg]; exact (below_size (by repeat (first | (with_reducible first | exact HB.out | apply below_alloc | apply pw_below_drewN | apply below_drew1) | exact HB.out))) : w.heap.size ≤ gb317)); have n3_ := Aside0.mk ((by rw [hg]; exact (below_size (by repeat (first | (with_reducible first | exact HB.out | apply below_alloc | apply pw_below_drewN | apply below_drew1) | exact HB.out))) : w.heap.size ≤ gb317)); clear HB; have HB := n0_; have BK317 := n1_; have GW317 := n2_; have GE317 := n3_; clear n0_ n1_ n2_ n3_; clear hb hbox hg)))
  (try simp only [Act.put, List.setIfInBounds_toArray, List.set_cons_zero, List.set_cons_succ])
  go_cut [22] (fun v22 wc => ∃ (kq : Nat) (x22_1 : Bool), v22 = .bool x22_1 ∧ Aside0 (modillionlaw09_SeqLabels.j0 kq x22_1 a0_0 l0_1 = some r) ∧ Aside0 (kq ≤ k) ∧ Aside0 (wc.heap[gb317]? = some (.cells #[.int .i64 a0_0, (.slice A0_1 l0_1.length c0_1)] 24 (0, 0))) ∧ Aside0 (Below w.heap.size w wc))
  case first =>
    have H := HC2.out
    clear HC2
    replace H := Option.bind_eq_some_iff.mp H
    obtain ⟨t318, A40, H⟩ := H
    replace H : (if t318 = true then (if (l0_1.length : Int) > 60 then (modillionlaw09_SeqLabels.j0 k true a0_0 l0_1) else (modillionlaw09_SeqLabels.j0 k (decide (a0_0 > 12)) a0_0 l0_1)) else (modillionlaw09_SeqLabels.j0 k true a0_0 l0_1)) = some r := H
    have A4 := Aside0.mk A40
    clear A40
    by_cases c5 : t318 = true
    · subst c5
      have H1 : (if (l0_1.length : Int) > 60 then (modillionlaw09_SeqLabels.j0 k true a0_0 l0_1) else (modillionlaw09_SeqLabels.j0 k (decide (a0_0 > 12)) a0_0 l0_1)) = some r := by rw [if_pos rfl] at H; exact H
      clear H
      have H := H1
      clear H1
      by_cases c6 : (l0_1.length : Int) > 60
      · rw [if_pos c6] at H
        have c6b0 : decide (60 < (l0_1.length : Int)) = true := decide_eq_true c6
        have c6b1 : decide (60 < l0_1.length) = true := decide_eq_true (by omega)
        clear c6
        (first | rw [c6b0] | (simp only [i64_w, i32_w]; rw [c6b0]) | skip)
        have H' := Aside0.mk H
        clear H
        go_wp2_with (first | (go_at_call 11; (with_reducible refine (modillionlaw09_awake.calls k  true _ A4.out).mono ?_); rintro e w7 ⟨rfl, hb⟩; have n0_ := Aside0.mk (blk_below (g := gb317) (o := .cells #[.int .i64 a0_0, .slice A0_1 l0_1.length c0_1] 24 (0, 0)) (by (with_reducible repeat (first | refine blk_drewN ?_ _ | refine blk_drew ?_ | refine blk_alloc ?_ _)); exact BK317.out) hb); have n1_ := Aside0.mk (below_step (by repeat (first | (with_reducible first | exact HB.out | apply below_alloc | apply pw_below_drewN | apply below_drew1 | refine below_set ?_ GE317.out) | exact HB.out)) hb); clear BK317; clear HB; have BK317 := n0_; have HB := n1_; clear n0_ n1_; (try clear hb); (try clear hb2); (try clear hk); (try clear hi); have hcz8_0 : w7.cell? ⟨gb317, 0, none⟩ = some (.int .i64 a0_0) := (blk_cell BK317.out 0).trans rfl; have hcz8_1 : w7.cell? ⟨gb317, 1, none⟩ = some (.slice A0_1 l0_1.length c0_1) := (blk_cell BK317.out 1).trans rfl; have hfz8_0 := blk_frozen BK317.out 0; have hfz8_1 := blk_frozen BK317.out 1))
        repeat (go_quiet (first | (go_at_call 11; (with_reducible refine (modillionlaw09_awake.calls k  true _ A4.out).mono ?_); rintro e w7 ⟨rfl, hb⟩; have n0_ := Aside0.mk (blk_below (g := gb317) (o := .cells #[.int .i64 a0_0, .slice A0_1 l0_1.length c0_1] 24 (0, 0)) (by (with_reducible repeat (first | refine blk_drewN ?_ _ | refine blk_drew ?_ | refine blk_alloc ?_ _)); exact BK317.out) hb); have n1_ := Aside0.mk (below_step (by repeat (first | (with_reducible first | exact HB.out | apply below_alloc | apply pw_below_drewN | apply below_drew1 | refine below_set ?_ GE317.out) | exact HB.out)) hb); clear BK317; clear HB; have BK317 := n0_; have HB := n1_; clear n0_ n1_; (try clear hb); (try clear hb2); (try clear hk); (try clear hi); have hcz8_0 : w7.cell? ⟨gb317, 0, none⟩ = some (.int .i64 a0_0) := (blk_cell BK317.out 0).trans rfl; have hcz8_1 : w7.cell? ⟨gb317, 1, none⟩ = some (.slice A0_1 l0_1.length c0_1) := (blk_cell BK317.out 1).trans rfl; have hfz8_0 := blk_frozen BK317.out 0; have hfz8_1 := blk_frozen BK317.out 1)); try go_wp2_with (first | (go_at_call 11; (with_reducible refine (modillionlaw09_awake.calls k  true _ A4.out).mono ?_); rintro e w7 ⟨rfl, hb⟩; have n0_ := Aside0.mk (blk_below (g := gb317) (o := .cells #[.int .i64 a0_0, .slice A0_1 l0_1.length c0_1] 24 (0, 0)) (by (with_reducible repeat (first | refine blk_drewN ?_ _ | refine blk_drew ?_ | refine blk_alloc ?_ _)); exact BK317.out) hb); have n1_ := Aside0.mk (below_step (by repeat (first | (with_reducible first | exact HB.out | apply below_alloc | apply pw_below_drewN | apply below_drew1 | refine below_set ?_ GE317.out) | exact HB.out)) hb); clear BK317; clear HB; have BK317 := n0_; have HB := n1_; clear n0_ n1_; (try clear hb); (try clear hb2); (try clear hk); (try clear hi); have hcz8_0 : w7.cell? ⟨gb317, 0, none⟩ = some (.int .i64 a0_0) := (blk_cell BK317.out 0).trans rfl; have hcz8_1 : w7.cell? ⟨gb317, 1, none⟩ = some (.slice A0_1 l0_1.length c0_1) := (blk_cell BK317.out 1).trans rfl; have hfz8_0 := blk_frozen BK317.out 0; have hfz8_1 := blk_frozen BK317.out 1)))
        go_meet
        case rel => exact ⟨_, (true), (by first | rfl | (simp; done) | (simp [*]; done)), H', ⟨by first | omega | exact Nat.le_refl _⟩, ⟨by (with_reducible repeat (first | refine blk_drewN ?_ _ | refine blk_drew ?_ | refine blk_alloc ?_ _)); exact BK317.out⟩, ⟨by repeat (first | (with_reducible first | exact HB.out | apply below_alloc | apply pw_below_drewN | apply below_drew1 | refine below_set ?_ GE317.out) | exact HB.out)⟩⟩
      · rw [if_neg c6] at H
        have c6b0 : decide (60 < (l0_1.length : Int)) = false := decide_eq_false c6
        have c6b1 : decide (60 < l0_1.length) = false := decide_eq_false (by omega)
        clear c6
        (first | rw [c6b0] | (simp only [i64_w, i32_w]; rw [c6b0]) | skip)
        have H' := Aside0.mk H
        clear H
        go_wp2_with (first | (go_at_call 11; (with_reducible refine (modillionlaw09_awake.calls k  true _ A4.out).mono ?_); rintro e w9 ⟨rfl, hb⟩; have n0_ := Aside0.mk (blk_below (g := gb317) (o := .cells #[.int .i64 a0_0, .slice A0_1 l0_1.length c0_1] 24 (0, 0)) (by (with_reducible repeat (first | refine blk_drewN ?_ _ | refine blk_drew ?_ | refine blk_alloc ?_ _)); exact BK317.out) hb); have n1_ := Aside0.mk (below_step (by repeat (first | (with_reducible first | exact HB.out | apply below_alloc | apply pw_below_drewN | apply below_drew1 | refine below_set ?_ GE317.out) | exact HB.out)) hb); clear BK317; clear HB; have BK317 := n0_; have HB := n1_; clear n0_ n1_; (try clear hb); (try clear hb2); (try clear hk); (try clear hi); have hcz10_0 : w9.cell? ⟨gb317, 0, none⟩ = some (.int .i64 a0_0) := (blk_cell BK317.out 0).trans rfl; have hcz10_1 : w9.cell? ⟨gb317, 1, none⟩ = some (.slice A0_1 l0_1.length c0_1) := (blk_cell BK317.out 1).trans rfl; have hfz10_0 := blk_frozen BK317.out 0; have hfz10_1 := blk_frozen BK317.out 1))
        repeat (go_quiet (first | (go_at_call 11; (with_reducible refine (modillionlaw09_awake.calls k  true _ A4.out).mono ?_); rintro e w9 ⟨rfl, hb⟩; have n0_ := Aside0.mk (blk_below (g := gb317) (o := .cells #[.int .i64 a0_0, .slice A0_1 l0_1.length c0_1] 24 (0, 0)) (by (with_reducible repeat (first | refine blk_drewN ?_ _ | refine blk_drew ?_ | refine blk_alloc ?_ _)); exact BK317.out) hb); have n1_ := Aside0.mk (below_step (by repeat (first | (with_reducible first | exact HB.out | apply below_alloc | apply pw_below_drewN | apply below_drew1 | refine below_set ?_ GE317.out) | exact HB.out)) hb); clear BK317; clear HB; have BK317 := n0_; have HB := n1_; clear n0_ n1_; (try clear hb); (try clear hb2); (try clear hk); (try clear hi); have hcz10_0 : w9.cell? ⟨gb317, 0, none⟩ = some (.int .i64 a0_0) := (blk_cell BK317.out 0).trans rfl; have hcz10_1 : w9.cell? ⟨gb317, 1, none⟩ = some (.slice A0_1 l0_1.length c0_1) := (blk_cell BK317.out 1).trans rfl; have hfz10_0 := blk_frozen BK317.out 0; have hfz10_1 := blk_frozen BK317.out 1)); try go_wp2_with (first | (go_at_call 11; (with_reducible refine (modillionlaw09_awake.calls k  true _ A4.out).mono ?_); rintro e w9 ⟨rfl, hb⟩; have n0_ := Aside0.mk (blk_below (g := gb317) (o := .cells #[.int .i64 a0_0, .slice A0_1 l0_1.length c0_1] 24 (0, 0)) (by (with_reducible repeat (first | refine blk_drewN ?_ _ | refine blk_drew ?_ | refine blk_alloc ?_ _)); exact BK317.out) hb); have n1_ := Aside0.mk (below_step (by repeat (first | (with_reducible first | exact HB.out | apply below_alloc | apply pw_below_drewN | apply below_drew1 | refine below_set ?_ GE317.out) | exact HB.out)) hb); clear BK317; clear HB; have BK317 := n0_; have HB := n1_; clear n0_ n1_; (try clear hb); (try clear hb2); (try clear hk); (try clear hi); have hcz10_0 : w9.cell? ⟨gb317, 0, none⟩ = some (.int .i64 a0_0) := (blk_cell BK317.out 0).trans rfl; have hcz10_1 : w9.cell? ⟨gb317, 1, none⟩ = some (.slice A0_1 l0_1.length c0_1) := (blk_cell BK317.out 1).trans rfl; have hfz10_0 := blk_frozen BK317.out 0; have hfz10_1 := blk_frozen BK317.out 1)))
        go_meet
        case rel => exact ⟨_, (decide (a0_0 > 12)), (by first | rfl | (simp; done) | (simp [*]; done)), H', ⟨by first | omega | exact Nat.le_refl _⟩, ⟨by (with_reducible repeat (first | refine blk_drewN ?_ _ | refine blk_drew ?_ | refine blk_alloc ?_ _)); exact BK317.out⟩, ⟨by repeat (first | (with_reducible first | exact HB.out | apply below_alloc | apply pw_below_drewN | apply below_drew1 | refine below_set ?_ GE317.out) | exact HB.out)⟩⟩
    · replace c5 := Bool.eq_false_iff.mpr c5
      subst c5
      have H1 : (modillionlaw09_SeqLabels.j0 k true a0_0 l0_1) = some r := by rw [if_neg (show ¬ (false = true) by decide)] at H; exact H
      clear H
      have H := H1
      clear H1
      have H' := Aside0.mk H
      clear H
      go_wp2_with (first | (go_at_call 11; (with_reducible refine (modillionlaw09_awake.calls k  false _ A4.out).mono ?_); rintro e w11 ⟨rfl, hb⟩; have n0_ := Aside0.mk (blk_below (g := gb317) (o := .cells #[.int .i64 a0_0, .slice A0_1 l0_1.length c0_1] 24 (0, 0)) (by (with_reducible repeat (first | refine blk_drewN ?_ _ | refine blk_drew ?_ | refine blk_alloc ?_ _)); exact BK317.out) hb); have n1_ := Aside0.mk (below_step (by repeat (first | (with_reducible first | exact HB.out | apply below_alloc | apply pw_below_drewN | apply below_drew1 | refine below_set ?_ GE317.out) | exact HB.out)) hb); clear BK317; clear HB; have BK317 := n0_; have HB := n1_; clear n0_ n1_; (try clear hb); (try clear hb2); (try clear hk); (try clear hi)))
      repeat (go_quiet (first | (go_at_call 11; (with_reducible refine (modillionlaw09_awake.calls k  false _ A4.out).mono ?_); rintro e w11 ⟨rfl, hb⟩; have n0_ := Aside0.mk (blk_below (g := gb317) (o := .cells #[.int .i64 a0_0, .slice A0_1 l0_1.length c0_1] 24 (0, 0)) (by (with_reducible repeat (first | refine blk_drewN ?_ _ | refine blk_drew ?_ | refine blk_alloc ?_ _)); exact BK317.out) hb); have n1_ := Aside0.mk (below_step (by repeat (first | (with_reducible first | exact HB.out | apply below_alloc | apply pw_below_drewN | apply below_drew1 | refine below_set ?_ GE317.out) | exact HB.out)) hb); clear BK317; clear HB; have BK317 := n0_; have HB := n1_; clear n0_ n1_; (try clear hb); (try clear hb2); (try clear hk); (try clear hi))); try go_wp2_with (first | (go_at_call 11; (with_reducible refine (modillionlaw09_awake.calls k  false _ A4.out).mono ?_); rintro e w11 ⟨rfl, hb⟩; have n0_ := Aside0.mk (blk_below (g := gb317) (o := .cells #[.int .i64 a0_0, .slice A0_1 l0_1.length c0_1] 24 (0, 0)) (by (with_reducible repeat (first | refine blk_drewN ?_ _ | refine blk_drew ?_ | refine blk_alloc ?_ _)); exact BK317.out) hb); have n1_ := Aside0.mk (below_step (by repeat (first | (with_reducible first | exact HB.out | apply below_alloc | apply pw_below_drewN | apply below_drew1 | refine below_set ?_ GE317.out) | exact HB.out)) hb); clear BK317; clear HB; have BK317 := n0_; have HB := n1_; clear n0_ n1_; (try clear hb); (try clear hb2); (try clear hk); (try clear hi))))
      go_meet
      case rel => exact ⟨_, (true), (by first | rfl | (simp; done) | (simp [*]; done)), H', ⟨by first | omega | exact Nat.le_refl _⟩, ⟨by (with_reducible repeat (first | refine blk_drewN ?_ _ | refine blk_drew ?_ | refine blk_alloc ?_ _)); exact BK317.out⟩, ⟨by repeat (first | (with_reducible first | exact HB.out | apply below_alloc | apply pw_below_drewN | apply below_drew1 | refine below_set ?_ GE317.out) | exact HB.out)⟩⟩
  case rest =>
    clear HC2
    try clear p2
    try clear c5
    try clear c6
    try clear c6b0
    try clear c6b1
    try clear c8
    try clear hcz10_0
    try clear hcz10_1
    try clear hcz8_0
    try clear hcz8_1
    try clear hfz10_0
    try clear hfz10_1
    try clear hfz8_0
    try clear hfz8_1
    obtain ⟨kq, x22_1, rfl, HA, HJ1, BK317, HB⟩ := hcut
    cases kq with
    | zero => exact absurd HA.out (by simp [modillionlaw09_SeqLabels.j0])
    | succ kj1 =>
      have H := HA.out
      clear HA
      simp only [modillionlaw09_SeqLabels.j0] at H
      by_cases c12 : x22_1 = true
      · subst c12
        have H1 : ((modillionlaw09_awake.f kj1).bind fun t319 => (some t319)) = some r := by rw [if_pos rfl] at H; exact H
        clear H
        have H := H1
        clear H1
        replace H := Option.bind_eq_some_iff.mp H
        obtain ⟨t319, A130, H⟩ := H
        replace H : (some t319) = some r := H
        have A13 := Aside0.mk A130
        clear A130
        obtain rfl := Option.some.inj H
        go_wp2_with (first | (go_at_call 11; (with_reducible refine (modillionlaw09_awake.calls kj1  t319 _ A13.out).mono ?_); rintro e w14 ⟨rfl, hb⟩; have n0_ := Aside0.mk (blk_below (g := gb317) (o := .cells #[.int .i64 a0_0, .slice A0_1 l0_1.length c0_1] 24 (0, 0)) (by (with_reducible repeat (first | refine blk_drewN ?_ _ | refine blk_drew ?_ | refine blk_alloc ?_ _)); exact BK317.out) hb); have n1_ := Aside0.mk (below_step (by repeat (first | (with_reducible first | exact HB.out | apply below_alloc | apply pw_below_drewN | apply below_drew1 | refine below_set ?_ GE317.out) | exact HB.out)) hb); clear BK317; clear HB; have BK317 := n0_; have HB := n1_; clear n0_ n1_; (try clear hb); (try clear hb2); (try clear hk); (try clear hi)))
        repeat (go_quiet (first | (go_at_call 11; (with_reducible refine (modillionlaw09_awake.calls kj1  t319 _ A13.out).mono ?_); rintro e w14 ⟨rfl, hb⟩; have n0_ := Aside0.mk (blk_below (g := gb317) (o := .cells #[.int .i64 a0_0, .slice A0_1 l0_1.length c0_1] 24 (0, 0)) (by (with_reducible repeat (first | refine blk_drewN ?_ _ | refine blk_drew ?_ | refine blk_alloc ?_ _)); exact BK317.out) hb); have n1_ := Aside0.mk (below_step (by repeat (first | (with_reducible first | exact HB.out | apply below_alloc | apply pw_below_drewN | apply below_drew1 | refine below_set ?_ GE317.out) | exact HB.out)) hb); clear BK317; clear HB; have BK317 := n0_; have HB := n1_; clear n0_ n1_; (try clear hb); (try clear hb2); (try clear hk); (try clear hi))); try go_wp2_with (first | (go_at_call 11; (with_reducible refine (modillionlaw09_awake.calls kj1  t319 _ A13.out).mono ?_); rintro e w14 ⟨rfl, hb⟩; have n0_ := Aside0.mk (blk_below (g := gb317) (o := .cells #[.int .i64 a0_0, .slice A0_1 l0_1.length c0_1] 24 (0, 0)) (by (with_reducible repeat (first | refine blk_drewN ?_ _ | refine blk_drew ?_ | refine blk_alloc ?_ _)); exact BK317.out) hb); have n1_ := Aside0.mk (below_step (by repeat (first | (with_reducible first | exact HB.out | apply below_alloc | apply pw_below_drewN | apply below_drew1 | refine below_set ?_ GE317.out) | exact HB.out)) hb); clear BK317; clear HB; have BK317 := n0_; have HB := n1_; clear n0_ n1_; (try clear hb); (try clear hb2); (try clear hk); (try clear hi))))
        go_ret
        exact ⟨by first | rfl | (simp [errW_none, errW_some] <;> rfl) | (simp [*, errW_none, errW_some] <;> rfl), by repeat (first | (with_reducible first | exact HB.out | apply below_alloc | apply pw_below_drewN | apply below_drew1 | refine below_set ?_ GE317.out) | exact HB.out)⟩
      · replace c12 := Bool.eq_false_iff.mpr c12
        subst c12
        have H1 : ((modillionlaw09_Own.f a0_0 l0_1).bind fun bt320 => ((seq_Run.f kj1 bt320.1 bt320.2 (⟨#[108, 97, 98, 101, 108]⟩ : ByteArray) 0 20).bind fun bt324 => (if bt324.2.2 = 0 then (modillionlaw09_SeqLabels.l0 kj1 bt324.1 0 a0_0 l0_1) else (some ((bt324.1.length : Int) == 0))))) = some r := by rw [if_neg (show ¬ (false = true) by decide)] at H; exact H
        clear H
        have H := H1
        clear H1
        replace H := Option.bind_eq_some_iff.mp H
        obtain ⟨⟨t320, t321⟩, A150, H⟩ := H
        replace H : ((seq_Run.f kj1 t320 t321 (⟨#[108, 97, 98, 101, 108]⟩ : ByteArray) 0 20).bind fun bt324 => (if bt324.2.2 = 0 then (modillionlaw09_SeqLabels.l0 kj1 bt324.1 0 a0_0 l0_1) else (some ((bt324.1.length : Int) == 0)))) = some r := H
        have A15 := Aside0.mk A150
        clear A150
        replace H := Option.bind_eq_some_iff.mp H
        obtain ⟨⟨t324, t327, t328⟩, A160, H⟩ := H
        replace H : (if t328 = 0 then (modillionlaw09_SeqLabels.l0 kj1 t324 0 a0_0 l0_1) else (some ((t324.length : Int) == 0))) = some r := H
        have A16 := Aside0.mk A160
        clear A160
        by_cases c17 : t328 = 0
        · rw [if_pos c17] at H
          have c17b0 : (t328 == 0) = true := beq_iff_eq.mpr c17
          have c17b1 : (t328 != 0) = false := bne_eq_false_iff_eq.mpr c17
          clear c17
          have H' := Aside0.mk H
          clear H
          have hcz18_0 : wc.cell? ⟨gb317, 0, none⟩ = some (.int .i64 a0_0) := (blk_cell BK317.out 0).trans rfl
          have hcz18_1 : wc.cell? ⟨gb317, 1, none⟩ = some (.slice A0_1 l0_1.length c0_1) := (blk_cell BK317.out 1).trans rfl
          have hfz18_0 := blk_frozen BK317.out 0
          have hfz18_1 := blk_frozen BK317.out 1
          go_wp2_with (first | (go_at_call 13; (with_reducible refine (modillionlaw09_Own.calls a0_0 _ _ l0_1 t320 t321 _ ?side1 ?side2 A15.out).mono ?_); (case side1 => repeat (first | exact (Kd.C_below HR0_1.out HB.out) | (with_reducible refine Kd.C_alloc ?_ _) | (with_reducible refine Kd.C_drewN ?_ _) | (with_reducible refine Kd.C_drew ?_))); (case side2 => exact HC0_1.out); rintro e w19 ⟨v322, rfl, ho0, hb⟩; have n0_ := Aside0.mk (Kd.R_lower ho0 (below_size (by repeat (first | (with_reducible first | exact HB.out | apply below_alloc | apply pw_below_drewN | apply below_drew1 | refine below_set ?_ GE317.out) | exact HB.out)))); have n1_ := Aside0.mk (blk_below (g := gb317) (o := .cells #[.int .i64 a0_0, .slice A0_1 l0_1.length c0_1] 24 (0, 0)) (by (with_reducible repeat (first | refine blk_drewN ?_ _ | refine blk_drew ?_ | refine blk_alloc ?_ _)); exact BK317.out) hb); have n2_ := Aside0.mk (below_step (by repeat (first | (with_reducible first | exact HB.out | apply below_alloc | apply pw_below_drewN | apply below_drew1 | refine below_set ?_ GE317.out) | exact HB.out)) hb); clear BK317; clear HB; have HO323 := n0_; have BK317 := n1_; have HB := n2_; clear n0_ n1_ n2_; (try clear hb); (try clear hb2); (try clear hk); (try clear hi); (try clear ho0); obtain ⟨Ao20, co20, eo20⟩ := Kd.R_slice HO323.out; subst eo20) | (go_at_call 14; (with_reducible refine (seq_Run.calls kj1 t320 _ _ t321 (⟨#[108, 97, 98, 101, 108]⟩ : ByteArray) 0 20 t324 t327 t328 _ ?side1 ?side2 A16.out).mono ?_); (case side1 => repeat (first | exact (Kd.R_reads' HO323.out).2.2 | (with_reducible refine Kd.C_alloc ?_ _) | (with_reducible refine Kd.C_drewN ?_ _) | (with_reducible refine Kd.C_drew ?_))); (case side2 => exact (Kd.R_reads' HO323.out).2.1); rintro e w21 ⟨v325, rfl, ho0, hb⟩; have n0_ := Aside0.mk (Kd.R_below (by (with_reducible repeat (first | apply Kd.R_alloc | apply Kd.R_drewN | apply Kd.R_drew)); exact HO323.out) hb); have n1_ := Aside0.mk (Kd.R_lower ho0 (below_size (by repeat (first | (with_reducible first | exact HB.out | apply below_alloc | apply pw_below_drewN | apply below_drew1 | refine below_set ?_ GE317.out) | exact HB.out)))); have n2_ := Aside0.mk (blk_below (g := gb317) (o := .cells #[.int .i64 a0_0, .slice A0_1 l0_1.length c0_1] 24 (0, 0)) (by (with_reducible repeat (first | refine blk_drewN ?_ _ | refine blk_drew ?_ | refine blk_alloc ?_ _)); exact BK317.out) hb); have n3_ := Aside0.mk (below_step (by repeat (first | (with_reducible first | exact HB.out | apply below_alloc | apply pw_below_drewN | apply below_drew1 | refine below_set ?_ GE317.out) | exact HB.out)) hb); clear HO323; clear BK317; clear HB; have HO323 := n0_; have HO326 := n1_; have BK317 := n2_; have HB := n3_; clear n0_ n1_ n2_ n3_; (try clear hb); (try clear hb2); (try clear hk); (try clear hi); (try clear ho0)))
          repeat (go_quiet (first | (go_at_call 13; (with_reducible refine (modillionlaw09_Own.calls a0_0 _ _ l0_1 t320 t321 _ ?side1 ?side2 A15.out).mono ?_); (case side1 => repeat (first | exact (Kd.C_below HR0_1.out HB.out) | (with_reducible refine Kd.C_alloc ?_ _) | (with_reducible refine Kd.C_drewN ?_ _) | (with_reducible refine Kd.C_drew ?_))); (case side2 => exact HC0_1.out); rintro e w19 ⟨v322, rfl, ho0, hb⟩; have n0_ := Aside0.mk (Kd.R_lower ho0 (below_size (by repeat (first | (with_reducible first | exact HB.out | apply below_alloc | apply pw_below_drewN | apply below_drew1 | refine below_set ?_ GE317.out) | exact HB.out)))); have n1_ := Aside0.mk (blk_below (g := gb317) (o := .cells #[.int .i64 a0_0, .slice A0_1 l0_1.length c0_1] 24 (0, 0)) (by (with_reducible repeat (first | refine blk_drewN ?_ _ | refine blk_drew ?_ | refine blk_alloc ?_ _)); exact BK317.out) hb); have n2_ := Aside0.mk (below_step (by repeat (first | (with_reducible first | exact HB.out | apply below_alloc | apply pw_below_drewN | apply below_drew1 | refine below_set ?_ GE317.out) | exact HB.out)) hb); clear BK317; clear HB; have HO323 := n0_; have BK317 := n1_; have HB := n2_; clear n0_ n1_ n2_; (try clear hb); (try clear hb2); (try clear hk); (try clear hi); (try clear ho0); obtain ⟨Ao20, co20, eo20⟩ := Kd.R_slice HO323.out; subst eo20) | (go_at_call 14; (with_reducible refine (seq_Run.calls kj1 t320 _ _ t321 (⟨#[108, 97, 98, 101, 108]⟩ : ByteArray) 0 20 t324 t327 t328 _ ?side1 ?side2 A16.out).mono ?_); (case side1 => repeat (first | exact (Kd.R_reads' HO323.out).2.2 | (with_reducible refine Kd.C_alloc ?_ _) | (with_reducible refine Kd.C_drewN ?_ _) | (with_reducible refine Kd.C_drew ?_))); (case side2 => exact (Kd.R_reads' HO323.out).2.1); rintro e w21 ⟨v325, rfl, ho0, hb⟩; have n0_ := Aside0.mk (Kd.R_below (by (with_reducible repeat (first | apply Kd.R_alloc | apply Kd.R_drewN | apply Kd.R_drew)); exact HO323.out) hb); have n1_ := Aside0.mk (Kd.R_lower ho0 (below_size (by repeat (first | (with_reducible first | exact HB.out | apply below_alloc | apply pw_below_drewN | apply below_drew1 | refine below_set ?_ GE317.out) | exact HB.out)))); have n2_ := Aside0.mk (blk_below (g := gb317) (o := .cells #[.int .i64 a0_0, .slice A0_1 l0_1.length c0_1] 24 (0, 0)) (by (with_reducible repeat (first | refine blk_drewN ?_ _ | refine blk_drew ?_ | refine blk_alloc ?_ _)); exact BK317.out) hb); have n3_ := Aside0.mk (below_step (by repeat (first | (with_reducible first | exact HB.out | apply below_alloc | apply pw_below_drewN | apply below_drew1 | refine below_set ?_ GE317.out) | exact HB.out)) hb); clear HO323; clear BK317; clear HB; have HO323 := n0_; have HO326 := n1_; have BK317 := n2_; have HB := n3_; clear n0_ n1_ n2_ n3_; (try clear hb); (try clear hb2); (try clear hk); (try clear hi); (try clear ho0))); try go_wp2_with (first | (go_at_call 13; (with_reducible refine (modillionlaw09_Own.calls a0_0 _ _ l0_1 t320 t321 _ ?side1 ?side2 A15.out).mono ?_); (case side1 => repeat (first | exact (Kd.C_below HR0_1.out HB.out) | (with_reducible refine Kd.C_alloc ?_ _) | (with_reducible refine Kd.C_drewN ?_ _) | (with_reducible refine Kd.C_drew ?_))); (case side2 => exact HC0_1.out); rintro e w19 ⟨v322, rfl, ho0, hb⟩; have n0_ := Aside0.mk (Kd.R_lower ho0 (below_size (by repeat (first | (with_reducible first | exact HB.out | apply below_alloc | apply pw_below_drewN | apply below_drew1 | refine below_set ?_ GE317.out) | exact HB.out)))); have n1_ := Aside0.mk (blk_below (g := gb317) (o := .cells #[.int .i64 a0_0, .slice A0_1 l0_1.length c0_1] 24 (0, 0)) (by (with_reducible repeat (first | refine blk_drewN ?_ _ | refine blk_drew ?_ | refine blk_alloc ?_ _)); exact BK317.out) hb); have n2_ := Aside0.mk (below_step (by repeat (first | (with_reducible first | exact HB.out | apply below_alloc | apply pw_below_drewN | apply below_drew1 | refine below_set ?_ GE317.out) | exact HB.out)) hb); clear BK317; clear HB; have HO323 := n0_; have BK317 := n1_; have HB := n2_; clear n0_ n1_ n2_; (try clear hb); (try clear hb2); (try clear hk); (try clear hi); (try clear ho0); obtain ⟨Ao20, co20, eo20⟩ := Kd.R_slice HO323.out; subst eo20) | (go_at_call 14; (with_reducible refine (seq_Run.calls kj1 t320 _ _ t321 (⟨#[108, 97, 98, 101, 108]⟩ : ByteArray) 0 20 t324 t327 t328 _ ?side1 ?side2 A16.out).mono ?_); (case side1 => repeat (first | exact (Kd.R_reads' HO323.out).2.2 | (with_reducible refine Kd.C_alloc ?_ _) | (with_reducible refine Kd.C_drewN ?_ _) | (with_reducible refine Kd.C_drew ?_))); (case side2 => exact (Kd.R_reads' HO323.out).2.1); rintro e w21 ⟨v325, rfl, ho0, hb⟩; have n0_ := Aside0.mk (Kd.R_below (by (with_reducible repeat (first | apply Kd.R_alloc | apply Kd.R_drewN | apply Kd.R_drew)); exact HO323.out) hb); have n1_ := Aside0.mk (Kd.R_lower ho0 (below_size (by repeat (first | (with_reducible first | exact HB.out | apply below_alloc | apply pw_below_drewN | apply below_drew1 | refine below_set ?_ GE317.out) | exact HB.out)))); have n2_ := Aside0.mk (blk_below (g := gb317) (o := .cells #[.int .i64 a0_0, .slice A0_1 l0_1.length c0_1] 24 (0, 0)) (by (with_reducible repeat (first | refine blk_drewN ?_ _ | refine blk_drew ?_ | refine blk_alloc ?_ _)); exact BK317.out) hb); have n3_ := Aside0.mk (below_step (by repeat (first | (with_reducible first | exact HB.out | apply below_alloc | apply pw_below_drewN | apply below_drew1 | refine below_set ?_ GE317.out) | exact HB.out)) hb); clear HO323; clear BK317; clear HB; have HO323 := n0_; have HO326 := n1_; have BK317 := n2_; have HB := n3_; clear n0_ n1_ n2_ n3_; (try clear hb); (try clear hb2); (try clear hk); (try clear hi); (try clear ho0))))
          go_loopg [6] kj1 (fun kq v6 w' => ∃ (x6_2 : Int), v6 = .int .i64 x6_2 ∧ Aside0 (modillionlaw09_SeqLabels.l0 kq t324 x6_2 a0_0 l0_1 = some r) ∧ Aside0 (kq ≤ kj1) ∧ Aside0 (Kd.R (Kd.int .i64) 2 w' w.heap.size (fun _ => True) v325 t324) ∧ Aside0 (w'.heap[gb317]? = some (.cells #[.int .i64 a0_0, (.slice A0_1 l0_1.length c0_1)] 24 (0, 0))) ∧ Aside0 (Below w.heap.size w w'))
          case atStart => exact ⟨(0), (by first | rfl | (simp; done) | (simp [*]; done)), H', ⟨Nat.le_refl _⟩, ⟨by (with_reducible repeat (first | apply Kd.R_alloc | apply Kd.R_drewN | apply Kd.R_drew)); exact HO326.out⟩, ⟨by (with_reducible repeat (first | refine blk_drewN ?_ _ | refine blk_drew ?_ | refine blk_alloc ?_ _)); exact BK317.out⟩, ⟨by repeat (first | (with_reducible first | exact HB.out | apply below_alloc | apply pw_below_drewN | apply below_drew1 | refine below_set ?_ GE317.out) | exact HB.out)⟩⟩
          case round =>
            clear H'
            try clear c1
            try clear p2
            try clear c5
            try clear c6
            try clear c6b0
            try clear c6b1
            try clear c8
            try clear c12
            try clear c17
            try clear c17b0
            try clear c17b1
            try clear hcz10_0
            try clear hcz10_1
            try clear hcz18_0
            try clear hcz18_1
            try clear hcz8_0
            try clear hcz8_1
            try clear hfz10_0
            try clear hfz10_1
            try clear hfz18_0
            try clear hfz18_1
            try clear hfz8_0
            try clear hfz8_1
            try clear p2
            obtain ⟨x6_2, rfl, HA, HK2, HO_3, BK317, HB⟩ := hrel
            cases gk with
            | zero => exact absurd HA.out (by simp [modillionlaw09_SeqLabels.l0])
            | succ k2 =>
              have H := HA.out
              clear HA
              simp only [modillionlaw09_SeqLabels.l0] at H
              by_cases c22 : x6_2 < (l0_1.length : Int)
              · rw [if_pos c22] at H
                have c22b0 : decide (x6_2 < (l0_1.length : Int)) = true := decide_eq_true c22
                clear c22
                by_cases c23 : 0 ≤ x6_2
                · rw [if_pos c23] at H
                  have c23b0 : decide (0 ≤ x6_2) = true := decide_eq_true c23
                  clear c23
                  by_cases c24 : 0 ≤ ((rd_T45 l0_1 x6_2).f1)
                  · rw [if_pos c24] at H
                    have c24b0 : decide (0 ≤ ((rd_T45 l0_1 x6_2).f1)) = true := decide_eq_true c24
                    clear c24
                    by_cases c25 : ((rd_T45 l0_1 x6_2).f1) < (t324.length : Int)
                    · rw [if_pos c25] at H
                      have c25b0 : decide (((rd_T45 l0_1 x6_2).f1) < (t324.length : Int)) = true := decide_eq_true c25
                      clear c25
                      by_cases c26 : 0 ≤ ((rd_T45 l0_1 x6_2).f0)
                      · rw [if_pos c26] at H
                        have c26b0 : decide (0 ≤ ((rd_T45 l0_1 x6_2).f0)) = true := decide_eq_true c26
                        clear c26
                        by_cases c27 : ((rd_T45 l0_1 x6_2).f0) < (t324.length : Int)
                        · rw [if_pos c27] at H
                          have c27b0 : decide (((rd_T45 l0_1 x6_2).f0) < (t324.length : Int)) = true := decide_eq_true c27
                          clear c27
                          by_cases c28 : (rd t324 ((rd_T45 l0_1 x6_2).f1)) > (rd t324 ((rd_T45 l0_1 x6_2).f0))
                          · rw [if_pos c28] at H
                            have c28b0 : decide ((rd t324 ((rd_T45 l0_1 x6_2).f0)) < (rd t324 ((rd_T45 l0_1 x6_2).f1))) = true := decide_eq_true c28
                            clear c28
                            obtain rfl := Option.some.inj H
                            have hcz29_0 : wr.cell? ⟨gb317, 0, none⟩ = some (.int .i64 a0_0) := (blk_cell BK317.out 0).trans rfl
                            have hcz29_1 : wr.cell? ⟨gb317, 1, none⟩ = some (.slice A0_1 l0_1.length c0_1) := (blk_cell BK317.out 1).trans rfl
                            have hfz29_0 := blk_frozen BK317.out 0
                            have hfz29_1 := blk_frozen BK317.out 1
                            have p329 : 0 ≤ (x6_2 : Int) := of_decide_eq_true (by first | (with_reducible assumption) | assumption)
                            have q329 : x6_2 < (l0_1.length : Int) := of_decide_eq_true (by first | (with_reducible assumption) | assumption)
                            obtain ⟨ad329, e329, hx329_0, hx329_1, hx329_2⟩ := at_T45 HR0_1.out x6_2 p329 q329
                            cases e329
                            replace hx329_0 := (HB.out.cell (World.block_lt_of_cell? w _ hx329_0)).trans hx329_0
                            replace hx329_1 := (HB.out.cell (World.block_lt_of_cell? w _ hx329_1)).trans hx329_1
                            replace hx329_2 := (HB.out.cell (World.block_lt_of_cell? w _ hx329_2)).trans hx329_2
                            replace p329 := eq_true p329
                            replace q329 := eq_true q329
                            obtain ⟨Ao30, co30, eo30⟩ := Kd.R_slice HO_3.out
                            subst eo30
                            have p330 : 0 ≤ (((rd_T45 l0_1 x6_2).f1) : Int) := of_decide_eq_true (by first | (with_reducible assumption) | assumption)
                            have q330 : ((rd_T45 l0_1 x6_2).f1) < (t324.length : Int) := of_decide_eq_true (by first | (with_reducible assumption) | assumption)
                            obtain ⟨ad330, e330, hx330_0⟩ := Kd.at_int (Kd.R_reads' HO_3.out).2.2 ((rd_T45 l0_1 x6_2).f1) p330 q330
                            cases e330
                            replace p330 := eq_true p330
                            replace q330 := eq_true q330
                            have p331 : 0 ≤ (x6_2 : Int) := of_decide_eq_true (by first | (with_reducible assumption) | assumption)
                            have q331 : x6_2 < (l0_1.length : Int) := of_decide_eq_true (by first | (with_reducible assumption) | assumption)
                            obtain ⟨ad331, e331, hx331_0, hx331_1, hx331_2⟩ := at_T45 HR0_1.out x6_2 p331 q331
                            obtain rfl : ad329 = ad331 := (by injection e331)
                            replace hx331_0 := (HB.out.cell (World.block_lt_of_cell? w _ hx331_0)).trans hx331_0
                            replace hx331_1 := (HB.out.cell (World.block_lt_of_cell? w _ hx331_1)).trans hx331_1
                            replace hx331_2 := (HB.out.cell (World.block_lt_of_cell? w _ hx331_2)).trans hx331_2
                            replace p331 := eq_true p331
                            replace q331 := eq_true q331
                            have p332 : 0 ≤ (((rd_T45 l0_1 x6_2).f0) : Int) := of_decide_eq_true (by first | (with_reducible assumption) | assumption)
                            have q332 : ((rd_T45 l0_1 x6_2).f0) < (t324.length : Int) := of_decide_eq_true (by first | (with_reducible assumption) | assumption)
                            obtain ⟨ad332, e332, hx332_0⟩ := Kd.at_int (Kd.R_reads' HO_3.out).2.2 ((rd_T45 l0_1 x6_2).f0) p332 q332
                            obtain rfl : ad330 = ad332 := (by injection e332)
                            replace p332 := eq_true p332
                            replace q332 := eq_true q332
                            go_wp2
                            repeat (go_quiet (fail); try go_wp2)
                            go_ret
                            exact ⟨by first | rfl | (simp [errW_none, errW_some] <;> rfl) | (simp [*, errW_none, errW_some] <;> rfl), by repeat (first | (with_reducible first | exact HB.out | apply below_alloc | apply pw_below_drewN | apply below_drew1 | refine below_set ?_ GE317.out) | exact HB.out)⟩
                          · rw [if_neg c28] at H
                            have c28b0 : decide ((rd t324 ((rd_T45 l0_1 x6_2).f0)) < (rd t324 ((rd_T45 l0_1 x6_2).f1))) = false := decide_eq_false c28
                            clear c28
                            have H' := Aside0.mk H
                            clear H
                            have hcz31_0 : wr.cell? ⟨gb317, 0, none⟩ = some (.int .i64 a0_0) := (blk_cell BK317.out 0).trans rfl
                            have hcz31_1 : wr.cell? ⟨gb317, 1, none⟩ = some (.slice A0_1 l0_1.length c0_1) := (blk_cell BK317.out 1).trans rfl
                            have hfz31_0 := blk_frozen BK317.out 0
                            have hfz31_1 := blk_frozen BK317.out 1
                            have p329 : 0 ≤ (x6_2 : Int) := of_decide_eq_true (by first | (with_reducible assumption) | assumption)
                            have q329 : x6_2 < (l0_1.length : Int) := of_decide_eq_true (by first | (with_reducible assumption) | assumption)
                            obtain ⟨ad329, e329, hx329_0, hx329_1, hx329_2⟩ := at_T45 HR0_1.out x6_2 p329 q329
                            cases e329
                            replace hx329_0 := (HB.out.cell (World.block_lt_of_cell? w _ hx329_0)).trans hx329_0
                            replace hx329_1 := (HB.out.cell (World.block_lt_of_cell? w _ hx329_1)).trans hx329_1
                            replace hx329_2 := (HB.out.cell (World.block_lt_of_cell? w _ hx329_2)).trans hx329_2
                            replace p329 := eq_true p329
                            replace q329 := eq_true q329
                            obtain ⟨Ao32, co32, eo32⟩ := Kd.R_slice HO_3.out
                            subst eo32
                            have p330 : 0 ≤ (((rd_T45 l0_1 x6_2).f1) : Int) := of_decide_eq_true (by first | (with_reducible assumption) | assumption)
                            have q330 : ((rd_T45 l0_1 x6_2).f1) < (t324.length : Int) := of_decide_eq_true (by first | (with_reducible assumption) | assumption)
                            obtain ⟨ad330, e330, hx330_0⟩ := Kd.at_int (Kd.R_reads' HO_3.out).2.2 ((rd_T45 l0_1 x6_2).f1) p330 q330
                            cases e330
                            replace p330 := eq_true p330
                            replace q330 := eq_true q330
                            have p331 : 0 ≤ (x6_2 : Int) := of_decide_eq_true (by first | (with_reducible assumption) | assumption)
                            have q331 : x6_2 < (l0_1.length : Int) := of_decide_eq_true (by first | (with_reducible assumption) | assumption)
                            obtain ⟨ad331, e331, hx331_0, hx331_1, hx331_2⟩ := at_T45 HR0_1.out x6_2 p331 q331
                            obtain rfl : ad329 = ad331 := (by injection e331)
                            replace hx331_0 := (HB.out.cell (World.block_lt_of_cell? w _ hx331_0)).trans hx331_0
                            replace hx331_1 := (HB.out.cell (World.block_lt_of_cell? w _ hx331_1)).trans hx331_1
                            replace hx331_2 := (HB.out.cell (World.block_lt_of_cell? w _ hx331_2)).trans hx331_2
                            replace p331 := eq_true p331
                            replace q331 := eq_true q331
                            have p332 : 0 ≤ (((rd_T45 l0_1 x6_2).f0) : Int) := of_decide_eq_true (by first | (with_reducible assumption) | assumption)
                            have q332 : ((rd_T45 l0_1 x6_2).f0) < (t324.length : Int) := of_decide_eq_true (by first | (with_reducible assumption) | assumption)
                            obtain ⟨ad332, e332, hx332_0⟩ := Kd.at_int (Kd.R_reads' HO_3.out).2.2 ((rd_T45 l0_1 x6_2).f0) p332 q332
                            obtain rfl : ad330 = ad332 := (by injection e332)
                            replace p332 := eq_true p332
                            replace q332 := eq_true q332
                            go_wp2
                            repeat (go_quiet (fail); try go_wp2)
                            go_roundg k2
                            case measure => have := HJ1.out; have := HK2.out; omega
                            case rel => exact ⟨(wrap64 (x6_2 + 1)), (by first | rfl | (simp; done) | (simp [*]; done)), H', ⟨by have := HJ1.out; have := HK2.out; omega⟩, ⟨by (with_reducible repeat (first | apply Kd.R_alloc | apply Kd.R_drewN | apply Kd.R_drew)); exact HO_3.out⟩, ⟨by (with_reducible repeat (first | refine blk_drewN ?_ _ | refine blk_drew ?_ | refine blk_alloc ?_ _)); exact BK317.out⟩, ⟨by repeat (first | (with_reducible first | exact HB.out | apply below_alloc | apply pw_below_drewN | apply below_drew1 | refine below_set ?_ GE317.out) | exact HB.out)⟩⟩
                        · rw [if_neg c27] at H
                          exact absurd H (by simp)
                      · rw [if_neg c26] at H
                        exact absurd H (by simp)
                    · rw [if_neg c25] at H
                      exact absurd H (by simp)
                  · rw [if_neg c24] at H
                    exact absurd H (by simp)
                · rw [if_neg c23] at H
                  exact absurd H (by simp)
              · rw [if_neg c22] at H
                have c22b0 : decide (x6_2 < (l0_1.length : Int)) = false := decide_eq_false c22
                clear c22
                have H' := Aside0.mk H
                clear H
                have hcz33_0 : wr.cell? ⟨gb317, 0, none⟩ = some (.int .i64 a0_0) := (blk_cell BK317.out 0).trans rfl
                have hcz33_1 : wr.cell? ⟨gb317, 1, none⟩ = some (.slice A0_1 l0_1.length c0_1) := (blk_cell BK317.out 1).trans rfl
                have hfz33_0 := blk_frozen BK317.out 0
                have hfz33_1 := blk_frozen BK317.out 1
                go_wp2
                repeat (go_quiet (fail); try go_wp2)
                go_loopg [7] k2 (fun kq v7 w' => ∃ (x7_3 : Int), v7 = .int .i64 x7_3 ∧ Aside0 (modillionlaw09_SeqLabels.l1 kq t324 x7_3 a0_0 l0_1 = some r) ∧ Aside0 (kq ≤ k2) ∧ Aside0 (Kd.R (Kd.int .i64) 2 w' w.heap.size (fun _ => True) v325 t324) ∧ Aside0 (w'.heap[gb317]? = some (.cells #[.int .i64 a0_0, (.slice A0_1 l0_1.length c0_1)] 24 (0, 0))) ∧ Aside0 (Below w.heap.size w w'))
                case atStart => exact ⟨(0), (by first | rfl | (simp; done) | (simp [*]; done)), H', ⟨Nat.le_refl _⟩, ⟨by (with_reducible repeat (first | apply Kd.R_alloc | apply Kd.R_drewN | apply Kd.R_drew)); exact HO_3.out⟩, ⟨by (with_reducible repeat (first | refine blk_drewN ?_ _ | refine blk_drew ?_ | refine blk_alloc ?_ _)); exact BK317.out⟩, ⟨by repeat (first | (with_reducible first | exact HB.out | apply below_alloc | apply pw_below_drewN | apply below_drew1 | refine below_set ?_ GE317.out) | exact HB.out)⟩⟩
                case round =>
                  clear H'
                  try clear c1
                  try clear c2
                  try clear p2
                  try clear p3
                  try clear q3
                  try clear hx3
                  try clear c5
                  try clear c6
                  try clear c6b0
                  try clear c6b1
                  try clear p6
                  try clear c8
                  try clear c12
                  try clear c17
                  try clear c17b0
                  try clear c17b1
                  try clear c22
                  try clear c22b0
                  try clear c23
                  try clear c23b0
                  try clear c24
                  try clear c24b0
                  try clear c25
                  try clear c25b0
                  try clear c26
                  try clear c26b0
                  try clear c27
                  try clear c27b0
                  try clear c28
                  try clear c28b0
                  try clear p32
                  try clear q32
                  try clear hx32
                  try clear p33
                  try clear q33
                  try clear hx33
                  try clear hcz10_0
                  try clear hcz10_1
                  try clear hcz18_0
                  try clear hcz18_1
                  try clear hcz29_0
                  try clear hcz29_1
                  try clear hcz31_0
                  try clear hcz31_1
                  try clear hcz33_0
                  try clear hcz33_1
                  try clear hcz8_0
                  try clear hcz8_1
                  try clear hfz10_0
                  try clear hfz10_1
                  try clear hfz18_0
                  try clear hfz18_1
                  try clear hfz29_0
                  try clear hfz29_1
                  try clear hfz31_0
                  try clear hfz31_1
                  try clear hfz33_0
                  try clear hfz33_1
                  try clear hfz8_0
                  try clear hfz8_1
                  try clear hx329_0
                  try clear hx329_1
                  try clear hx329_2
                  try clear hx330_0
                  try clear hx331_0
                  try clear hx331_1
                  try clear hx331_2
                  try clear hx332_0
                  try clear p2
                  try clear p329
                  try clear p330
                  try clear p331
                  try clear p332
                  try clear q329
                  try clear q330
                  try clear q331
                  try clear q332
                  obtain ⟨x7_3, rfl, HA, HK3, HO_3, BK317, HB⟩ := hrel
                  cases gk with
                  | zero => exact absurd HA.out (by simp [modillionlaw09_SeqLabels.l1])
                  | succ k3 =>
                    have H := HA.out
                    clear HA
                    simp only [modillionlaw09_SeqLabels.l1] at H
                    by_cases c34 : x7_3 < (t324.length : Int)
                    · rw [if_pos c34] at H
                      have c34b0 : decide (x7_3 < (t324.length : Int)) = true := decide_eq_true c34
                      clear c34
                      by_cases c35 : 0 ≤ x7_3
                      · rw [if_pos c35] at H
                        have c35b0 : decide (0 ≤ x7_3) = true := decide_eq_true c35
                        clear c35
                        have H' := Aside0.mk H
                        clear H
                        obtain ⟨Ao36, co36, eo36⟩ := Kd.R_slice HO_3.out
                        subst eo36
                        have p333 : 0 ≤ (x7_3 : Int) := of_decide_eq_true (by first | (with_reducible assumption) | assumption)
                        have q333 : x7_3 < (t324.length : Int) := of_decide_eq_true (by first | (with_reducible assumption) | assumption)
                        obtain ⟨ad333, e333, hx333_0⟩ := Kd.at_int (Kd.R_reads' HO_3.out).2.2 x7_3 p333 q333
                        cases e333
                        replace p333 := eq_true p333
                        replace q333 := eq_true q333
                        go_wp2
                        repeat (go_quiet (fail); try go_wp2)
                        go_loopg [8, 9] k3 (fun kq v8 v9 w' => ∃ (x8_4 : Bool) (x9_4 : Int), v8 = .bool x8_4 ∧ v9 = .int .i64 x9_4 ∧ Aside0 (modillionlaw09_SeqLabels.l2 kq t324 x7_3 x8_4 x9_4 a0_0 l0_1 = some r) ∧ Aside0 (kq ≤ k3) ∧ Aside0 (Kd.R (Kd.int .i64) 2 w' w.heap.size (fun _ => True) (.slice (some ad333) t324.length co36) t324) ∧ Aside0 (w'.heap[gb317]? = some (.cells #[.int .i64 a0_0, (.slice A0_1 l0_1.length c0_1)] 24 (0, 0))) ∧ Aside0 (Below w.heap.size w w'))
                        case atStart => exact ⟨(((rd t324 x7_3) == x7_3)), (0), (by first | rfl | (simp; done) | (simp [*]; done)), (by first | rfl | (simp; done) | (simp [*]; done)), H', ⟨Nat.le_refl _⟩, ⟨by (with_reducible repeat (first | apply Kd.R_alloc | apply Kd.R_drewN | apply Kd.R_drew)); exact HO_3.out⟩, ⟨by (with_reducible repeat (first | refine blk_drewN ?_ _ | refine blk_drew ?_ | refine blk_alloc ?_ _)); exact BK317.out⟩, ⟨by repeat (first | (with_reducible first | exact HB.out | apply below_alloc | apply pw_below_drewN | apply below_drew1 | refine below_set ?_ GE317.out) | exact HB.out)⟩⟩
                        case round =>
                          clear H'
                          try clear c1
                          try clear c2
                          try clear p2
                          try clear c3
                          try clear p3
                          try clear q3
                          try clear hx3
                          try clear c5
                          try clear c6
                          try clear c6b0
                          try clear c6b1
                          try clear p6
                          try clear c8
                          try clear c12
                          try clear c17
                          try clear c17b0
                          try clear c17b1
                          try clear c22
                          try clear c22b0
                          try clear c23
                          try clear c23b0
                          try clear c24
                          try clear c24b0
                          try clear c25
                          try clear c25b0
                          try clear c26
                          try clear c26b0
                          try clear c27
                          try clear c27b0
                          try clear c28
                          try clear c28b0
                          try clear p32
                          try clear q32
                          try clear hx32
                          try clear p33
                          try clear q33
                          try clear hx33
                          try clear c34
                          try clear c34b0
                          try clear c35
                          try clear c35b0
                          try clear hcz10_0
                          try clear hcz10_1
                          try clear hcz18_0
                          try clear hcz18_1
                          try clear hcz29_0
                          try clear hcz29_1
                          try clear hcz31_0
                          try clear hcz31_1
                          try clear hcz33_0
                          try clear hcz33_1
                          try clear hcz8_0
                          try clear hcz8_1
                          try clear hfz10_0
                          try clear hfz10_1
                          try clear hfz18_0
                          try clear hfz18_1
                          try clear hfz29_0
                          try clear hfz29_1
                          try clear hfz31_0
                          try clear hfz31_1
                          try clear hfz33_0
                          try clear hfz33_1
                          try clear hfz8_0
                          try clear hfz8_1
                          try clear hx329_0
                          try clear hx329_1
                          try clear hx329_2
                          try clear hx330_0
                          try clear hx331_0
                          try clear hx331_1
                          try clear hx331_2
                          try clear hx332_0
                          try clear hx333_0
                          try clear p2
                          try clear p3
                          try clear p32
                          try clear p329
                          try clear p33
                          try clear p330
                          try clear p331
                          try clear p332
                          try clear p333
                          try clear p6
                          try clear q3
                          try clear q32
                          try clear q329
                          try clear q33
                          try clear q330
                          try clear q331
                          try clear q332
                          try clear q333
                          obtain ⟨x8_4, x9_4, rfl, rfl, HA, HK4, HO_3, BK317, HB⟩ := hrel
                          cases gk with
                          | zero => exact absurd HA.out (by simp [modillionlaw09_SeqLabels.l2])
                          | succ k4 =>
                            have H := HA.out
                            clear HA
                            simp only [modillionlaw09_SeqLabels.l2] at H
                            by_cases c37 : x9_4 < (l0_1.length : Int)
                            · rw [if_pos c37] at H
                              have c37b0 : decide (x9_4 < (l0_1.length : Int)) = true := decide_eq_true c37
                              clear c37
                              by_cases c38 : x8_4 = true
                              · subst c38
                                have H1 : (modillionlaw09_SeqLabels.l2 k4 t324 x7_3 true (wrap64 (x9_4 + 1)) a0_0 l0_1) = some r := by rw [if_pos rfl] at H; exact H
                                clear H
                                have H := H1
                                clear H1
                                have H' := Aside0.mk H
                                clear H
                                have hcz39_0 : wr.cell? ⟨gb317, 0, none⟩ = some (.int .i64 a0_0) := (blk_cell BK317.out 0).trans rfl
                                have hcz39_1 : wr.cell? ⟨gb317, 1, none⟩ = some (.slice A0_1 l0_1.length c0_1) := (blk_cell BK317.out 1).trans rfl
                                have hfz39_0 := blk_frozen BK317.out 0
                                have hfz39_1 := blk_frozen BK317.out 1
                                go_wp2
                                repeat (go_quiet (fail); try go_wp2)
                                go_roundg k4
                                case measure => have := HJ1.out; have := HK2.out; have := HK3.out; have := HK4.out; omega
                                case rel => exact ⟨(true), (wrap64 (x9_4 + 1)), (by first | rfl | (simp; done) | (simp [*]; done)), (by first | rfl | (simp; done) | (simp [*]; done)), H', ⟨by have := HJ1.out; have := HK2.out; have := HK3.out; have := HK4.out; omega⟩, ⟨by (with_reducible repeat (first | apply Kd.R_alloc | apply Kd.R_drewN | apply Kd.R_drew)); exact HO_3.out⟩, ⟨by (with_reducible repeat (first | refine blk_drewN ?_ _ | refine blk_drew ?_ | refine blk_alloc ?_ _)); exact BK317.out⟩, ⟨by repeat (first | (with_reducible first | exact HB.out | apply below_alloc | apply pw_below_drewN | apply below_drew1 | refine below_set ?_ GE317.out) | exact HB.out)⟩⟩
                              · replace c38 := Bool.eq_false_iff.mpr c38
                                subst c38
                                have H1 : (if 0 ≤ x9_4 then (if ((rd_T45 l0_1 x9_4).f1) = x7_3 then (if 0 ≤ ((rd_T45 l0_1 x9_4).f0) then (if ((rd_T45 l0_1 x9_4).f0) < (t324.length : Int) then (if 0 ≤ x7_3 then (if x7_3 < (t324.length : Int) then (modillionlaw09_SeqLabels.l2 k4 t324 x7_3 ((rd t324 ((rd_T45 l0_1 x9_4).f0)) == (rd t324 x7_3)) (wrap64 (x9_4 + 1)) a0_0 l0_1) else (none)) else (none)) else (none)) else (none)) else (modillionlaw09_SeqLabels.l2 k4 t324 x7_3 false (wrap64 (x9_4 + 1)) a0_0 l0_1)) else (none)) = some r := by rw [if_neg (show ¬ (false = true) by decide)] at H; exact H
                                clear H
                                have H := H1
                                clear H1
                                by_cases c40 : 0 ≤ x9_4
                                · rw [if_pos c40] at H
                                  have c40b0 : decide (0 ≤ x9_4) = true := decide_eq_true c40
                                  clear c40
                                  by_cases c41 : ((rd_T45 l0_1 x9_4).f1) = x7_3
                                  · rw [if_pos c41] at H
                                    have c41b0 : (((rd_T45 l0_1 x9_4).f1) == x7_3) = true := beq_iff_eq.mpr c41
                                    have c41b1 : (((rd_T45 l0_1 x9_4).f1) != x7_3) = false := bne_eq_false_iff_eq.mpr c41
                                    clear c41
                                    by_cases c42 : 0 ≤ ((rd_T45 l0_1 x9_4).f0)
                                    · rw [if_pos c42] at H
                                      have c42b0 : decide (0 ≤ ((rd_T45 l0_1 x9_4).f0)) = true := decide_eq_true c42
                                      clear c42
                                      by_cases c43 : ((rd_T45 l0_1 x9_4).f0) < (t324.length : Int)
                                      · rw [if_pos c43] at H
                                        have c43b0 : decide (((rd_T45 l0_1 x9_4).f0) < (t324.length : Int)) = true := decide_eq_true c43
                                        clear c43
                                        by_cases c44 : 0 ≤ x7_3
                                        · rw [if_pos c44] at H
                                          have c44b0 : decide (0 ≤ x7_3) = true := decide_eq_true c44
                                          clear c44
                                          by_cases c45 : x7_3 < (t324.length : Int)
                                          · rw [if_pos c45] at H
                                            have c45b0 : decide (x7_3 < (t324.length : Int)) = true := decide_eq_true c45
                                            clear c45
                                            have H' := Aside0.mk H
                                            clear H
                                            have hcz46_0 : wr.cell? ⟨gb317, 0, none⟩ = some (.int .i64 a0_0) := (blk_cell BK317.out 0).trans rfl
                                            have hcz46_1 : wr.cell? ⟨gb317, 1, none⟩ = some (.slice A0_1 l0_1.length c0_1) := (blk_cell BK317.out 1).trans rfl
                                            have hfz46_0 := blk_frozen BK317.out 0
                                            have hfz46_1 := blk_frozen BK317.out 1
                                            have p334 : 0 ≤ (x9_4 : Int) := of_decide_eq_true (by first | (with_reducible assumption) | assumption)
                                            have q334 : x9_4 < (l0_1.length : Int) := of_decide_eq_true (by first | (with_reducible assumption) | assumption)
                                            obtain ⟨ad334, e334, hx334_0, hx334_1, hx334_2⟩ := at_T45 HR0_1.out x9_4 p334 q334
                                            cases e334
                                            replace hx334_0 := (HB.out.cell (World.block_lt_of_cell? w _ hx334_0)).trans hx334_0
                                            replace hx334_1 := (HB.out.cell (World.block_lt_of_cell? w _ hx334_1)).trans hx334_1
                                            replace hx334_2 := (HB.out.cell (World.block_lt_of_cell? w _ hx334_2)).trans hx334_2
                                            replace p334 := eq_true p334
                                            replace q334 := eq_true q334
                                            have p335 : 0 ≤ (x9_4 : Int) := of_decide_eq_true (by first | (with_reducible assumption) | assumption)
                                            have q335 : x9_4 < (l0_1.length : Int) := of_decide_eq_true (by first | (with_reducible assumption) | assumption)
                                            obtain ⟨ad335, e335, hx335_0, hx335_1, hx335_2⟩ := at_T45 HR0_1.out x9_4 p335 q335
                                            obtain rfl : ad334 = ad335 := (by injection e335)
                                            replace hx335_0 := (HB.out.cell (World.block_lt_of_cell? w _ hx335_0)).trans hx335_0
                                            replace hx335_1 := (HB.out.cell (World.block_lt_of_cell? w _ hx335_1)).trans hx335_1
                                            replace hx335_2 := (HB.out.cell (World.block_lt_of_cell? w _ hx335_2)).trans hx335_2
                                            replace p335 := eq_true p335
                                            replace q335 := eq_true q335
                                            have p336 : 0 ≤ (((rd_T45 l0_1 x9_4).f0) : Int) := of_decide_eq_true (by first | (with_reducible assumption) | assumption)
                                            have q336 : ((rd_T45 l0_1 x9_4).f0) < (t324.length : Int) := of_decide_eq_true (by first | (with_reducible assumption) | assumption)
                                            obtain ⟨ad336, e336, hx336_0⟩ := Kd.at_int (Kd.R_reads' HO_3.out).2.2 ((rd_T45 l0_1 x9_4).f0) p336 q336
                                            obtain rfl : ad333 = ad336 := (by injection e336)
                                            replace p336 := eq_true p336
                                            replace q336 := eq_true q336
                                            have p337 : 0 ≤ (x7_3 : Int) := of_decide_eq_true (by first | (with_reducible assumption) | assumption)
                                            have q337 : x7_3 < (t324.length : Int) := of_decide_eq_true (by first | (with_reducible assumption) | assumption)
                                            obtain ⟨ad337, e337, hx337_0⟩ := Kd.at_int (Kd.R_reads' HO_3.out).2.2 x7_3 p337 q337
                                            obtain rfl : ad333 = ad337 := (by injection e337)
                                            replace p337 := eq_true p337
                                            replace q337 := eq_true q337
                                            go_wp2
                                            repeat (go_quiet (fail); try go_wp2)
                                            go_roundg k4
                                            case measure => have := HJ1.out; have := HK2.out; have := HK3.out; have := HK4.out; omega
                                            case rel => exact ⟨(((rd t324 ((rd_T45 l0_1 x9_4).f0)) == (rd t324 x7_3))), (wrap64 (x9_4 + 1)), (by first | rfl | (simp; done) | (simp [*]; done)), (by first | rfl | (simp; done) | (simp [*]; done)), H', ⟨by have := HJ1.out; have := HK2.out; have := HK3.out; have := HK4.out; omega⟩, ⟨by (with_reducible repeat (first | apply Kd.R_alloc | apply Kd.R_drewN | apply Kd.R_drew)); exact HO_3.out⟩, ⟨by (with_reducible repeat (first | refine blk_drewN ?_ _ | refine blk_drew ?_ | refine blk_alloc ?_ _)); exact BK317.out⟩, ⟨by repeat (first | (with_reducible first | exact HB.out | apply below_alloc | apply pw_below_drewN | apply below_drew1 | refine below_set ?_ GE317.out) | exact HB.out)⟩⟩
                                          · rw [if_neg c45] at H
                                            exact absurd H (by simp)
                                        · rw [if_neg c44] at H
                                          exact absurd H (by simp)
                                      · rw [if_neg c43] at H
                                        exact absurd H (by simp)
                                    · rw [if_neg c42] at H
                                      exact absurd H (by simp)
                                  · rw [if_neg c41] at H
                                    have c41b0 : (((rd_T45 l0_1 x9_4).f1) == x7_3) = false := beq_eq_false_iff_ne.mpr c41
                                    have c41b1 : (((rd_T45 l0_1 x9_4).f1) != x7_3) = true := bne_iff_ne.mpr c41
                                    have H' := Aside0.mk H
                                    clear H
                                    have hcz47_0 : wr.cell? ⟨gb317, 0, none⟩ = some (.int .i64 a0_0) := (blk_cell BK317.out 0).trans rfl
                                    have hcz47_1 : wr.cell? ⟨gb317, 1, none⟩ = some (.slice A0_1 l0_1.length c0_1) := (blk_cell BK317.out 1).trans rfl
                                    have hfz47_0 := blk_frozen BK317.out 0
                                    have hfz47_1 := blk_frozen BK317.out 1
                                    have p334 : 0 ≤ (x9_4 : Int) := of_decide_eq_true (by first | (with_reducible assumption) | assumption)
                                    have q334 : x9_4 < (l0_1.length : Int) := of_decide_eq_true (by first | (with_reducible assumption) | assumption)
                                    obtain ⟨ad334, e334, hx334_0, hx334_1, hx334_2⟩ := at_T45 HR0_1.out x9_4 p334 q334
                                    cases e334
                                    replace hx334_0 := (HB.out.cell (World.block_lt_of_cell? w _ hx334_0)).trans hx334_0
                                    replace hx334_1 := (HB.out.cell (World.block_lt_of_cell? w _ hx334_1)).trans hx334_1
                                    replace hx334_2 := (HB.out.cell (World.block_lt_of_cell? w _ hx334_2)).trans hx334_2
                                    replace p334 := eq_true p334
                                    replace q334 := eq_true q334
                                    go_wp2
                                    repeat (go_quiet (fail); try go_wp2)
                                    go_roundg k4
                                    case measure => have := HJ1.out; have := HK2.out; have := HK3.out; have := HK4.out; omega
                                    case rel => exact ⟨(false), (wrap64 (x9_4 + 1)), (by first | rfl | (simp; done) | (simp [*]; done)), (by first | rfl | (simp; done) | (simp [*]; done)), H', ⟨by have := HJ1.out; have := HK2.out; have := HK3.out; have := HK4.out; omega⟩, ⟨by (with_reducible repeat (first | apply Kd.R_alloc | apply Kd.R_drewN | apply Kd.R_drew)); exact HO_3.out⟩, ⟨by (with_reducible repeat (first | refine blk_drewN ?_ _ | refine blk_drew ?_ | refine blk_alloc ?_ _)); exact BK317.out⟩, ⟨by repeat (first | (with_reducible first | exact HB.out | apply below_alloc | apply pw_below_drewN | apply below_drew1 | refine below_set ?_ GE317.out) | exact HB.out)⟩⟩
                                · rw [if_neg c40] at H
                                  exact absurd H (by simp)
                            · rw [if_neg c37] at H
                              have c37b0 : decide (x9_4 < (l0_1.length : Int)) = false := decide_eq_false c37
                              clear c37
                              by_cases c48 : x8_4 = true
                              · subst c48
                                have H1 : (if 0 ≤ x7_3 then (if x7_3 < (t324.length : Int) then (if (rd t324 x7_3) < 0 then (some false) else (if (rd t324 x7_3) > x7_3 then (some false) else (if 0 ≤ (rd t324 x7_3) then (if (rd t324 x7_3) < (t324.length : Int) then (if (rd t324 (rd t324 x7_3)) = (rd t324 x7_3) then (modillionlaw09_SeqLabels.l1 k4 t324 (wrap64 (x7_3 + 1)) a0_0 l0_1) else (some false)) else (none)) else (none)))) else (none)) else (none)) = some r := by rw [if_pos rfl] at H; exact H
                                clear H
                                have H := H1
                                clear H1
                                by_cases c49 : 0 ≤ x7_3
                                · rw [if_pos c49] at H
                                  have c49b0 : decide (0 ≤ x7_3) = true := decide_eq_true c49
                                  clear c49
                                  by_cases c50 : x7_3 < (t324.length : Int)
                                  · rw [if_pos c50] at H
                                    have c50b0 : decide (x7_3 < (t324.length : Int)) = true := decide_eq_true c50
                                    clear c50
                                    by_cases c51 : (rd t324 x7_3) < 0
                                    · rw [if_pos c51] at H
                                      have c51b0 : decide ((rd t324 x7_3) < 0) = true := decide_eq_true c51
                                      clear c51
                                      obtain rfl := Option.some.inj H
                                      have hcz52_0 : wr.cell? ⟨gb317, 0, none⟩ = some (.int .i64 a0_0) := (blk_cell BK317.out 0).trans rfl
                                      have hcz52_1 : wr.cell? ⟨gb317, 1, none⟩ = some (.slice A0_1 l0_1.length c0_1) := (blk_cell BK317.out 1).trans rfl
                                      have hfz52_0 := blk_frozen BK317.out 0
                                      have hfz52_1 := blk_frozen BK317.out 1
                                      have p338 : 0 ≤ (x7_3 : Int) := of_decide_eq_true (by first | (with_reducible assumption) | assumption)
                                      have q338 : x7_3 < (t324.length : Int) := of_decide_eq_true (by first | (with_reducible assumption) | assumption)
                                      obtain ⟨ad338, e338, hx338_0⟩ := Kd.at_int (Kd.R_reads' HO_3.out).2.2 x7_3 p338 q338
                                      obtain rfl : ad333 = ad338 := (by injection e338)
                                      replace p338 := eq_true p338
                                      replace q338 := eq_true q338
                                      go_wp2
                                      repeat (go_quiet (fail); try go_wp2)
                                      go_ret
                                      exact ⟨by first | rfl | (simp [errW_none, errW_some] <;> rfl) | (simp [*, errW_none, errW_some] <;> rfl), by repeat (first | (with_reducible first | exact HB.out | apply below_alloc | apply pw_below_drewN | apply below_drew1 | refine below_set ?_ GE317.out) | exact HB.out)⟩
                                    · rw [if_neg c51] at H
                                      have c51b0 : decide ((rd t324 x7_3) < 0) = false := decide_eq_false c51
                                      clear c51
                                      by_cases c53 : (rd t324 x7_3) > x7_3
                                      · rw [if_pos c53] at H
                                        have c53b0 : decide (x7_3 < (rd t324 x7_3)) = true := decide_eq_true c53
                                        clear c53
                                        obtain rfl := Option.some.inj H
                                        have hcz54_0 : wr.cell? ⟨gb317, 0, none⟩ = some (.int .i64 a0_0) := (blk_cell BK317.out 0).trans rfl
                                        have hcz54_1 : wr.cell? ⟨gb317, 1, none⟩ = some (.slice A0_1 l0_1.length c0_1) := (blk_cell BK317.out 1).trans rfl
                                        have hfz54_0 := blk_frozen BK317.out 0
                                        have hfz54_1 := blk_frozen BK317.out 1
                                        have p338 : 0 ≤ (x7_3 : Int) := of_decide_eq_true (by first | (with_reducible assumption) | assumption)
                                        have q338 : x7_3 < (t324.length : Int) := of_decide_eq_true (by first | (with_reducible assumption) | assumption)
                                        obtain ⟨ad338, e338, hx338_0⟩ := Kd.at_int (Kd.R_reads' HO_3.out).2.2 x7_3 p338 q338
                                        obtain rfl : ad333 = ad338 := (by injection e338)
                                        replace p338 := eq_true p338
                                        replace q338 := eq_true q338
                                        have p339 : 0 ≤ (x7_3 : Int) := of_decide_eq_true (by first | (with_reducible assumption) | assumption)
                                        have q339 : x7_3 < (t324.length : Int) := of_decide_eq_true (by first | (with_reducible assumption) | assumption)
                                        obtain ⟨ad339, e339, hx339_0⟩ := Kd.at_int (Kd.R_reads' HO_3.out).2.2 x7_3 p339 q339
                                        obtain rfl : ad333 = ad339 := (by injection e339)
                                        replace p339 := eq_true p339
                                        replace q339 := eq_true q339
                                        go_wp2
                                        repeat (go_quiet (fail); try go_wp2)
                                        go_ret
                                        exact ⟨by first | rfl | (simp [errW_none, errW_some] <;> rfl) | (simp [*, errW_none, errW_some] <;> rfl), by repeat (first | (with_reducible first | exact HB.out | apply below_alloc | apply pw_below_drewN | apply below_drew1 | refine below_set ?_ GE317.out) | exact HB.out)⟩
                                      · rw [if_neg c53] at H
                                        have c53b0 : decide (x7_3 < (rd t324 x7_3)) = false := decide_eq_false c53
                                        clear c53
                                        by_cases c55 : 0 ≤ (rd t324 x7_3)
                                        · rw [if_pos c55] at H
                                          have c55b0 : decide (0 ≤ (rd t324 x7_3)) = true := decide_eq_true c55
                                          clear c55
                                          by_cases c56 : (rd t324 x7_3) < (t324.length : Int)
                                          · rw [if_pos c56] at H
                                            have c56b0 : decide ((rd t324 x7_3) < (t324.length : Int)) = true := decide_eq_true c56
                                            clear c56
                                            by_cases c57 : (rd t324 (rd t324 x7_3)) = (rd t324 x7_3)
                                            · rw [if_pos c57] at H
                                              have c57b0 : ((rd t324 (rd t324 x7_3)) == (rd t324 x7_3)) = true := beq_iff_eq.mpr c57
                                              have c57b1 : ((rd t324 (rd t324 x7_3)) != (rd t324 x7_3)) = false := bne_eq_false_iff_eq.mpr c57
                                              clear c57
                                              have H' := Aside0.mk H
                                              clear H
                                              have hcz58_0 : wr.cell? ⟨gb317, 0, none⟩ = some (.int .i64 a0_0) := (blk_cell BK317.out 0).trans rfl
                                              have hcz58_1 : wr.cell? ⟨gb317, 1, none⟩ = some (.slice A0_1 l0_1.length c0_1) := (blk_cell BK317.out 1).trans rfl
                                              have hfz58_0 := blk_frozen BK317.out 0
                                              have hfz58_1 := blk_frozen BK317.out 1
                                              have p338 : 0 ≤ (x7_3 : Int) := of_decide_eq_true (by first | (with_reducible assumption) | assumption)
                                              have q338 : x7_3 < (t324.length : Int) := of_decide_eq_true (by first | (with_reducible assumption) | assumption)
                                              obtain ⟨ad338, e338, hx338_0⟩ := Kd.at_int (Kd.R_reads' HO_3.out).2.2 x7_3 p338 q338
                                              obtain rfl : ad333 = ad338 := (by injection e338)
                                              replace p338 := eq_true p338
                                              replace q338 := eq_true q338
                                              have p339 : 0 ≤ (x7_3 : Int) := of_decide_eq_true (by first | (with_reducible assumption) | assumption)
                                              have q339 : x7_3 < (t324.length : Int) := of_decide_eq_true (by first | (with_reducible assumption) | assumption)
                                              obtain ⟨ad339, e339, hx339_0⟩ := Kd.at_int (Kd.R_reads' HO_3.out).2.2 x7_3 p339 q339
                                              obtain rfl : ad333 = ad339 := (by injection e339)
                                              replace p339 := eq_true p339
                                              replace q339 := eq_true q339
                                              have p340 : 0 ≤ (x7_3 : Int) := of_decide_eq_true (by first | (with_reducible assumption) | assumption)
                                              have q340 : x7_3 < (t324.length : Int) := of_decide_eq_true (by first | (with_reducible assumption) | assumption)
                                              obtain ⟨ad340, e340, hx340_0⟩ := Kd.at_int (Kd.R_reads' HO_3.out).2.2 x7_3 p340 q340
                                              obtain rfl : ad333 = ad340 := (by injection e340)
                                              replace p340 := eq_true p340
                                              replace q340 := eq_true q340
                                              have p341 : 0 ≤ ((rd t324 x7_3) : Int) := of_decide_eq_true (by first | (with_reducible assumption) | assumption)
                                              have q341 : (rd t324 x7_3) < (t324.length : Int) := of_decide_eq_true (by first | (with_reducible assumption) | assumption)
                                              obtain ⟨ad341, e341, hx341_0⟩ := Kd.at_int (Kd.R_reads' HO_3.out).2.2 (rd t324 x7_3) p341 q341
                                              obtain rfl : ad333 = ad341 := (by injection e341)
                                              replace p341 := eq_true p341
                                              replace q341 := eq_true q341
                                              have p342 : 0 ≤ (x7_3 : Int) := of_decide_eq_true (by first | (with_reducible assumption) | assumption)
                                              have q342 : x7_3 < (t324.length : Int) := of_decide_eq_true (by first | (with_reducible assumption) | assumption)
                                              obtain ⟨ad342, e342, hx342_0⟩ := Kd.at_int (Kd.R_reads' HO_3.out).2.2 x7_3 p342 q342
                                              obtain rfl : ad333 = ad342 := (by injection e342)
                                              replace p342 := eq_true p342
                                              replace q342 := eq_true q342
                                              go_wp2
                                              repeat (go_quiet (fail); try go_wp2)
                                              go_roundg k4
                                              case measure => have := HJ1.out; have := HK2.out; have := HK3.out; have := HK4.out; omega
                                              case rel => exact ⟨(wrap64 (x7_3 + 1)), (by first | rfl | (simp; done) | (simp [*]; done)), H', ⟨by have := HJ1.out; have := HK2.out; have := HK3.out; have := HK4.out; omega⟩, ⟨by (with_reducible repeat (first | apply Kd.R_alloc | apply Kd.R_drewN | apply Kd.R_drew)); exact HO_3.out⟩, ⟨by (with_reducible repeat (first | refine blk_drewN ?_ _ | refine blk_drew ?_ | refine blk_alloc ?_ _)); exact BK317.out⟩, ⟨by repeat (first | (with_reducible first | exact HB.out | apply below_alloc | apply pw_below_drewN | apply below_drew1 | refine below_set ?_ GE317.out) | exact HB.out)⟩⟩
                                            · rw [if_neg c57] at H
                                              have c57b0 : ((rd t324 (rd t324 x7_3)) == (rd t324 x7_3)) = false := beq_eq_false_iff_ne.mpr c57
                                              have c57b1 : ((rd t324 (rd t324 x7_3)) != (rd t324 x7_3)) = true := bne_iff_ne.mpr c57
                                              obtain rfl := Option.some.inj H
                                              have hcz59_0 : wr.cell? ⟨gb317, 0, none⟩ = some (.int .i64 a0_0) := (blk_cell BK317.out 0).trans rfl
                                              have hcz59_1 : wr.cell? ⟨gb317, 1, none⟩ = some (.slice A0_1 l0_1.length c0_1) := (blk_cell BK317.out 1).trans rfl
                                              have hfz59_0 := blk_frozen BK317.out 0
                                              have hfz59_1 := blk_frozen BK317.out 1
                                              have p338 : 0 ≤ (x7_3 : Int) := of_decide_eq_true (by first | (with_reducible assumption) | assumption)
                                              have q338 : x7_3 < (t324.length : Int) := of_decide_eq_true (by first | (with_reducible assumption) | assumption)
                                              obtain ⟨ad338, e338, hx338_0⟩ := Kd.at_int (Kd.R_reads' HO_3.out).2.2 x7_3 p338 q338
                                              obtain rfl : ad333 = ad338 := (by injection e338)
                                              replace p338 := eq_true p338
                                              replace q338 := eq_true q338
                                              have p339 : 0 ≤ (x7_3 : Int) := of_decide_eq_true (by first | (with_reducible assumption) | assumption)
                                              have q339 : x7_3 < (t324.length : Int) := of_decide_eq_true (by first | (with_reducible assumption) | assumption)
                                              obtain ⟨ad339, e339, hx339_0⟩ := Kd.at_int (Kd.R_reads' HO_3.out).2.2 x7_3 p339 q339
                                              obtain rfl : ad333 = ad339 := (by injection e339)
                                              replace p339 := eq_true p339
                                              replace q339 := eq_true q339
                                              have p340 : 0 ≤ (x7_3 : Int) := of_decide_eq_true (by first | (with_reducible assumption) | assumption)
                                              have q340 : x7_3 < (t324.length : Int) := of_decide_eq_true (by first | (with_reducible assumption) | assumption)
                                              obtain ⟨ad340, e340, hx340_0⟩ := Kd.at_int (Kd.R_reads' HO_3.out).2.2 x7_3 p340 q340
                                              obtain rfl : ad333 = ad340 := (by injection e340)
                                              replace p340 := eq_true p340
                                              replace q340 := eq_true q340
                                              have p341 : 0 ≤ ((rd t324 x7_3) : Int) := of_decide_eq_true (by first | (with_reducible assumption) | assumption)
                                              have q341 : (rd t324 x7_3) < (t324.length : Int) := of_decide_eq_true (by first | (with_reducible assumption) | assumption)
                                              obtain ⟨ad341, e341, hx341_0⟩ := Kd.at_int (Kd.R_reads' HO_3.out).2.2 (rd t324 x7_3) p341 q341
                                              obtain rfl : ad333 = ad341 := (by injection e341)
                                              replace p341 := eq_true p341
                                              replace q341 := eq_true q341
                                              have p342 : 0 ≤ (x7_3 : Int) := of_decide_eq_true (by first | (with_reducible assumption) | assumption)
                                              have q342 : x7_3 < (t324.length : Int) := of_decide_eq_true (by first | (with_reducible assumption) | assumption)
                                              obtain ⟨ad342, e342, hx342_0⟩ := Kd.at_int (Kd.R_reads' HO_3.out).2.2 x7_3 p342 q342
                                              obtain rfl : ad333 = ad342 := (by injection e342)
                                              replace p342 := eq_true p342
                                              replace q342 := eq_true q342
                                              go_wp2
                                              repeat (go_quiet (fail); try go_wp2)
                                              go_ret
                                              exact ⟨by first | rfl | (simp [errW_none, errW_some] <;> rfl) | (simp [*, errW_none, errW_some] <;> rfl), by repeat (first | (with_reducible first | exact HB.out | apply below_alloc | apply pw_below_drewN | apply below_drew1 | refine below_set ?_ GE317.out) | exact HB.out)⟩
                                          · rw [if_neg c56] at H
                                            exact absurd H (by simp)
                                        · rw [if_neg c55] at H
                                          exact absurd H (by simp)
                                  · rw [if_neg c50] at H
                                    exact absurd H (by simp)
                                · rw [if_neg c49] at H
                                  exact absurd H (by simp)
                              · replace c48 := Bool.eq_false_iff.mpr c48
                                subst c48
                                have H1 : (some false) = some r := by rw [if_neg (show ¬ (false = true) by decide)] at H; exact H
                                clear H
                                have H := H1
                                clear H1
                                obtain rfl := Option.some.inj H
                                have hcz60_0 : wr.cell? ⟨gb317, 0, none⟩ = some (.int .i64 a0_0) := (blk_cell BK317.out 0).trans rfl
                                have hcz60_1 : wr.cell? ⟨gb317, 1, none⟩ = some (.slice A0_1 l0_1.length c0_1) := (blk_cell BK317.out 1).trans rfl
                                have hfz60_0 := blk_frozen BK317.out 0
                                have hfz60_1 := blk_frozen BK317.out 1
                                go_wp2
                                repeat (go_quiet (fail); try go_wp2)
                                go_ret
                                exact ⟨by first | rfl | (simp [errW_none, errW_some] <;> rfl) | (simp [*, errW_none, errW_some] <;> rfl), by repeat (first | (with_reducible first | exact HB.out | apply below_alloc | apply pw_below_drewN | apply below_drew1 | refine below_set ?_ GE317.out) | exact HB.out)⟩
                      · rw [if_neg c35] at H
                        exact absurd H (by simp)
                    · rw [if_neg c34] at H
                      have c34b0 : decide (x7_3 < (t324.length : Int)) = false := decide_eq_false c34
                      clear c34
                      obtain rfl := Option.some.inj H
                      obtain ⟨Ao61, co61, eo61⟩ := Kd.R_slice HO_3.out
                      subst eo61
                      go_wp2
                      repeat (go_quiet (fail); try go_wp2)
                      go_ret
                      exact ⟨by first | rfl | (simp [errW_none, errW_some] <;> rfl) | (simp [*, errW_none, errW_some] <;> rfl), by repeat (first | (with_reducible first | exact HB.out | apply below_alloc | apply pw_below_drewN | apply below_drew1 | refine below_set ?_ GE317.out) | exact HB.out)⟩
        · rw [if_neg c17] at H
          have c17b0 : (t328 == 0) = false := beq_eq_false_iff_ne.mpr c17
          have c17b1 : (t328 != 0) = true := bne_iff_ne.mpr c17
          obtain rfl := Option.some.inj H
          have hcz62_0 : wc.cell? ⟨gb317, 0, none⟩ = some (.int .i64 a0_0) := (blk_cell BK317.out 0).trans rfl
          have hcz62_1 : wc.cell? ⟨gb317, 1, none⟩ = some (.slice A0_1 l0_1.length c0_1) := (blk_cell BK317.out 1).trans rfl
          have hfz62_0 := blk_frozen BK317.out 0
          have hfz62_1 := blk_frozen BK317.out 1
          go_wp2_with (first | (go_at_call 13; (with_reducible refine (modillionlaw09_Own.calls a0_0 _ _ l0_1 t320 t321 _ ?side1 ?side2 A15.out).mono ?_); (case side1 => repeat (first | exact (Kd.C_below HR0_1.out HB.out) | (with_reducible refine Kd.C_alloc ?_ _) | (with_reducible refine Kd.C_drewN ?_ _) | (with_reducible refine Kd.C_drew ?_))); (case side2 => exact HC0_1.out); rintro e w63 ⟨v322, rfl, ho0, hb⟩; have n0_ := Aside0.mk (Kd.R_lower ho0 (below_size (by repeat (first | (with_reducible first | exact HB.out | apply below_alloc | apply pw_below_drewN | apply below_drew1 | refine below_set ?_ GE317.out) | exact HB.out)))); have n1_ := Aside0.mk (blk_below (g := gb317) (o := .cells #[.int .i64 a0_0, .slice A0_1 l0_1.length c0_1] 24 (0, 0)) (by (with_reducible repeat (first | refine blk_drewN ?_ _ | refine blk_drew ?_ | refine blk_alloc ?_ _)); exact BK317.out) hb); have n2_ := Aside0.mk (below_step (by repeat (first | (with_reducible first | exact HB.out | apply below_alloc | apply pw_below_drewN | apply below_drew1 | refine below_set ?_ GE317.out) | exact HB.out)) hb); clear BK317; clear HB; have HO323 := n0_; have BK317 := n1_; have HB := n2_; clear n0_ n1_ n2_; (try clear hb); (try clear hb2); (try clear hk); (try clear hi); (try clear ho0); obtain ⟨Ao64, co64, eo64⟩ := Kd.R_slice HO323.out; subst eo64) | (go_at_call 14; (with_reducible refine (seq_Run.calls kj1 t320 _ _ t321 (⟨#[108, 97, 98, 101, 108]⟩ : ByteArray) 0 20 t324 t327 t328 _ ?side1 ?side2 A16.out).mono ?_); (case side1 => repeat (first | exact (Kd.R_reads' HO323.out).2.2 | (with_reducible refine Kd.C_alloc ?_ _) | (with_reducible refine Kd.C_drewN ?_ _) | (with_reducible refine Kd.C_drew ?_))); (case side2 => exact (Kd.R_reads' HO323.out).2.1); rintro e w65 ⟨v325, rfl, ho0, hb⟩; have n0_ := Aside0.mk (Kd.R_below (by (with_reducible repeat (first | apply Kd.R_alloc | apply Kd.R_drewN | apply Kd.R_drew)); exact HO323.out) hb); have n1_ := Aside0.mk (Kd.R_lower ho0 (below_size (by repeat (first | (with_reducible first | exact HB.out | apply below_alloc | apply pw_below_drewN | apply below_drew1 | refine below_set ?_ GE317.out) | exact HB.out)))); have n2_ := Aside0.mk (blk_below (g := gb317) (o := .cells #[.int .i64 a0_0, .slice A0_1 l0_1.length c0_1] 24 (0, 0)) (by (with_reducible repeat (first | refine blk_drewN ?_ _ | refine blk_drew ?_ | refine blk_alloc ?_ _)); exact BK317.out) hb); have n3_ := Aside0.mk (below_step (by repeat (first | (with_reducible first | exact HB.out | apply below_alloc | apply pw_below_drewN | apply below_drew1 | refine below_set ?_ GE317.out) | exact HB.out)) hb); clear HO323; clear BK317; clear HB; have HO323 := n0_; have HO326 := n1_; have BK317 := n2_; have HB := n3_; clear n0_ n1_ n2_ n3_; (try clear hb); (try clear hb2); (try clear hk); (try clear hi); (try clear ho0); obtain ⟨Ao66, co66, eo66⟩ := Kd.R_slice HO326.out; subst eo66))
          repeat (go_quiet (first | (go_at_call 13; (with_reducible refine (modillionlaw09_Own.calls a0_0 _ _ l0_1 t320 t321 _ ?side1 ?side2 A15.out).mono ?_); (case side1 => repeat (first | exact (Kd.C_below HR0_1.out HB.out) | (with_reducible refine Kd.C_alloc ?_ _) | (with_reducible refine Kd.C_drewN ?_ _) | (with_reducible refine Kd.C_drew ?_))); (case side2 => exact HC0_1.out); rintro e w63 ⟨v322, rfl, ho0, hb⟩; have n0_ := Aside0.mk (Kd.R_lower ho0 (below_size (by repeat (first | (with_reducible first | exact HB.out | apply below_alloc | apply pw_below_drewN | apply below_drew1 | refine below_set ?_ GE317.out) | exact HB.out)))); have n1_ := Aside0.mk (blk_below (g := gb317) (o := .cells #[.int .i64 a0_0, .slice A0_1 l0_1.length c0_1] 24 (0, 0)) (by (with_reducible repeat (first | refine blk_drewN ?_ _ | refine blk_drew ?_ | refine blk_alloc ?_ _)); exact BK317.out) hb); have n2_ := Aside0.mk (below_step (by repeat (first | (with_reducible first | exact HB.out | apply below_alloc | apply pw_below_drewN | apply below_drew1 | refine below_set ?_ GE317.out) | exact HB.out)) hb); clear BK317; clear HB; have HO323 := n0_; have BK317 := n1_; have HB := n2_; clear n0_ n1_ n2_; (try clear hb); (try clear hb2); (try clear hk); (try clear hi); (try clear ho0); obtain ⟨Ao64, co64, eo64⟩ := Kd.R_slice HO323.out; subst eo64) | (go_at_call 14; (with_reducible refine (seq_Run.calls kj1 t320 _ _ t321 (⟨#[108, 97, 98, 101, 108]⟩ : ByteArray) 0 20 t324 t327 t328 _ ?side1 ?side2 A16.out).mono ?_); (case side1 => repeat (first | exact (Kd.R_reads' HO323.out).2.2 | (with_reducible refine Kd.C_alloc ?_ _) | (with_reducible refine Kd.C_drewN ?_ _) | (with_reducible refine Kd.C_drew ?_))); (case side2 => exact (Kd.R_reads' HO323.out).2.1); rintro e w65 ⟨v325, rfl, ho0, hb⟩; have n0_ := Aside0.mk (Kd.R_below (by (with_reducible repeat (first | apply Kd.R_alloc | apply Kd.R_drewN | apply Kd.R_drew)); exact HO323.out) hb); have n1_ := Aside0.mk (Kd.R_lower ho0 (below_size (by repeat (first | (with_reducible first | exact HB.out | apply below_alloc | apply pw_below_drewN | apply below_drew1 | refine below_set ?_ GE317.out) | exact HB.out)))); have n2_ := Aside0.mk (blk_below (g := gb317) (o := .cells #[.int .i64 a0_0, .slice A0_1 l0_1.length c0_1] 24 (0, 0)) (by (with_reducible repeat (first | refine blk_drewN ?_ _ | refine blk_drew ?_ | refine blk_alloc ?_ _)); exact BK317.out) hb); have n3_ := Aside0.mk (below_step (by repeat (first | (with_reducible first | exact HB.out | apply below_alloc | apply pw_below_drewN | apply below_drew1 | refine below_set ?_ GE317.out) | exact HB.out)) hb); clear HO323; clear BK317; clear HB; have HO323 := n0_; have HO326 := n1_; have BK317 := n2_; have HB := n3_; clear n0_ n1_ n2_ n3_; (try clear hb); (try clear hb2); (try clear hk); (try clear hi); (try clear ho0); obtain ⟨Ao66, co66, eo66⟩ := Kd.R_slice HO326.out; subst eo66)); try go_wp2_with (first | (go_at_call 13; (with_reducible refine (modillionlaw09_Own.calls a0_0 _ _ l0_1 t320 t321 _ ?side1 ?side2 A15.out).mono ?_); (case side1 => repeat (first | exact (Kd.C_below HR0_1.out HB.out) | (with_reducible refine Kd.C_alloc ?_ _) | (with_reducible refine Kd.C_drewN ?_ _) | (with_reducible refine Kd.C_drew ?_))); (case side2 => exact HC0_1.out); rintro e w63 ⟨v322, rfl, ho0, hb⟩; have n0_ := Aside0.mk (Kd.R_lower ho0 (below_size (by repeat (first | (with_reducible first | exact HB.out | apply below_alloc | apply pw_below_drewN | apply below_drew1 | refine below_set ?_ GE317.out) | exact HB.out)))); have n1_ := Aside0.mk (blk_below (g := gb317) (o := .cells #[.int .i64 a0_0, .slice A0_1 l0_1.length c0_1] 24 (0, 0)) (by (with_reducible repeat (first | refine blk_drewN ?_ _ | refine blk_drew ?_ | refine blk_alloc ?_ _)); exact BK317.out) hb); have n2_ := Aside0.mk (below_step (by repeat (first | (with_reducible first | exact HB.out | apply below_alloc | apply pw_below_drewN | apply below_drew1 | refine below_set ?_ GE317.out) | exact HB.out)) hb); clear BK317; clear HB; have HO323 := n0_; have BK317 := n1_; have HB := n2_; clear n0_ n1_ n2_; (try clear hb); (try clear hb2); (try clear hk); (try clear hi); (try clear ho0); obtain ⟨Ao64, co64, eo64⟩ := Kd.R_slice HO323.out; subst eo64) | (go_at_call 14; (with_reducible refine (seq_Run.calls kj1 t320 _ _ t321 (⟨#[108, 97, 98, 101, 108]⟩ : ByteArray) 0 20 t324 t327 t328 _ ?side1 ?side2 A16.out).mono ?_); (case side1 => repeat (first | exact (Kd.R_reads' HO323.out).2.2 | (with_reducible refine Kd.C_alloc ?_ _) | (with_reducible refine Kd.C_drewN ?_ _) | (with_reducible refine Kd.C_drew ?_))); (case side2 => exact (Kd.R_reads' HO323.out).2.1); rintro e w65 ⟨v325, rfl, ho0, hb⟩; have n0_ := Aside0.mk (Kd.R_below (by (with_reducible repeat (first | apply Kd.R_alloc | apply Kd.R_drewN | apply Kd.R_drew)); exact HO323.out) hb); have n1_ := Aside0.mk (Kd.R_lower ho0 (below_size (by repeat (first | (with_reducible first | exact HB.out | apply below_alloc | apply pw_below_drewN | apply below_drew1 | refine below_set ?_ GE317.out) | exact HB.out)))); have n2_ := Aside0.mk (blk_below (g := gb317) (o := .cells #[.int .i64 a0_0, .slice A0_1 l0_1.length c0_1] 24 (0, 0)) (by (with_reducible repeat (first | refine blk_drewN ?_ _ | refine blk_drew ?_ | refine blk_alloc ?_ _)); exact BK317.out) hb); have n3_ := Aside0.mk (below_step (by repeat (first | (with_reducible first | exact HB.out | apply below_alloc | apply pw_below_drewN | apply below_drew1 | refine below_set ?_ GE317.out) | exact HB.out)) hb); clear HO323; clear BK317; clear HB; have HO323 := n0_; have HO326 := n1_; have BK317 := n2_; have HB := n3_; clear n0_ n1_ n2_ n3_; (try clear hb); (try clear hb2); (try clear hk); (try clear hi); (try clear ho0); obtain ⟨Ao66, co66, eo66⟩ := Kd.R_slice HO326.out; subst eo66)))
          go_ret
          exact ⟨by first | rfl | (simp [errW_none, errW_some] <;> rfl) | (simp [*, errW_none, errW_some] <;> rfl), by repeat (first | (with_reducible first | exact HB.out | apply below_alloc | apply pw_below_drewN | apply below_drew1 | refine below_set ?_ GE317.out) | exact HB.out)⟩

end Go.Proofs.Ytpndhkeoljoapaa.P
