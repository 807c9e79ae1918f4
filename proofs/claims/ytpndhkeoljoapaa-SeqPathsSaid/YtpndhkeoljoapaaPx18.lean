/- What these Go functions compute, as Lean functions, and that they do. No condition. -/
import Derived.Test.YtpndhkeoljoapaaPx0
import Derived.Test.YtpndhkeoljoapaaPx9
import Derived.Test.YtpndhkeoljoapaaPx10
namespace Go.Proofs.Ytpndhkeoljoapaa.P
open Go.RowKit Go.Proofs.YtpndhkeoljoapaaW.PrintWords Go.Proofs.YtpndhkeoljoapaaW.PrintLast Go.Proofs.YtpndhkeoljoapaaW.PrintMore
attribute [local go_sem] max2_int min2_int max_two min_two max_three min_three max_four min_four   -- for this text's walks alone
set_option linter.unusedVariables false
set_option linter.unusedSimpArgs false
set_option linter.unnecessarySimpa false
theorem iteS18 {α : Type} {c : Prop} [Decidable c] {a : Option α} {r : α} (h : (if c then a else none) = some r) : c ∧ a = some r := by
 by_cases hc : c
 ·rw [if_pos hc] at h; exact ⟨hc, h⟩
 ·rw [if_neg hc] at h; cases h

/-! ### modillionlaw09_SeqPaths: function 10 -/
mutual
def modillionlaw09_SeqPaths.j0 : Nat → Int → Bool → Int → List (S45) → Option (Bool)
 | 0, _, _, _, _ => none
 | k + 1, x1, x27, x373000, x373001 => if x27 = true then ((modillionlaw09_awake.f k).bind fun t374 => (some t374)) else ((modillionlaw09_Own.f x373000 x373001).bind fun bt375 => ((seq_Run.f k bt375.1 bt375.2 (⟨#[115, 115, 115, 112]⟩ : ByteArray) x1 20).bind fun bt379 => (if bt379.2.2 = 0 then (modillionlaw09_SeqPaths.l0 k x1 bt379.1 0 x373000 x373001) else (some ((bt379.1.length : Int) == 0)))))
def modillionlaw09_SeqPaths.l0 : Nat → Int → List Int → Int → Int → List (S45) → Option (Bool)
 | 0, _, _, _, _, _ => none
 | k + 1, x1, x5, x8, x373000, x373001 => if x8 < (x373001.length : Int) then (if 0 ≤ x8 then (if 0 ≤ ((rd_T45 x373001 x8).f0) then (if ((rd_T45 x373001 x8).f0) < (x5.length : Int) then (if 0 ≤ ((rd_T45 x373001 x8).f1) then (if ((rd_T45 x373001 x8).f1) < (x5.length : Int) then (if (rd x5 ((rd_T45 x373001 x8).f0)) ≥ 0 then (if (rd x5 ((rd_T45 x373001 x8).f1)) < 0 then (some false) else (if (rd x5 ((rd_T45 x373001 x8).f1)) > (wrap64 ((rd x5 ((rd_T45 x373001 x8).f0)) + ((rd_T45 x373001 x8).f2))) then (some false) else (modillionlaw09_SeqPaths.l0 k x1 x5 (wrap64 (x8 + 1)) x373000 x373001))) else (modillionlaw09_SeqPaths.l0 k x1 x5 (wrap64 (x8 + 1)) x373000 x373001)) else (none)) else (none)) else (none)) else (none)) else (none)) else (modillionlaw09_SeqPaths.l1 k x1 x5 0 x373000 x373001)
def modillionlaw09_SeqPaths.l1 : Nat → Int → List Int → Int → Int → List (S45) → Option (Bool)
 | 0, _, _, _, _, _ => none
 | k + 1, x1, x5, x11, x373000, x373001 => if x11 < (x5.length : Int) then (if 0 ≤ x11 then (if (rd x5 x11) < 0 then (modillionlaw09_SeqPaths.j3 k x1 x5 x11 true x373000 x373001) else (modillionlaw09_SeqPaths.j3 k x1 x5 x11 (x11 == x1) x373000 x373001)) else (none)) else (if 0 ≤ x1 then (if x1 < (x5.length : Int) then (some ((rd x5 x1) == 0)) else (none)) else (none))
def modillionlaw09_SeqPaths.j3 : Nat → Int → List Int → Int → Bool → Int → List (S45) → Option (Bool)
 | 0, _, _, _, _, _, _ => none
 | k + 1, x1, x5, x11, x12, x373000, x373001 => modillionlaw09_SeqPaths.l2 k x1 x5 x11 x12 0 x373000 x373001
def modillionlaw09_SeqPaths.l2 : Nat → Int → List Int → Int → Bool → Int → Int → List (S45) → Option (Bool)
 | 0, _, _, _, _, _, _, _ => none
 | k + 1, x1, x5, x11, x12, x13, x373000, x373001 => if x13 < (x373001.length : Int) then (if 0 ≤ x13 then (if x12 = true then (modillionlaw09_SeqPaths.l2 k x1 x5 x11 true (wrap64 (x13 + 1)) x373000 x373001) else (if ((rd_T45 x373001 x13).f1) = x11 then (if 0 ≤ ((rd_T45 x373001 x13).f0) then (if ((rd_T45 x373001 x13).f0) < (x5.length : Int) then (if (rd x5 ((rd_T45 x373001 x13).f0)) ≥ 0 then (if 0 ≤ x11 then (if x11 < (x5.length : Int) then (modillionlaw09_SeqPaths.l2 k x1 x5 x11 ((wrap64 ((rd x5 ((rd_T45 x373001 x13).f0)) + ((rd_T45 x373001 x13).f2))) == (rd x5 x11)) (wrap64 (x13 + 1)) x373000 x373001) else (none)) else (none)) else (modillionlaw09_SeqPaths.l2 k x1 x5 x11 false (wrap64 (x13 + 1)) x373000 x373001)) else (none)) else (none)) else (modillionlaw09_SeqPaths.l2 k x1 x5 x11 false (wrap64 (x13 + 1)) x373000 x373001))) else (none)) else (if x12 = true then (modillionlaw09_SeqPaths.l1 k x1 x5 (wrap64 (x11 + 1)) x373000 x373001) else (some false))
end
def modillionlaw09_SeqPaths.f (k : Nat) (a0_0 : Int) (l0_1 : List (S45)) (a1 : Int) : Option (Bool) := (modillionlaw09_awake.f k).bind fun t373 => (if t373 = true then (if (l0_1.length : Int) > 60 then (modillionlaw09_SeqPaths.j0 k a1 true a0_0 l0_1) else (modillionlaw09_SeqPaths.j0 k a1 (decide (a0_0 > 12)) a0_0 l0_1)) else (modillionlaw09_SeqPaths.j0 k a1 true a0_0 l0_1))
theorem modillionlaw09_SeqPaths.mono_l : ∀ k, (∀ y0 y1 y2 y3, LeO (modillionlaw09_SeqPaths.j0 k y0 y1 y2 y3) (modillionlaw09_SeqPaths.j0 (k + 1) y0 y1 y2 y3)) ∧ (∀ y0 y1 y2 y3 y4, LeO (modillionlaw09_SeqPaths.l0 k y0 y1 y2 y3 y4) (modillionlaw09_SeqPaths.l0 (k + 1) y0 y1 y2 y3 y4)) ∧ (∀ y0 y1 y2 y3 y4, LeO (modillionlaw09_SeqPaths.l1 k y0 y1 y2 y3 y4) (modillionlaw09_SeqPaths.l1 (k + 1) y0 y1 y2 y3 y4)) ∧ (∀ y0 y1 y2 y3 y4 y5, LeO (modillionlaw09_SeqPaths.j3 k y0 y1 y2 y3 y4 y5) (modillionlaw09_SeqPaths.j3 (k + 1) y0 y1 y2 y3 y4 y5)) ∧ (∀ y0 y1 y2 y3 y4 y5 y6, LeO (modillionlaw09_SeqPaths.l2 k y0 y1 y2 y3 y4 y5 y6) (modillionlaw09_SeqPaths.l2 (k + 1) y0 y1 y2 y3 y4 y5 y6))
 | 0 => ⟨fun _ _ _ _ r h => by simp [modillionlaw09_SeqPaths.j0] at h, fun _ _ _ _ _ r h => by simp [modillionlaw09_SeqPaths.l0] at h, fun _ _ _ _ _ r h => by simp [modillionlaw09_SeqPaths.l1] at h, fun _ _ _ _ _ _ r h => by simp [modillionlaw09_SeqPaths.j3] at h, fun _ _ _ _ _ _ _ r h => by simp [modillionlaw09_SeqPaths.l2] at h⟩
 | k + 1 => by
  obtain ⟨ih0, ih1, ih2, ih3, ih4⟩ := modillionlaw09_SeqPaths.mono_l k
  refine ⟨?_, ?_, ?_, ?_, ?_⟩
  ·intro y0 y1 y2 y3
   unfold modillionlaw09_SeqPaths.j0
   repeat' first
   | (with_reducible exact ih0 _ _ _ _)
   | (with_reducible exact ih1 _ _ _ _ _)
   | (with_reducible exact ih2 _ _ _ _ _)
   | (with_reducible exact ih3 _ _ _ _ _ _)
   | (with_reducible exact ih4 _ _ _ _ _ _ _)
   | (with_reducible exact modillionlaw09_awake.mono _)
   | (with_reducible exact seq_Run.mono _ _ _ _ _ _)
   | (with_reducible exact LeO.refl _)
   | (with_reducible exact LeO.none _)
   | (with_reducible refine LeO.ite ?_ ?_)
   | (with_reducible refine LeO.bind ?_ (fun _ => ?_))
   | exact ih0 _ _ _ _
   | exact ih1 _ _ _ _ _
   | exact ih2 _ _ _ _ _
   | exact ih3 _ _ _ _ _ _
   | exact ih4 _ _ _ _ _ _ _
   | exact modillionlaw09_awake.mono _
   | exact seq_Run.mono _ _ _ _ _ _
   | exact LeO.none _
   | refine LeO.ite ?_ ?_
   | refine LeO.bind ?_ (fun _ => ?_)
  ·intro y0 y1 y2 y3 y4
   unfold modillionlaw09_SeqPaths.l0
   repeat' first
   | (with_reducible exact ih0 _ _ _ _)
   | (with_reducible exact ih1 _ _ _ _ _)
   | (with_reducible exact ih2 _ _ _ _ _)
   | (with_reducible exact ih3 _ _ _ _ _ _)
   | (with_reducible exact ih4 _ _ _ _ _ _ _)
   | (with_reducible exact modillionlaw09_awake.mono _)
   | (with_reducible exact seq_Run.mono _ _ _ _ _ _)
   | (with_reducible exact LeO.refl _)
   | (with_reducible exact LeO.none _)
   | (with_reducible refine LeO.ite ?_ ?_)
   | (with_reducible refine LeO.bind ?_ (fun _ => ?_))
   | exact ih0 _ _ _ _
   | exact ih1 _ _ _ _ _
   | exact ih2 _ _ _ _ _
   | exact ih3 _ _ _ _ _ _
   | exact ih4 _ _ _ _ _ _ _
   | exact modillionlaw09_awake.mono _
   | exact seq_Run.mono _ _ _ _ _ _
   | exact LeO.none _
   | refine LeO.ite ?_ ?_
   | refine LeO.bind ?_ (fun _ => ?_)
  ·intro y0 y1 y2 y3 y4
   unfold modillionlaw09_SeqPaths.l1
   repeat' first
   | (with_reducible exact ih0 _ _ _ _)
   | (with_reducible exact ih1 _ _ _ _ _)
   | (with_reducible exact ih2 _ _ _ _ _)
   | (with_reducible exact ih3 _ _ _ _ _ _)
   | (with_reducible exact ih4 _ _ _ _ _ _ _)
   | (with_reducible exact modillionlaw09_awake.mono _)
   | (with_reducible exact seq_Run.mono _ _ _ _ _ _)
   | (with_reducible exact LeO.refl _)
   | (with_reducible exact LeO.none _)
   | (with_reducible refine LeO.ite ?_ ?_)
   | (with_reducible refine LeO.bind ?_ (fun _ => ?_))
   | exact ih0 _ _ _ _
   | exact ih1 _ _ _ _ _
   | exact ih2 _ _ _ _ _
   | exact ih3 _ _ _ _ _ _
   | exact ih4 _ _ _ _ _ _ _
   | exact modillionlaw09_awake.mono _
   | exact seq_Run.mono _ _ _ _ _ _
   | exact LeO.none _
   | refine LeO.ite ?_ ?_
   | refine LeO.bind ?_ (fun _ => ?_)
  ·intro y0 y1 y2 y3 y4 y5
   unfold modillionlaw09_SeqPaths.j3
   repeat' first
   | (with_reducible exact ih0 _ _ _ _)
   | (with_reducible exact ih1 _ _ _ _ _)
   | (with_reducible exact ih2 _ _ _ _ _)
   | (with_reducible exact ih3 _ _ _ _ _ _)
   | (with_reducible exact ih4 _ _ _ _ _ _ _)
   | (with_reducible exact modillionlaw09_awake.mono _)
   | (with_reducible exact seq_Run.mono _ _ _ _ _ _)
   | (with_reducible exact LeO.refl _)
   | (with_reducible exact LeO.none _)
   | (with_reducible refine LeO.ite ?_ ?_)
   | (with_reducible refine LeO.bind ?_ (fun _ => ?_))
   | exact ih0 _ _ _ _
   | exact ih1 _ _ _ _ _
   | exact ih2 _ _ _ _ _
   | exact ih3 _ _ _ _ _ _
   | exact ih4 _ _ _ _ _ _ _
   | exact modillionlaw09_awake.mono _
   | exact seq_Run.mono _ _ _ _ _ _
   | exact LeO.none _
   | refine LeO.ite ?_ ?_
   | refine LeO.bind ?_ (fun _ => ?_)
  ·intro y0 y1 y2 y3 y4 y5 y6
   unfold modillionlaw09_SeqPaths.l2
   repeat' first
   | (with_reducible exact ih0 _ _ _ _)
   | (with_reducible exact ih1 _ _ _ _ _)
   | (with_reducible exact ih2 _ _ _ _ _)
   | (with_reducible exact ih3 _ _ _ _ _ _)
   | (with_reducible exact ih4 _ _ _ _ _ _ _)
   | (with_reducible exact modillionlaw09_awake.mono _)
   | (with_reducible exact seq_Run.mono _ _ _ _ _ _)
   | (with_reducible exact LeO.refl _)
   | (with_reducible exact LeO.none _)
   | (with_reducible refine LeO.ite ?_ ?_)
   | (with_reducible refine LeO.bind ?_ (fun _ => ?_))
   | exact ih0 _ _ _ _
   | exact ih1 _ _ _ _ _
   | exact ih2 _ _ _ _ _
   | exact ih3 _ _ _ _ _ _
   | exact ih4 _ _ _ _ _ _ _
   | exact modillionlaw09_awake.mono _
   | exact seq_Run.mono _ _ _ _ _ _
   | exact LeO.none _
   | refine LeO.ite ?_ ?_
   | refine LeO.bind ?_ (fun _ => ?_)
theorem modillionlaw09_SeqPaths.mono : ∀ a0 a1 a2 k, LeO (modillionlaw09_SeqPaths.f k a0 a1 a2) (modillionlaw09_SeqPaths.f (k + 1) a0 a1 a2) := by
 intro a0 a1 a2 k
 obtain ⟨ih0, ih1, ih2, ih3, ih4⟩ := modillionlaw09_SeqPaths.mono_l k
 unfold modillionlaw09_SeqPaths.f
 repeat' first
   | (with_reducible exact ih0 _ _ _ _)
   | (with_reducible exact ih1 _ _ _ _ _)
   | (with_reducible exact ih2 _ _ _ _ _)
   | (with_reducible exact ih3 _ _ _ _ _ _)
   | (with_reducible exact ih4 _ _ _ _ _ _ _)
   | (with_reducible exact modillionlaw09_awake.mono _)
   | (with_reducible exact seq_Run.mono _ _ _ _ _ _)
   | (with_reducible exact LeO.refl _)
   | (with_reducible exact LeO.none _)
   | (with_reducible refine LeO.ite ?_ ?_)
   | (with_reducible refine LeO.bind ?_ (fun _ => ?_))
   | exact ih0 _ _ _ _
   | exact ih1 _ _ _ _ _
   | exact ih2 _ _ _ _ _
   | exact ih3 _ _ _ _ _ _
   | exact ih4 _ _ _ _ _ _ _
   | exact modillionlaw09_awake.mono _
   | exact seq_Run.mono _ _ _ _ _ _
   | exact LeO.none _
   | refine LeO.ite ?_ ?_
   | refine LeO.bind ?_ (fun _ => ?_)
set_option maxHeartbeats 8000000 in
set_option maxRecDepth 100000 in
theorem modillionlaw09_SeqPaths.calls (k : Nat) (a0_0 : Int) (A0_1 : Option Addr) (c0_1 : Nat) (l0_1 : List (S45)) (a1 : Int) (r : Bool) (w : World) (hr0_1 : Kd.C k45 w A0_1 l0_1.length l0_1) (hc0_1 : l0_1.length ≤ c0_1) (h : modillionlaw09_SeqPaths.f k a0_0 l0_1 a1 = some r) :
  Calls Try.prog 10 #[.agg #[.int .i64 a0_0, .slice A0_1 l0_1.length c0_1], .int .i64 a1] w fun e w' => e = .returned (.bool r) ∧ Below w.heap.size w w' := by
 have hu24 := Try.underlying24
 have hu26 := Try.underlying26
 have HR0_1 := Aside0.mk hr0_1
 have HC0_1 := Aside0.mk hc0_1
 clear hr0_1 hc0_1
 have HB := Aside0.mk (Below.refl w.heap.size w)
 have H : ((modillionlaw09_awake.f k).bind fun t373 => (if t373 = true then (if (l0_1.length : Int) > 60 then (modillionlaw09_SeqPaths.j0 k a1 true a0_0 l0_1) else (modillionlaw09_SeqPaths.j0 k a1 (decide (a0_0 > 12)) a0_0 l0_1)) else (modillionlaw09_SeqPaths.j0 k a1 true a0_0 l0_1))) = some r := h
 clear h
 have HC3 := Aside0.mk H
 clear H
 go_enter Try.func10, Try.ntmps10
 go_upto_region 1 with (first | ((with_reducible refine gate_dst (N := 2) rfl ?_); (try (refine gate_guard (by rfl) ?_; dsimp only)); refine box_event ?hg (N := 2) ?hd (cs := #[.int .i64 a0_0, .slice A0_1 l0_1.length c0_1]) (t := 24) ?hr ?_; (case hd => rfl); (case hg => rfl); (case hr => first | (go_simp; done) | (go_simp; rfl)); intro gb372 hg w4 hbox hb; have n0_ := Aside0.mk (below_step (by repeat (first | (with_reducible first | exact HB.out | apply below_alloc | apply pw_below_drewN | apply below_drew1) | exact HB.out)) hb); have n1_ := Aside0.mk (hbox); have n2_ := Aside0.mk ((by rw [hg]; exact (below_size (by repeat (first | (with_reducible first | exact HB.out | apply below_alloc | apply pw_below_drewN | apply below_drew1) | exact HB.out))) : w.heap.size ≤ gb372)); have n3_ := Aside0.mk ((by rw [hg]; exact (below_size (by repeat (first | (with_reducible first | exact HB.out | apply below_alloc | apply pw_below_drewN | apply below_drew1) | exact HB.out))) : w.heap.size ≤ gb372)); clear HB; have HB := n0_; have BK372 := n1_; have GW372 := n2_; have GE372 := n3_; clear n0_ n1_ n2_ n3_; clear hb hbox hg))
 repeat (go_quiet (first | ((with_reducible refine gate_dst (N := 2) rfl ?_); (try (refine gate_guard (by rfl) ?_; dsimp only)); refine box_event ?hg (N := 2) ?hd (cs := #[.int .i64 a0_0, .slice A0_1 l0_1.length c0_1]) (t := 24) ?hr ?_; (case hd => rfl); (case hg => rfl); (case hr => first | (go_simp; done) | (go_simp; rfl)); intro gb372 hg w4 hbox hb; have n0_ := Aside0.mk (below_step (by repeat (first | (with_reducible first | exact HB.out | apply below_alloc | apply pw_below_drewN | apply below_drew1) | exact HB.out)) hb); have n1_ := Aside0.mk (hbox); have n2_ := Aside0.mk ((by rw [hg]; exact (below_size (by repeat (first | (with_reducible first | exact HB.out | apply below_alloc | apply pw_below_drewN | apply below_drew1) | exact HB.out))) : w.heap.size ≤ gb372)); have n3_ := Aside0.mk ((by rw [hg]; exact (below_size (by repeat (first | (with_reducible first | exact HB.out | apply below_alloc | apply pw_below_drewN | apply below_drew1) | exact HB.out))) : w.heap.size ≤ gb372)); clear HB; have HB := n0_; have BK372 := n1_; have GW372 := n2_; have GE372 := n3_; clear n0_ n1_ n2_ n3_; clear hb hbox hg)); go_upto_region 1 with (first | ((with_reducible refine gate_dst (N := 2) rfl ?_); (try (refine gate_guard (by rfl) ?_; dsimp only)); refine box_event ?hg (N := 2) ?hd (cs := #[.int .i64 a0_0, .slice A0_1 l0_1.length c0_1]) (t := 24) ?hr ?_; (case hd => rfl); (case hg => rfl); (case hr => first | (go_simp; done) | (go_simp; rfl)); intro gb372 hg w4 hbox hb; have n0_ := Aside0.mk (below_step (by repeat (first | (with_reducible first | exact HB.out | apply below_alloc | apply pw_below_drewN | apply below_drew1) | exact HB.out)) hb); have n1_ := Aside0.mk (hbox); have n2_ := Aside0.mk ((by rw [hg]; exact (below_size (by repeat (first | (with_reducible first | exact HB.out | apply below_alloc | apply pw_below_drewN | apply below_drew1) | exact HB.out))) : w.heap.size ≤ gb372)); have n3_ := Aside0.mk ((by rw [hg]; exact (below_size (by repeat (first | (with_reducible first | exact HB.out | apply below_alloc | apply pw_below_drewN | apply below_drew1) | exact HB.out))) : w.heap.size ≤ gb372)); clear HB; have HB := n0_; have BK372 := n1_; have GW372 := n2_; have GE372 := n3_; clear n0_ n1_ n2_ n3_; clear hb hbox hg)))
 (try simp only [Act.put, List.setIfInBounds_toArray, List.set_cons_zero, List.set_cons_succ])
 go_cut [27] (fun v27 wc => ∃ (kq : Nat) (x27_2 : Bool), v27 = .bool x27_2 ∧ Aside0 (modillionlaw09_SeqPaths.j0 kq a1 x27_2 a0_0 l0_1 = some r) ∧ Aside0 (kq ≤ k) ∧ Aside0 (wc.heap[gb372]? = some (.cells #[.int .i64 a0_0, (.slice A0_1 l0_1.length c0_1)] 24 (0, 0))) ∧ Aside0 (Below w.heap.size w wc))
 case first =>
  have H := HC3.out
  clear HC3
  replace H := Option.bind_eq_some_iff.mp H
  obtain ⟨t373, A50, H⟩ := H
  replace H : (if t373 = true then (if (l0_1.length : Int) > 60 then (modillionlaw09_SeqPaths.j0 k a1 true a0_0 l0_1) else (modillionlaw09_SeqPaths.j0 k a1 (decide (a0_0 > 12)) a0_0 l0_1)) else (modillionlaw09_SeqPaths.j0 k a1 true a0_0 l0_1)) = some r := H
  have A5 := Aside0.mk A50
  clear A50
  by_cases c6 : t373 = true
  ·subst c6
   have H1 : (if (l0_1.length : Int) > 60 then (modillionlaw09_SeqPaths.j0 k a1 true a0_0 l0_1) else (modillionlaw09_SeqPaths.j0 k a1 (decide (a0_0 > 12)) a0_0 l0_1)) = some r := by rw [if_pos rfl] at H; exact H
   clear H
   have H := H1
   clear H1
   by_cases c7 : (l0_1.length : Int) > 60
   ·rw [if_pos c7] at H
    have c7b0 : decide (60 < (l0_1.length : Int)) = true := decide_eq_true c7
    have c7b1 : decide (60 < l0_1.length) = true := decide_eq_true (by omega)
    clear c7
    (first | rw [c7b0] | (simp only [i64_w, i32_w]; rw [c7b0]) | skip)
    have H' := Aside0.mk H
    clear H
    go_wp2_with (first | (go_at_call 11; (with_reducible refine (modillionlaw09_awake.calls k  true _ A5.out).mono ?_); rintro e w8 ⟨rfl, hb⟩; have n0_ := Aside0.mk (blk_below (g := gb372) (o := .cells #[.int .i64 a0_0, .slice A0_1 l0_1.length c0_1] 24 (0, 0)) (by (with_reducible repeat (first | refine blk_drewN ?_ _ | refine blk_drew ?_ | refine blk_alloc ?_ _)); exact BK372.out) hb); have n1_ := Aside0.mk (below_step (by repeat (first | (with_reducible first | exact HB.out | apply below_alloc | apply pw_below_drewN | apply below_drew1 | refine below_set ?_ GE372.out) | exact HB.out)) hb); clear BK372; clear HB; have BK372 := n0_; have HB := n1_; clear n0_ n1_; (try clear hb); (try clear hb2); (try clear hk); (try clear hi); have hcz9_0 : w8.cell? ⟨gb372, 0, none⟩ = some (.int .i64 a0_0) := (blk_cell BK372.out 0).trans rfl; have hcz9_1 : w8.cell? ⟨gb372, 1, none⟩ = some (.slice A0_1 l0_1.length c0_1) := (blk_cell BK372.out 1).trans rfl; have hfz9_0 := blk_frozen BK372.out 0; have hfz9_1 := blk_frozen BK372.out 1))
    repeat (go_quiet (first | (go_at_call 11; (with_reducible refine (modillionlaw09_awake.calls k  true _ A5.out).mono ?_); rintro e w8 ⟨rfl, hb⟩; have n0_ := Aside0.mk (blk_below (g := gb372) (o := .cells #[.int .i64 a0_0, .slice A0_1 l0_1.length c0_1] 24 (0, 0)) (by (with_reducible repeat (first | refine blk_drewN ?_ _ | refine blk_drew ?_ | refine blk_alloc ?_ _)); exact BK372.out) hb); have n1_ := Aside0.mk (below_step (by repeat (first | (with_reducible first | exact HB.out | apply below_alloc | apply pw_below_drewN | apply below_drew1 | refine below_set ?_ GE372.out) | exact HB.out)) hb); clear BK372; clear HB; have BK372 := n0_; have HB := n1_; clear n0_ n1_; (try clear hb); (try clear hb2); (try clear hk); (try clear hi); have hcz9_0 : w8.cell? ⟨gb372, 0, none⟩ = some (.int .i64 a0_0) := (blk_cell BK372.out 0).trans rfl; have hcz9_1 : w8.cell? ⟨gb372, 1, none⟩ = some (.slice A0_1 l0_1.length c0_1) := (blk_cell BK372.out 1).trans rfl; have hfz9_0 := blk_frozen BK372.out 0; have hfz9_1 := blk_frozen BK372.out 1)); try go_wp2_with (first | (go_at_call 11; (with_reducible refine (modillionlaw09_awake.calls k  true _ A5.out).mono ?_); rintro e w8 ⟨rfl, hb⟩; have n0_ := Aside0.mk (blk_below (g := gb372) (o := .cells #[.int .i64 a0_0, .slice A0_1 l0_1.length c0_1] 24 (0, 0)) (by (with_reducible repeat (first | refine blk_drewN ?_ _ | refine blk_drew ?_ | refine blk_alloc ?_ _)); exact BK372.out) hb); have n1_ := Aside0.mk (below_step (by repeat (first | (with_reducible first | exact HB.out | apply below_alloc | apply pw_below_drewN | apply below_drew1 | refine below_set ?_ GE372.out) | exact HB.out)) hb); clear BK372; clear HB; have BK372 := n0_; have HB := n1_; clear n0_ n1_; (try clear hb); (try clear hb2); (try clear hk); (try clear hi); have hcz9_0 : w8.cell? ⟨gb372, 0, none⟩ = some (.int .i64 a0_0) := (blk_cell BK372.out 0).trans rfl; have hcz9_1 : w8.cell? ⟨gb372, 1, none⟩ = some (.slice A0_1 l0_1.length c0_1) := (blk_cell BK372.out 1).trans rfl; have hfz9_0 := blk_frozen BK372.out 0; have hfz9_1 := blk_frozen BK372.out 1)))
    go_meet
    case rel => exact ⟨_, (true), (by first | rfl | (simp; done) | (simp [*]; done)), H', ⟨by first | omega | exact Nat.le_refl _⟩, ⟨by (with_reducible repeat (first | refine blk_drewN ?_ _ | refine blk_drew ?_ | refine blk_alloc ?_ _)); exact BK372.out⟩, ⟨by repeat (first | (with_reducible first | exact HB.out | apply below_alloc | apply pw_below_drewN | apply below_drew1 | refine below_set ?_ GE372.out) | exact HB.out)⟩⟩
   ·rw [if_neg c7] at H
    have c7b0 : decide (60 < (l0_1.length : Int)) = false := decide_eq_false c7
    have c7b1 : decide (60 < l0_1.length) = false := decide_eq_false (by omega)
    clear c7
    (first | rw [c7b0] | (simp only [i64_w, i32_w]; rw [c7b0]) | skip)
    have H' := Aside0.mk H
    clear H
    go_wp2_with (first | (go_at_call 11; (with_reducible refine (modillionlaw09_awake.calls k  true _ A5.out).mono ?_); rintro e w10 ⟨rfl, hb⟩; have n0_ := Aside0.mk (blk_below (g := gb372) (o := .cells #[.int .i64 a0_0, .slice A0_1 l0_1.length c0_1] 24 (0, 0)) (by (with_reducible repeat (first | refine blk_drewN ?_ _ | refine blk_drew ?_ | refine blk_alloc ?_ _)); exact BK372.out) hb); have n1_ := Aside0.mk (below_step (by repeat (first | (with_reducible first | exact HB.out | apply below_alloc | apply pw_below_drewN | apply below_drew1 | refine below_set ?_ GE372.out) | exact HB.out)) hb); clear BK372; clear HB; have BK372 := n0_; have HB := n1_; clear n0_ n1_; (try clear hb); (try clear hb2); (try clear hk); (try clear hi); have hcz11_0 : w10.cell? ⟨gb372, 0, none⟩ = some (.int .i64 a0_0) := (blk_cell BK372.out 0).trans rfl; have hcz11_1 : w10.cell? ⟨gb372, 1, none⟩ = some (.slice A0_1 l0_1.length c0_1) := (blk_cell BK372.out 1).trans rfl; have hfz11_0 := blk_frozen BK372.out 0; have hfz11_1 := blk_frozen BK372.out 1))
    repeat (go_quiet (first | (go_at_call 11; (with_reducible refine (modillionlaw09_awake.calls k  true _ A5.out).mono ?_); rintro e w10 ⟨rfl, hb⟩; have n0_ := Aside0.mk (blk_below (g := gb372) (o := .cells #[.int .i64 a0_0, .slice A0_1 l0_1.length c0_1] 24 (0, 0)) (by (with_reducible repeat (first | refine blk_drewN ?_ _ | refine blk_drew ?_ | refine blk_alloc ?_ _)); exact BK372.out) hb); have n1_ := Aside0.mk (below_step (by repeat (first | (with_reducible first | exact HB.out | apply below_alloc | apply pw_below_drewN | apply below_drew1 | refine below_set ?_ GE372.out) | exact HB.out)) hb); clear BK372; clear HB; have BK372 := n0_; have HB := n1_; clear n0_ n1_; (try clear hb); (try clear hb2); (try clear hk); (try clear hi); have hcz11_0 : w10.cell? ⟨gb372, 0, none⟩ = some (.int .i64 a0_0) := (blk_cell BK372.out 0).trans rfl; have hcz11_1 : w10.cell? ⟨gb372, 1, none⟩ = some (.slice A0_1 l0_1.length c0_1) := (blk_cell BK372.out 1).trans rfl; have hfz11_0 := blk_frozen BK372.out 0; have hfz11_1 := blk_frozen BK372.out 1)); try go_wp2_with (first | (go_at_call 11; (with_reducible refine (modillionlaw09_awake.calls k  true _ A5.out).mono ?_); rintro e w10 ⟨rfl, hb⟩; have n0_ := Aside0.mk (blk_below (g := gb372) (o := .cells #[.int .i64 a0_0, .slice A0_1 l0_1.length c0_1] 24 (0, 0)) (by (with_reducible repeat (first | refine blk_drewN ?_ _ | refine blk_drew ?_ | refine blk_alloc ?_ _)); exact BK372.out) hb); have n1_ := Aside0.mk (below_step (by repeat (first | (with_reducible first | exact HB.out | apply below_alloc | apply pw_below_drewN | apply below_drew1 | refine below_set ?_ GE372.out) | exact HB.out)) hb); clear BK372; clear HB; have BK372 := n0_; have HB := n1_; clear n0_ n1_; (try clear hb); (try clear hb2); (try clear hk); (try clear hi); have hcz11_0 : w10.cell? ⟨gb372, 0, none⟩ = some (.int .i64 a0_0) := (blk_cell BK372.out 0).trans rfl; have hcz11_1 : w10.cell? ⟨gb372, 1, none⟩ = some (.slice A0_1 l0_1.length c0_1) := (blk_cell BK372.out 1).trans rfl; have hfz11_0 := blk_frozen BK372.out 0; have hfz11_1 := blk_frozen BK372.out 1)))
    go_meet
    case rel => exact ⟨_, (decide (a0_0 > 12)), (by first | rfl | (simp; done) | (simp [*]; done)), H', ⟨by first | omega | exact Nat.le_refl _⟩, ⟨by (with_reducible repeat (first | refine blk_drewN ?_ _ | refine blk_drew ?_ | refine blk_alloc ?_ _)); exact BK372.out⟩, ⟨by repeat (first | (with_reducible first | exact HB.out | apply below_alloc | apply pw_below_drewN | apply below_drew1 | refine below_set ?_ GE372.out) | exact HB.out)⟩⟩
  ·replace c6 := Bool.eq_false_iff.mpr c6
   subst c6
   have H1 : (modillionlaw09_SeqPaths.j0 k a1 true a0_0 l0_1) = some r := by rw [if_neg (show ¬ (false = true) by decide)] at H; exact H
   clear H
   have H := H1
   clear H1
   have H' := Aside0.mk H
   clear H
   go_wp2_with (first | (go_at_call 11; (with_reducible refine (modillionlaw09_awake.calls k  false _ A5.out).mono ?_); rintro e w12 ⟨rfl, hb⟩; have n0_ := Aside0.mk (blk_below (g := gb372) (o := .cells #[.int .i64 a0_0, .slice A0_1 l0_1.length c0_1] 24 (0, 0)) (by (with_reducible repeat (first | refine blk_drewN ?_ _ | refine blk_drew ?_ | refine blk_alloc ?_ _)); exact BK372.out) hb); have n1_ := Aside0.mk (below_step (by repeat (first | (with_reducible first | exact HB.out | apply below_alloc | apply pw_below_drewN | apply below_drew1 | refine below_set ?_ GE372.out) | exact HB.out)) hb); clear BK372; clear HB; have BK372 := n0_; have HB := n1_; clear n0_ n1_; (try clear hb); (try clear hb2); (try clear hk); (try clear hi)))
   repeat (go_quiet (first | (go_at_call 11; (with_reducible refine (modillionlaw09_awake.calls k  false _ A5.out).mono ?_); rintro e w12 ⟨rfl, hb⟩; have n0_ := Aside0.mk (blk_below (g := gb372) (o := .cells #[.int .i64 a0_0, .slice A0_1 l0_1.length c0_1] 24 (0, 0)) (by (with_reducible repeat (first | refine blk_drewN ?_ _ | refine blk_drew ?_ | refine blk_alloc ?_ _)); exact BK372.out) hb); have n1_ := Aside0.mk (below_step (by repeat (first | (with_reducible first | exact HB.out | apply below_alloc | apply pw_below_drewN | apply below_drew1 | refine below_set ?_ GE372.out) | exact HB.out)) hb); clear BK372; clear HB; have BK372 := n0_; have HB := n1_; clear n0_ n1_; (try clear hb); (try clear hb2); (try clear hk); (try clear hi))); try go_wp2_with (first | (go_at_call 11; (with_reducible refine (modillionlaw09_awake.calls k  false _ A5.out).mono ?_); rintro e w12 ⟨rfl, hb⟩; have n0_ := Aside0.mk (blk_below (g := gb372) (o := .cells #[.int .i64 a0_0, .slice A0_1 l0_1.length c0_1] 24 (0, 0)) (by (with_reducible repeat (first | refine blk_drewN ?_ _ | refine blk_drew ?_ | refine blk_alloc ?_ _)); exact BK372.out) hb); have n1_ := Aside0.mk (below_step (by repeat (first | (with_reducible first | exact HB.out | apply below_alloc | apply pw_below_drewN | apply below_drew1 | refine below_set ?_ GE372.out) | exact HB.out)) hb); clear BK372; clear HB; have BK372 := n0_; have HB := n1_; clear n0_ n1_; (try clear hb); (try clear hb2); (try clear hk); (try clear hi))))
   go_meet
   case rel => exact ⟨_, (true), (by first | rfl | (simp; done) | (simp [*]; done)), H', ⟨by first | omega | exact Nat.le_refl _⟩, ⟨by (with_reducible repeat (first | refine blk_drewN ?_ _ | refine blk_drew ?_ | refine blk_alloc ?_ _)); exact BK372.out⟩, ⟨by repeat (first | (with_reducible first | exact HB.out | apply below_alloc | apply pw_below_drewN | apply below_drew1 | refine below_set ?_ GE372.out) | exact HB.out)⟩⟩
 case rest =>
  clear HC3
  try clear c1
  try clear p2
  try clear c6
  try clear c7
  try clear c7b0
  try clear c7b1
  try clear c10
  try clear hcz11_0
  try clear hcz11_1
  try clear hcz9_0
  try clear hcz9_1
  try clear hfz11_0
  try clear hfz11_1
  try clear hfz9_0
  try clear hfz9_1
  obtain ⟨kq, x27_2, rfl, HA, HJ2, BK372, HB⟩ := hcut
  cases kq with
  | zero => exact absurd HA.out (by simp [modillionlaw09_SeqPaths.j0])
  | succ kj2 =>
   have H := HA.out
   clear HA
   simp only [modillionlaw09_SeqPaths.j0] at H
   by_cases c13 : x27_2 = true
   ·subst c13
    have H1 : ((modillionlaw09_awake.f kj2).bind fun t374 => (some t374)) = some r := by rw [if_pos rfl] at H; exact H
    clear H
    have H := H1
    clear H1
    replace H := Option.bind_eq_some_iff.mp H
    obtain ⟨t374, A140, H⟩ := H
    replace H : (some t374) = some r := H
    have A14 := Aside0.mk A140
    clear A140
    obtain rfl := Option.some.inj H
    go_wp2_with (first | (go_at_call 11; (with_reducible refine (modillionlaw09_awake.calls kj2  t374 _ A14.out).mono ?_); rintro e w15 ⟨rfl, hb⟩; have n0_ := Aside0.mk (blk_below (g := gb372) (o := .cells #[.int .i64 a0_0, .slice A0_1 l0_1.length c0_1] 24 (0, 0)) (by (with_reducible repeat (first | refine blk_drewN ?_ _ | refine blk_drew ?_ | refine blk_alloc ?_ _)); exact BK372.out) hb); have n1_ := Aside0.mk (below_step (by repeat (first | (with_reducible first | exact HB.out | apply below_alloc | apply pw_below_drewN | apply below_drew1 | refine below_set ?_ GE372.out) | exact HB.out)) hb); clear BK372; clear HB; have BK372 := n0_; have HB := n1_; clear n0_ n1_; (try clear hb); (try clear hb2); (try clear hk); (try clear hi)))
    repeat (go_quiet (first | (go_at_call 11; (with_reducible refine (modillionlaw09_awake.calls kj2  t374 _ A14.out).mono ?_); rintro e w15 ⟨rfl, hb⟩; have n0_ := Aside0.mk (blk_below (g := gb372) (o := .cells #[.int .i64 a0_0, .slice A0_1 l0_1.length c0_1] 24 (0, 0)) (by (with_reducible repeat (first | refine blk_drewN ?_ _ | refine blk_drew ?_ | refine blk_alloc ?_ _)); exact BK372.out) hb); have n1_ := Aside0.mk (below_step (by repeat (first | (with_reducible first | exact HB.out | apply below_alloc | apply pw_below_drewN | apply below_drew1 | refine below_set ?_ GE372.out) | exact HB.out)) hb); clear BK372; clear HB; have BK372 := n0_; have HB := n1_; clear n0_ n1_; (try clear hb); (try clear hb2); (try clear hk); (try clear hi))); try go_wp2_with (first | (go_at_call 11; (with_reducible refine (modillionlaw09_awake.calls kj2  t374 _ A14.out).mono ?_); rintro e w15 ⟨rfl, hb⟩; have n0_ := Aside0.mk (blk_below (g := gb372) (o := .cells #[.int .i64 a0_0, .slice A0_1 l0_1.length c0_1] 24 (0, 0)) (by (with_reducible repeat (first | refine blk_drewN ?_ _ | refine blk_drew ?_ | refine blk_alloc ?_ _)); exact BK372.out) hb); have n1_ := Aside0.mk (below_step (by repeat (first | (with_reducible first | exact HB.out | apply below_alloc | apply pw_below_drewN | apply below_drew1 | refine below_set ?_ GE372.out) | exact HB.out)) hb); clear BK372; clear HB; have BK372 := n0_; have HB := n1_; clear n0_ n1_; (try clear hb); (try clear hb2); (try clear hk); (try clear hi))))
    go_ret
    exact ⟨by first | rfl | (simp [errW_none, errW_some] <;> rfl) | (simp [*, errW_none, errW_some] <;> rfl), by repeat (first | (with_reducible first | exact HB.out | apply below_alloc | apply pw_below_drewN | apply below_drew1 | refine below_set ?_ GE372.out) | exact HB.out)⟩
   ·replace c13 := Bool.eq_false_iff.mpr c13
    subst c13
    have H1 : ((modillionlaw09_Own.f a0_0 l0_1).bind fun bt375 => ((seq_Run.f kj2 bt375.1 bt375.2 (⟨#[115, 115, 115, 112]⟩ : ByteArray) a1 20).bind fun bt379 => (if bt379.2.2 = 0 then (modillionlaw09_SeqPaths.l0 kj2 a1 bt379.1 0 a0_0 l0_1) else (some ((bt379.1.length : Int) == 0))))) = some r := by rw [if_neg (show ¬ (false = true) by decide)] at H; exact H
    clear H
    have H := H1
    clear H1
    replace H := Option.bind_eq_some_iff.mp H
    obtain ⟨⟨t375, t376⟩, A160, H⟩ := H
    replace H : ((seq_Run.f kj2 t375 t376 (⟨#[115, 115, 115, 112]⟩ : ByteArray) a1 20).bind fun bt379 => (if bt379.2.2 = 0 then (modillionlaw09_SeqPaths.l0 kj2 a1 bt379.1 0 a0_0 l0_1) else (some ((bt379.1.length : Int) == 0)))) = some r := H
    have A16 := Aside0.mk A160
    clear A160
    replace H := Option.bind_eq_some_iff.mp H
    obtain ⟨⟨t379, t382, t383⟩, A170, H⟩ := H
    replace H : (if t383 = 0 then (modillionlaw09_SeqPaths.l0 kj2 a1 t379 0 a0_0 l0_1) else (some ((t379.length : Int) == 0))) = some r := H
    have A17 := Aside0.mk A170
    clear A170
    by_cases c18 : t383 = 0
    ·rw [if_pos c18] at H
     have c18b0 : (t383 == 0) = true := beq_iff_eq.mpr c18
     have c18b1 : (t383 != 0) = false := bne_eq_false_iff_eq.mpr c18
     clear c18
     have H' := Aside0.mk H
     clear H
     have hcz19_0 : wc.cell? ⟨gb372, 0, none⟩ = some (.int .i64 a0_0) := (blk_cell BK372.out 0).trans rfl
     have hcz19_1 : wc.cell? ⟨gb372, 1, none⟩ = some (.slice A0_1 l0_1.length c0_1) := (blk_cell BK372.out 1).trans rfl
     have hfz19_0 := blk_frozen BK372.out 0
     have hfz19_1 := blk_frozen BK372.out 1
     go_wp2_with (first | (go_at_call 13; (with_reducible refine (modillionlaw09_Own.calls a0_0 _ _ l0_1 t375 t376 _ ?side1 ?side2 A16.out).mono ?_); (case side1 => repeat (first | exact (Kd.C_below HR0_1.out HB.out) | (with_reducible refine Kd.C_alloc ?_ _) | (with_reducible refine Kd.C_drewN ?_ _) | (with_reducible refine Kd.C_drew ?_))); (case side2 => exact HC0_1.out); rintro e w20 ⟨v377, rfl, ho0, hb⟩; have n0_ := Aside0.mk (Kd.R_lower ho0 (below_size (by repeat (first | (with_reducible first | exact HB.out | apply below_alloc | apply pw_below_drewN | apply below_drew1 | refine below_set ?_ GE372.out) | exact HB.out)))); have n1_ := Aside0.mk (blk_below (g := gb372) (o := .cells #[.int .i64 a0_0, .slice A0_1 l0_1.length c0_1] 24 (0, 0)) (by (with_reducible repeat (first | refine blk_drewN ?_ _ | refine blk_drew ?_ | refine blk_alloc ?_ _)); exact BK372.out) hb); have n2_ := Aside0.mk (below_step (by repeat (first | (with_reducible first | exact HB.out | apply below_alloc | apply pw_below_drewN | apply below_drew1 | refine below_set ?_ GE372.out) | exact HB.out)) hb); clear BK372; clear HB; have HO378 := n0_; have BK372 := n1_; have HB := n2_; clear n0_ n1_ n2_; (try clear hb); (try clear hb2); (try clear hk); (try clear hi); (try clear ho0); obtain ⟨Ao21, co21, eo21⟩ := Kd.R_slice HO378.out; subst eo21) | (go_at_call 14; (with_reducible refine (seq_Run.calls kj2 t375 _ _ t376 (⟨#[115, 115, 115, 112]⟩ : ByteArray) a1 20 t379 t382 t383 _ ?side1 ?side2 A17.out).mono ?_); (case side1 => repeat (first | exact (Kd.R_reads' HO378.out).2.2 | (with_reducible refine Kd.C_alloc ?_ _) | (with_reducible refine Kd.C_drewN ?_ _) | (with_reducible refine Kd.C_drew ?_))); (case side2 => exact (Kd.R_reads' HO378.out).2.1); rintro e w22 ⟨v380, rfl, ho0, hb⟩; have n0_ := Aside0.mk (Kd.R_below (by (with_reducible repeat (first | apply Kd.R_alloc | apply Kd.R_drewN | apply Kd.R_drew)); exact HO378.out) hb); have n1_ := Aside0.mk (Kd.R_lower ho0 (below_size (by repeat (first | (with_reducible first | exact HB.out | apply below_alloc | apply pw_below_drewN | apply below_drew1 | refine below_set ?_ GE372.out) | exact HB.out)))); have n2_ := Aside0.mk (blk_below (g := gb372) (o := .cells #[.int .i64 a0_0, .slice A0_1 l0_1.length c0_1] 24 (0, 0)) (by (with_reducible repeat (first | refine blk_drewN ?_ _ | refine blk_drew ?_ | refine blk_alloc ?_ _)); exact BK372.out) hb); have n3_ := Aside0.mk (below_step (by repeat (first | (with_reducible first | exact HB.out | apply below_alloc | apply pw_below_drewN | apply below_drew1 | refine below_set ?_ GE372.out) | exact HB.out)) hb); clear HO378; clear BK372; clear HB; have HO378 := n0_; have HO381 := n1_; have BK372 := n2_; have HB := n3_; clear n0_ n1_ n2_ n3_; (try clear hb); (try clear hb2); (try clear hk); (try clear hi); (try clear ho0)))
     repeat (go_quiet (first | (go_at_call 13; (with_reducible refine (modillionlaw09_Own.calls a0_0 _ _ l0_1 t375 t376 _ ?side1 ?side2 A16.out).mono ?_); (case side1 => repeat (first | exact (Kd.C_below HR0_1.out HB.out) | (with_reducible refine Kd.C_alloc ?_ _) | (with_reducible refine Kd.C_drewN ?_ _) | (with_reducible refine Kd.C_drew ?_))); (case side2 => exact HC0_1.out); rintro e w20 ⟨v377, rfl, ho0, hb⟩; have n0_ := Aside0.mk (Kd.R_lower ho0 (below_size (by repeat (first | (with_reducible first | exact HB.out | apply below_alloc | apply pw_below_drewN | apply below_drew1 | refine below_set ?_ GE372.out) | exact HB.out)))); have n1_ := Aside0.mk (blk_below (g := gb372) (o := .cells #[.int .i64 a0_0, .slice A0_1 l0_1.length c0_1] 24 (0, 0)) (by (with_reducible repeat (first | refine blk_drewN ?_ _ | refine blk_drew ?_ | refine blk_alloc ?_ _)); exact BK372.out) hb); have n2_ := Aside0.mk (below_step (by repeat (first | (with_reducible first | exact HB.out | apply below_alloc | apply pw_below_drewN | apply below_drew1 | refine below_set ?_ GE372.out) | exact HB.out)) hb); clear BK372; clear HB; have HO378 := n0_; have BK372 := n1_; have HB := n2_; clear n0_ n1_ n2_; (try clear hb); (try clear hb2); (try clear hk); (try clear hi); (try clear ho0); obtain ⟨Ao21, co21, eo21⟩ := Kd.R_slice HO378.out; subst eo21) | (go_at_call 14; (with_reducible refine (seq_Run.calls kj2 t375 _ _ t376 (⟨#[115, 115, 115, 112]⟩ : ByteArray) a1 20 t379 t382 t383 _ ?side1 ?side2 A17.out).mono ?_); (case side1 => repeat (first | exact (Kd.R_reads' HO378.out).2.2 | (with_reducible refine Kd.C_alloc ?_ _) | (with_reducible refine Kd.C_drewN ?_ _) | (with_reducible refine Kd.C_drew ?_))); (case side2 => exact (Kd.R_reads' HO378.out).2.1); rintro e w22 ⟨v380, rfl, ho0, hb⟩; have n0_ := Aside0.mk (Kd.R_below (by (with_reducible repeat (first | apply Kd.R_alloc | apply Kd.R_drewN | apply Kd.R_drew)); exact HO378.out) hb); have n1_ := Aside0.mk (Kd.R_lower ho0 (below_size (by repeat (first | (with_reducible first | exact HB.out | apply below_alloc | apply pw_below_drewN | apply below_drew1 | refine below_set ?_ GE372.out) | exact HB.out)))); have n2_ := Aside0.mk (blk_below (g := gb372) (o := .cells #[.int .i64 a0_0, .slice A0_1 l0_1.length c0_1] 24 (0, 0)) (by (with_reducible repeat (first | refine blk_drewN ?_ _ | refine blk_drew ?_ | refine blk_alloc ?_ _)); exact BK372.out) hb); have n3_ := Aside0.mk (below_step (by repeat (first | (with_reducible first | exact HB.out | apply below_alloc | apply pw_below_drewN | apply below_drew1 | refine below_set ?_ GE372.out) | exact HB.out)) hb); clear HO378; clear BK372; clear HB; have HO378 := n0_; have HO381 := n1_; have BK372 := n2_; have HB := n3_; clear n0_ n1_ n2_ n3_; (try clear hb); (try clear hb2); (try clear hk); (try clear hi); (try clear ho0))); try go_wp2_with (first | (go_at_call 13; (with_reducible refine (modillionlaw09_Own.calls a0_0 _ _ l0_1 t375 t376 _ ?side1 ?side2 A16.out).mono ?_); (case side1 => repeat (first | exact (Kd.C_below HR0_1.out HB.out) | (with_reducible refine Kd.C_alloc ?_ _) | (with_reducible refine Kd.C_drewN ?_ _) | (with_reducible refine Kd.C_drew ?_))); (case side2 => exact HC0_1.out); rintro e w20 ⟨v377, rfl, ho0, hb⟩; have n0_ := Aside0.mk (Kd.R_lower ho0 (below_size (by repeat (first | (with_reducible first | exact HB.out | apply below_alloc | apply pw_below_drewN | apply below_drew1 | refine below_set ?_ GE372.out) | exact HB.out)))); have n1_ := Aside0.mk (blk_below (g := gb372) (o := .cells #[.int .i64 a0_0, .slice A0_1 l0_1.length c0_1] 24 (0, 0)) (by (with_reducible repeat (first | refine blk_drewN ?_ _ | refine blk_drew ?_ | refine blk_alloc ?_ _)); exact BK372.out) hb); have n2_ := Aside0.mk (below_step (by repeat (first | (with_reducible first | exact HB.out | apply below_alloc | apply pw_below_drewN | apply below_drew1 | refine below_set ?_ GE372.out) | exact HB.out)) hb); clear BK372; clear HB; have HO378 := n0_; have BK372 := n1_; have HB := n2_; clear n0_ n1_ n2_; (try clear hb); (try clear hb2); (try clear hk); (try clear hi); (try clear ho0); obtain ⟨Ao21, co21, eo21⟩ := Kd.R_slice HO378.out; subst eo21) | (go_at_call 14; (with_reducible refine (seq_Run.calls kj2 t375 _ _ t376 (⟨#[115, 115, 115, 112]⟩ : ByteArray) a1 20 t379 t382 t383 _ ?side1 ?side2 A17.out).mono ?_); (case side1 => repeat (first | exact (Kd.R_reads' HO378.out).2.2 | (with_reducible refine Kd.C_alloc ?_ _) | (with_reducible refine Kd.C_drewN ?_ _) | (with_reducible refine Kd.C_drew ?_))); (case side2 => exact (Kd.R_reads' HO378.out).2.1); rintro e w22 ⟨v380, rfl, ho0, hb⟩; have n0_ := Aside0.mk (Kd.R_below (by (with_reducible repeat (first | apply Kd.R_alloc | apply Kd.R_drewN | apply Kd.R_drew)); exact HO378.out) hb); have n1_ := Aside0.mk (Kd.R_lower ho0 (below_size (by repeat (first | (with_reducible first | exact HB.out | apply below_alloc | apply pw_below_drewN | apply below_drew1 | refine below_set ?_ GE372.out) | exact HB.out)))); have n2_ := Aside0.mk (blk_below (g := gb372) (o := .cells #[.int .i64 a0_0, .slice A0_1 l0_1.length c0_1] 24 (0, 0)) (by (with_reducible repeat (first | refine blk_drewN ?_ _ | refine blk_drew ?_ | refine blk_alloc ?_ _)); exact BK372.out) hb); have n3_ := Aside0.mk (below_step (by repeat (first | (with_reducible first | exact HB.out | apply below_alloc | apply pw_below_drewN | apply below_drew1 | refine below_set ?_ GE372.out) | exact HB.out)) hb); clear HO378; clear BK372; clear HB; have HO378 := n0_; have HO381 := n1_; have BK372 := n2_; have HB := n3_; clear n0_ n1_ n2_ n3_; (try clear hb); (try clear hb2); (try clear hk); (try clear hi); (try clear ho0))))
     go_loopg [8] kj2 (fun kq v8 w' => ∃ (x8_2 : Int), v8 = .int .i64 x8_2 ∧ Aside0 (modillionlaw09_SeqPaths.l0 kq a1 t379 x8_2 a0_0 l0_1 = some r) ∧ Aside0 (kq ≤ kj2) ∧ Aside0 (Kd.R (Kd.int .i64) 2 w' w.heap.size (fun _ => True) v380 t379) ∧ Aside0 (w'.heap[gb372]? = some (.cells #[.int .i64 a0_0, (.slice A0_1 l0_1.length c0_1)] 24 (0, 0))) ∧ Aside0 (Below w.heap.size w w'))
     case atStart => exact ⟨(0), (by first | rfl | (simp; done) | (simp [*]; done)), H', ⟨Nat.le_refl _⟩, ⟨by (with_reducible repeat (first | apply Kd.R_alloc | apply Kd.R_drewN | apply Kd.R_drew)); exact HO381.out⟩, ⟨by (with_reducible repeat (first | refine blk_drewN ?_ _ | refine blk_drew ?_ | refine blk_alloc ?_ _)); exact BK372.out⟩, ⟨by repeat (first | (with_reducible first | exact HB.out | apply below_alloc | apply pw_below_drewN | apply below_drew1 | refine below_set ?_ GE372.out) | exact HB.out)⟩⟩
     case round =>
      clear H'
      try clear c1
      try clear p2
      try clear c6
      try clear c7
      try clear c7b0
      try clear c7b1
      try clear c10
      try clear c13
      try clear c18
      try clear c18b0
      try clear c18b1
      try clear hcz11_0
      try clear hcz11_1
      try clear hcz19_0
      try clear hcz19_1
      try clear hcz9_0
      try clear hcz9_1
      try clear hfz11_0
      try clear hfz11_1
      try clear hfz19_0
      try clear hfz19_1
      try clear hfz9_0
      try clear hfz9_1
      try clear p2
      obtain ⟨x8_2, rfl, HA, HK2, HO_5, BK372, HB⟩ := hrel
      cases gk with
      | zero => exact absurd HA.out (by simp [modillionlaw09_SeqPaths.l0])
      | succ k2 =>
       have H := HA.out
       clear HA
       simp only [modillionlaw09_SeqPaths.l0] at H
       by_cases c23 : x8_2 < (l0_1.length : Int)
       ·rw [if_pos c23] at H
        have c23b0 := decide_eq_true c23
        clear c23
        obtain ⟨c24, H⟩ := iteS18 H
        have c24b0 := decide_eq_true c24
        clear c24
        obtain ⟨c25, H⟩ := iteS18 H
        have c25b0 := decide_eq_true c25
        clear c25
        obtain ⟨c26, H⟩ := iteS18 H
        have c26b0 := decide_eq_true c26
        clear c26
        obtain ⟨c27, H⟩ := iteS18 H
        have c27b0 := decide_eq_true c27
        clear c27
        obtain ⟨c28, H⟩ := iteS18 H
        have c28b0 := decide_eq_true c28
        clear c28
        by_cases c29 : (rd t379 ((rd_T45 l0_1 x8_2).f0)) ≥ 0
        ·rw [if_pos c29] at H
         have c29b0 : decide (0 ≤ (rd t379 ((rd_T45 l0_1 x8_2).f0))) = true := decide_eq_true c29
         clear c29
         by_cases c30 : (rd t379 ((rd_T45 l0_1 x8_2).f1)) < 0
         ·rw [if_pos c30] at H
          have c30b0 := decide_eq_true c30
          clear c30
          obtain rfl := Option.some.inj H
          have hcz31_0 : wr.cell? ⟨gb372, 0, none⟩ = some (.int .i64 a0_0) := (blk_cell BK372.out 0).trans rfl
          have hcz31_1 : wr.cell? ⟨gb372, 1, none⟩ = some (.slice A0_1 l0_1.length c0_1) := (blk_cell BK372.out 1).trans rfl
          have hfz31_0 := blk_frozen BK372.out 0
          have hfz31_1 := blk_frozen BK372.out 1
          have p384 : 0 ≤ (x8_2 : Int) := of_decide_eq_true (by first | (with_reducible assumption) | assumption)
          have q384 : x8_2 < (l0_1.length : Int) := of_decide_eq_true (by first | (with_reducible assumption) | assumption)
          obtain ⟨ad384, e384, hx384_0, hx384_1, hx384_2⟩ := at_T45 HR0_1.out x8_2 p384 q384
          cases e384
          replace hx384_0 := (HB.out.cell (World.block_lt_of_cell? w _ hx384_0)).trans hx384_0
          replace hx384_1 := (HB.out.cell (World.block_lt_of_cell? w _ hx384_1)).trans hx384_1
          replace hx384_2 := (HB.out.cell (World.block_lt_of_cell? w _ hx384_2)).trans hx384_2
          replace p384 := eq_true p384
          replace q384 := eq_true q384
          obtain ⟨Ao32, co32, eo32⟩ := Kd.R_slice HO_5.out
          subst eo32
          have p385 : 0 ≤ (((rd_T45 l0_1 x8_2).f0) : Int) := of_decide_eq_true (by first | (with_reducible assumption) | assumption)
          have q385 : ((rd_T45 l0_1 x8_2).f0) < (t379.length : Int) := of_decide_eq_true (by first | (with_reducible assumption) | assumption)
          obtain ⟨ad385, e385, hx385_0⟩ := Kd.at_int (Kd.R_reads' HO_5.out).2.2 ((rd_T45 l0_1 x8_2).f0) p385 q385
          cases e385
          replace p385 := eq_true p385
          replace q385 := eq_true q385
          have p386 : 0 ≤ (x8_2 : Int) := of_decide_eq_true (by first | (with_reducible assumption) | assumption)
          have q386 : x8_2 < (l0_1.length : Int) := of_decide_eq_true (by first | (with_reducible assumption) | assumption)
          obtain ⟨ad386, e386, hx386_0, hx386_1, hx386_2⟩ := at_T45 HR0_1.out x8_2 p386 q386
          obtain rfl : ad384 = ad386 := (by injection e386)
          replace hx386_0 := (HB.out.cell (World.block_lt_of_cell? w _ hx386_0)).trans hx386_0
          replace hx386_1 := (HB.out.cell (World.block_lt_of_cell? w _ hx386_1)).trans hx386_1
          replace hx386_2 := (HB.out.cell (World.block_lt_of_cell? w _ hx386_2)).trans hx386_2
          replace p386 := eq_true p386
          replace q386 := eq_true q386
          have p387 : 0 ≤ (((rd_T45 l0_1 x8_2).f1) : Int) := of_decide_eq_true (by first | (with_reducible assumption) | assumption)
          have q387 : ((rd_T45 l0_1 x8_2).f1) < (t379.length : Int) := of_decide_eq_true (by first | (with_reducible assumption) | assumption)
          obtain ⟨ad387, e387, hx387_0⟩ := Kd.at_int (Kd.R_reads' HO_5.out).2.2 ((rd_T45 l0_1 x8_2).f1) p387 q387
          obtain rfl : ad385 = ad387 := (by injection e387)
          replace p387 := eq_true p387
          replace q387 := eq_true q387
          go_wp2
          repeat (go_quiet (fail); try go_wp2)
          go_ret
          exact ⟨by first | rfl | (simp [errW_none, errW_some] <;> rfl) | (simp [*, errW_none, errW_some] <;> rfl), by repeat (first | (with_reducible first | exact HB.out | apply below_alloc | apply pw_below_drewN | apply below_drew1 | refine below_set ?_ GE372.out) | exact HB.out)⟩
         ·rw [if_neg c30] at H
          have c30b0 := decide_eq_false c30
          clear c30
          by_cases c33 : (rd t379 ((rd_T45 l0_1 x8_2).f1)) > (wrap64 ((rd t379 ((rd_T45 l0_1 x8_2).f0)) + ((rd_T45 l0_1 x8_2).f2)))
          ·rw [if_pos c33] at H
           have c33b0 : decide ((wrap64 ((rd t379 ((rd_T45 l0_1 x8_2).f0)) + ((rd_T45 l0_1 x8_2).f2))) < (rd t379 ((rd_T45 l0_1 x8_2).f1))) = true := decide_eq_true c33
           clear c33
           obtain rfl := Option.some.inj H
           have hcz34_0 : wr.cell? ⟨gb372, 0, none⟩ = some (.int .i64 a0_0) := (blk_cell BK372.out 0).trans rfl
           have hcz34_1 : wr.cell? ⟨gb372, 1, none⟩ = some (.slice A0_1 l0_1.length c0_1) := (blk_cell BK372.out 1).trans rfl
           have hfz34_0 := blk_frozen BK372.out 0
           have hfz34_1 := blk_frozen BK372.out 1
           have p384 : 0 ≤ (x8_2 : Int) := of_decide_eq_true (by first | (with_reducible assumption) | assumption)
           have q384 : x8_2 < (l0_1.length : Int) := of_decide_eq_true (by first | (with_reducible assumption) | assumption)
           obtain ⟨ad384, e384, hx384_0, hx384_1, hx384_2⟩ := at_T45 HR0_1.out x8_2 p384 q384
           cases e384
           replace hx384_0 := (HB.out.cell (World.block_lt_of_cell? w _ hx384_0)).trans hx384_0
           replace hx384_1 := (HB.out.cell (World.block_lt_of_cell? w _ hx384_1)).trans hx384_1
           replace hx384_2 := (HB.out.cell (World.block_lt_of_cell? w _ hx384_2)).trans hx384_2
           replace p384 := eq_true p384
           replace q384 := eq_true q384
           obtain ⟨Ao35, co35, eo35⟩ := Kd.R_slice HO_5.out
           subst eo35
           have p385 : 0 ≤ (((rd_T45 l0_1 x8_2).f0) : Int) := of_decide_eq_true (by first | (with_reducible assumption) | assumption)
           have q385 : ((rd_T45 l0_1 x8_2).f0) < (t379.length : Int) := of_decide_eq_true (by first | (with_reducible assumption) | assumption)
           obtain ⟨ad385, e385, hx385_0⟩ := Kd.at_int (Kd.R_reads' HO_5.out).2.2 ((rd_T45 l0_1 x8_2).f0) p385 q385
           cases e385
           replace p385 := eq_true p385
           replace q385 := eq_true q385
           have p386 : 0 ≤ (x8_2 : Int) := of_decide_eq_true (by first | (with_reducible assumption) | assumption)
           have q386 : x8_2 < (l0_1.length : Int) := of_decide_eq_true (by first | (with_reducible assumption) | assumption)
           obtain ⟨ad386, e386, hx386_0, hx386_1, hx386_2⟩ := at_T45 HR0_1.out x8_2 p386 q386
           obtain rfl : ad384 = ad386 := (by injection e386)
           replace hx386_0 := (HB.out.cell (World.block_lt_of_cell? w _ hx386_0)).trans hx386_0
           replace hx386_1 := (HB.out.cell (World.block_lt_of_cell? w _ hx386_1)).trans hx386_1
           replace hx386_2 := (HB.out.cell (World.block_lt_of_cell? w _ hx386_2)).trans hx386_2
           replace p386 := eq_true p386
           replace q386 := eq_true q386
           have p387 : 0 ≤ (((rd_T45 l0_1 x8_2).f1) : Int) := of_decide_eq_true (by first | (with_reducible assumption) | assumption)
           have q387 : ((rd_T45 l0_1 x8_2).f1) < (t379.length : Int) := of_decide_eq_true (by first | (with_reducible assumption) | assumption)
           obtain ⟨ad387, e387, hx387_0⟩ := Kd.at_int (Kd.R_reads' HO_5.out).2.2 ((rd_T45 l0_1 x8_2).f1) p387 q387
           obtain rfl : ad385 = ad387 := (by injection e387)
           replace p387 := eq_true p387
           replace q387 := eq_true q387
           have p388 : 0 ≤ (x8_2 : Int) := of_decide_eq_true (by first | (with_reducible assumption) | assumption)
           have q388 : x8_2 < (l0_1.length : Int) := of_decide_eq_true (by first | (with_reducible assumption) | assumption)
           obtain ⟨ad388, e388, hx388_0, hx388_1, hx388_2⟩ := at_T45 HR0_1.out x8_2 p388 q388
           obtain rfl : ad384 = ad388 := (by injection e388)
           replace hx388_0 := (HB.out.cell (World.block_lt_of_cell? w _ hx388_0)).trans hx388_0
           replace hx388_1 := (HB.out.cell (World.block_lt_of_cell? w _ hx388_1)).trans hx388_1
           replace hx388_2 := (HB.out.cell (World.block_lt_of_cell? w _ hx388_2)).trans hx388_2
           replace p388 := eq_true p388
           replace q388 := eq_true q388
           go_wp2
           repeat (go_quiet (fail); try go_wp2)
           go_ret
           exact ⟨by first | rfl | (simp [errW_none, errW_some] <;> rfl) | (simp [*, errW_none, errW_some] <;> rfl), by repeat (first | (with_reducible first | exact HB.out | apply below_alloc | apply pw_below_drewN | apply below_drew1 | refine below_set ?_ GE372.out) | exact HB.out)⟩
          ·rw [if_neg c33] at H
           have c33b0 : decide ((wrap64 ((rd t379 ((rd_T45 l0_1 x8_2).f0)) + ((rd_T45 l0_1 x8_2).f2))) < (rd t379 ((rd_T45 l0_1 x8_2).f1))) = false := decide_eq_false c33
           clear c33
           have H' := Aside0.mk H
           clear H
           have hcz36_0 : wr.cell? ⟨gb372, 0, none⟩ = some (.int .i64 a0_0) := (blk_cell BK372.out 0).trans rfl
           have hcz36_1 : wr.cell? ⟨gb372, 1, none⟩ = some (.slice A0_1 l0_1.length c0_1) := (blk_cell BK372.out 1).trans rfl
           have hfz36_0 := blk_frozen BK372.out 0
           have hfz36_1 := blk_frozen BK372.out 1
           have p384 : 0 ≤ (x8_2 : Int) := of_decide_eq_true (by first | (with_reducible assumption) | assumption)
           have q384 : x8_2 < (l0_1.length : Int) := of_decide_eq_true (by first | (with_reducible assumption) | assumption)
           obtain ⟨ad384, e384, hx384_0, hx384_1, hx384_2⟩ := at_T45 HR0_1.out x8_2 p384 q384
           cases e384
           replace hx384_0 := (HB.out.cell (World.block_lt_of_cell? w _ hx384_0)).trans hx384_0
           replace hx384_1 := (HB.out.cell (World.block_lt_of_cell? w _ hx384_1)).trans hx384_1
           replace hx384_2 := (HB.out.cell (World.block_lt_of_cell? w _ hx384_2)).trans hx384_2
           replace p384 := eq_true p384
           replace q384 := eq_true q384
           obtain ⟨Ao37, co37, eo37⟩ := Kd.R_slice HO_5.out
           subst eo37
           have p385 : 0 ≤ (((rd_T45 l0_1 x8_2).f0) : Int) := of_decide_eq_true (by first | (with_reducible assumption) | assumption)
           have q385 : ((rd_T45 l0_1 x8_2).f0) < (t379.length : Int) := of_decide_eq_true (by first | (with_reducible assumption) | assumption)
           obtain ⟨ad385, e385, hx385_0⟩ := Kd.at_int (Kd.R_reads' HO_5.out).2.2 ((rd_T45 l0_1 x8_2).f0) p385 q385
           cases e385
           replace p385 := eq_true p385
           replace q385 := eq_true q385
           have p386 : 0 ≤ (x8_2 : Int) := of_decide_eq_true (by first | (with_reducible assumption) | assumption)
           have q386 : x8_2 < (l0_1.length : Int) := of_decide_eq_true (by first | (with_reducible assumption) | assumption)
           obtain ⟨ad386, e386, hx386_0, hx386_1, hx386_2⟩ := at_T45 HR0_1.out x8_2 p386 q386
           obtain rfl : ad384 = ad386 := (by injection e386)
           replace hx386_0 := (HB.out.cell (World.block_lt_of_cell? w _ hx386_0)).trans hx386_0
           replace hx386_1 := (HB.out.cell (World.block_lt_of_cell? w _ hx386_1)).trans hx386_1
           replace hx386_2 := (HB.out.cell (World.block_lt_of_cell? w _ hx386_2)).trans hx386_2
           replace p386 := eq_true p386
           replace q386 := eq_true q386
           have p387 : 0 ≤ (((rd_T45 l0_1 x8_2).f1) : Int) := of_decide_eq_true (by first | (with_reducible assumption) | assumption)
           have q387 : ((rd_T45 l0_1 x8_2).f1) < (t379.length : Int) := of_decide_eq_true (by first | (with_reducible assumption) | assumption)
           obtain ⟨ad387, e387, hx387_0⟩ := Kd.at_int (Kd.R_reads' HO_5.out).2.2 ((rd_T45 l0_1 x8_2).f1) p387 q387
           obtain rfl : ad385 = ad387 := (by injection e387)
           replace p387 := eq_true p387
           replace q387 := eq_true q387
           have p388 : 0 ≤ (x8_2 : Int) := of_decide_eq_true (by first | (with_reducible assumption) | assumption)
           have q388 : x8_2 < (l0_1.length : Int) := of_decide_eq_true (by first | (with_reducible assumption) | assumption)
           obtain ⟨ad388, e388, hx388_0, hx388_1, hx388_2⟩ := at_T45 HR0_1.out x8_2 p388 q388
           obtain rfl : ad384 = ad388 := (by injection e388)
           replace hx388_0 := (HB.out.cell (World.block_lt_of_cell? w _ hx388_0)).trans hx388_0
           replace hx388_1 := (HB.out.cell (World.block_lt_of_cell? w _ hx388_1)).trans hx388_1
           replace hx388_2 := (HB.out.cell (World.block_lt_of_cell? w _ hx388_2)).trans hx388_2
           replace p388 := eq_true p388
           replace q388 := eq_true q388
           go_wp2
           repeat (go_quiet (fail); try go_wp2)
           go_roundg k2
           case measure => have := HJ2.out; have := HK2.out; omega
           case rel => exact ⟨(wrap64 (x8_2 + 1)), (by first | rfl | (simp; done) | (simp [*]; done)), H', ⟨by have := HJ2.out; have := HK2.out; omega⟩, ⟨by (with_reducible repeat (first | apply Kd.R_alloc | apply Kd.R_drewN | apply Kd.R_drew)); exact HO_5.out⟩, ⟨by (with_reducible repeat (first | refine blk_drewN ?_ _ | refine blk_drew ?_ | refine blk_alloc ?_ _)); exact BK372.out⟩, ⟨by repeat (first | (with_reducible first | exact HB.out | apply below_alloc | apply pw_below_drewN | apply below_drew1 | refine below_set ?_ GE372.out) | exact HB.out)⟩⟩
        ·rw [if_neg c29] at H
         have c29b0 : decide (0 ≤ (rd t379 ((rd_T45 l0_1 x8_2).f0))) = false := decide_eq_false c29
         clear c29
         have H' := Aside0.mk H
         clear H
         have hcz38_0 : wr.cell? ⟨gb372, 0, none⟩ = some (.int .i64 a0_0) := (blk_cell BK372.out 0).trans rfl
         have hcz38_1 : wr.cell? ⟨gb372, 1, none⟩ = some (.slice A0_1 l0_1.length c0_1) := (blk_cell BK372.out 1).trans rfl
         have hfz38_0 := blk_frozen BK372.out 0
         have hfz38_1 := blk_frozen BK372.out 1
         have p384 : 0 ≤ (x8_2 : Int) := of_decide_eq_true (by first | (with_reducible assumption) | assumption)
         have q384 : x8_2 < (l0_1.length : Int) := of_decide_eq_true (by first | (with_reducible assumption) | assumption)
         obtain ⟨ad384, e384, hx384_0, hx384_1, hx384_2⟩ := at_T45 HR0_1.out x8_2 p384 q384
         cases e384
         replace hx384_0 := (HB.out.cell (World.block_lt_of_cell? w _ hx384_0)).trans hx384_0
         replace hx384_1 := (HB.out.cell (World.block_lt_of_cell? w _ hx384_1)).trans hx384_1
         replace hx384_2 := (HB.out.cell (World.block_lt_of_cell? w _ hx384_2)).trans hx384_2
         replace p384 := eq_true p384
         replace q384 := eq_true q384
         obtain ⟨Ao39, co39, eo39⟩ := Kd.R_slice HO_5.out
         subst eo39
         have p385 : 0 ≤ (((rd_T45 l0_1 x8_2).f0) : Int) := of_decide_eq_true (by first | (with_reducible assumption) | assumption)
         have q385 : ((rd_T45 l0_1 x8_2).f0) < (t379.length : Int) := of_decide_eq_true (by first | (with_reducible assumption) | assumption)
         obtain ⟨ad385, e385, hx385_0⟩ := Kd.at_int (Kd.R_reads' HO_5.out).2.2 ((rd_T45 l0_1 x8_2).f0) p385 q385
         cases e385
         replace p385 := eq_true p385
         replace q385 := eq_true q385
         have p386 : 0 ≤ (x8_2 : Int) := of_decide_eq_true (by first | (with_reducible assumption) | assumption)
         have q386 : x8_2 < (l0_1.length : Int) := of_decide_eq_true (by first | (with_reducible assumption) | assumption)
         obtain ⟨ad386, e386, hx386_0, hx386_1, hx386_2⟩ := at_T45 HR0_1.out x8_2 p386 q386
         obtain rfl : ad384 = ad386 := (by injection e386)
         replace hx386_0 := (HB.out.cell (World.block_lt_of_cell? w _ hx386_0)).trans hx386_0
         replace hx386_1 := (HB.out.cell (World.block_lt_of_cell? w _ hx386_1)).trans hx386_1
         replace hx386_2 := (HB.out.cell (World.block_lt_of_cell? w _ hx386_2)).trans hx386_2
         replace p386 := eq_true p386
         replace q386 := eq_true q386
         have p387 : 0 ≤ (((rd_T45 l0_1 x8_2).f1) : Int) := of_decide_eq_true (by first | (with_reducible assumption) | assumption)
         have q387 : ((rd_T45 l0_1 x8_2).f1) < (t379.length : Int) := of_decide_eq_true (by first | (with_reducible assumption) | assumption)
         obtain ⟨ad387, e387, hx387_0⟩ := Kd.at_int (Kd.R_reads' HO_5.out).2.2 ((rd_T45 l0_1 x8_2).f1) p387 q387
         obtain rfl : ad385 = ad387 := (by injection e387)
         replace p387 := eq_true p387
         replace q387 := eq_true q387
         go_wp2
         repeat (go_quiet (fail); try go_wp2)
         go_roundg k2
         case measure => have := HJ2.out; have := HK2.out; omega
         case rel => exact ⟨(wrap64 (x8_2 + 1)), (by first | rfl | (simp; done) | (simp [*]; done)), H', ⟨by have := HJ2.out; have := HK2.out; omega⟩, ⟨by (with_reducible repeat (first | apply Kd.R_alloc | apply Kd.R_drewN | apply Kd.R_drew)); exact HO_5.out⟩, ⟨by (with_reducible repeat (first | refine blk_drewN ?_ _ | refine blk_drew ?_ | refine blk_alloc ?_ _)); exact BK372.out⟩, ⟨by repeat (first | (with_reducible first | exact HB.out | apply below_alloc | apply pw_below_drewN | apply below_drew1 | refine below_set ?_ GE372.out) | exact HB.out)⟩⟩
       ·rw [if_neg c23] at H
        have c23b0 := decide_eq_false c23
        clear c23
        have H' := Aside0.mk H
        clear H
        have hcz40_0 : wr.cell? ⟨gb372, 0, none⟩ = some (.int .i64 a0_0) := (blk_cell BK372.out 0).trans rfl
        have hcz40_1 : wr.cell? ⟨gb372, 1, none⟩ = some (.slice A0_1 l0_1.length c0_1) := (blk_cell BK372.out 1).trans rfl
        have hfz40_0 := blk_frozen BK372.out 0
        have hfz40_1 := blk_frozen BK372.out 1
        go_wp2
        repeat (go_quiet (fail); try go_wp2)
        go_loopg [11] k2 (fun kq v11 w' => ∃ (x11_3 : Int), v11 = .int .i64 x11_3 ∧ Aside0 (modillionlaw09_SeqPaths.l1 kq a1 t379 x11_3 a0_0 l0_1 = some r) ∧ Aside0 (kq ≤ k2) ∧ Aside0 (Kd.R (Kd.int .i64) 2 w' w.heap.size (fun _ => True) v380 t379) ∧ Aside0 (w'.heap[gb372]? = some (.cells #[.int .i64 a0_0, (.slice A0_1 l0_1.length c0_1)] 24 (0, 0))) ∧ Aside0 (Below w.heap.size w w'))
        case atStart => exact ⟨(0), (by first | rfl | (simp; done) | (simp [*]; done)), H', ⟨Nat.le_refl _⟩, ⟨by (with_reducible repeat (first | apply Kd.R_alloc | apply Kd.R_drewN | apply Kd.R_drew)); exact HO_5.out⟩, ⟨by (with_reducible repeat (first | refine blk_drewN ?_ _ | refine blk_drew ?_ | refine blk_alloc ?_ _)); exact BK372.out⟩, ⟨by repeat (first | (with_reducible first | exact HB.out | apply below_alloc | apply pw_below_drewN | apply below_drew1 | refine below_set ?_ GE372.out) | exact HB.out)⟩⟩
        case round =>
         clear H'
         try clear c1
         try clear c2
         try clear p2
         try clear c3
         try clear p3
         try clear q3
         try clear hx3
         try clear c6
         try clear p6
         try clear c7
         try clear c7b0
         try clear c7b1
         try clear c10
         try clear c13
         try clear c18
         try clear c18b0
         try clear c18b1
         try clear c23
         try clear c23b0
         try clear c24
         try clear c24b0
         try clear c25
         try clear c25b0
         try clear c26
         try clear c26b0
         try clear c27
         try clear c27b0
         try clear c28
         try clear c28b0
         try clear c29
         try clear c29b0
         try clear c30
         try clear c30b0
         try clear c33
         try clear c33b0
         try clear p38
         try clear q38
         try clear hx38
         try clear hcz11_0
         try clear hcz11_1
         try clear hcz19_0
         try clear hcz19_1
         try clear hcz31_0
         try clear hcz31_1
         try clear hcz34_0
         try clear hcz34_1
         try clear hcz36_0
         try clear hcz36_1
         try clear hcz38_0
         try clear hcz38_1
         try clear hcz40_0
         try clear hcz40_1
         try clear hcz9_0
         try clear hcz9_1
         try clear hfz11_0
         try clear hfz11_1
         try clear hfz19_0
         try clear hfz19_1
         try clear hfz31_0
         try clear hfz31_1
         try clear hfz34_0
         try clear hfz34_1
         try clear hfz36_0
         try clear hfz36_1
         try clear hfz38_0
         try clear hfz38_1
         try clear hfz40_0
         try clear hfz40_1
         try clear hfz9_0
         try clear hfz9_1
         try clear hx384_0
         try clear hx384_1
         try clear hx384_2
         try clear hx385_0
         try clear hx386_0
         try clear hx386_1
         try clear hx386_2
         try clear hx387_0
         try clear hx388_0
         try clear hx388_1
         try clear hx388_2
         try clear p2
         try clear p384
         try clear p385
         try clear p386
         try clear p387
         try clear p388
         try clear q384
         try clear q385
         try clear q386
         try clear q387
         try clear q388
         obtain ⟨x11_3, rfl, HA, HK3, HO_5, BK372, HB⟩ := hrel
         cases gk with
         | zero => exact absurd HA.out (by simp [modillionlaw09_SeqPaths.l1])
         | succ k3 =>
          have H := HA.out
          clear HA
          simp only [modillionlaw09_SeqPaths.l1] at H
          by_cases c41 : x11_3 < (t379.length : Int)
          ·rw [if_pos c41] at H
           have c41b0 := decide_eq_true c41
           clear c41
           have HC42 := Aside0.mk H
           clear H
           obtain ⟨Ao43, co43, eo43⟩ := Kd.R_slice HO_5.out
           subst eo43
           go_upto_region 15 with (fail)
           repeat (go_quiet (fail); go_upto_region 15 with (fail))
           go_cut [12] (fun v12 wc => ∃ (kq : Nat) (x12_41 : Bool), v12 = .bool x12_41 ∧ Aside0 (modillionlaw09_SeqPaths.j3 kq a1 t379 x11_3 x12_41 a0_0 l0_1 = some r) ∧ Aside0 (kq ≤ k3) ∧ Aside0 (Kd.R (Kd.int .i64) 2 wc w.heap.size (fun _ => True) (.slice Ao43 t379.length co43) t379) ∧ Aside0 (wc.heap[gb372]? = some (.cells #[.int .i64 a0_0, (.slice A0_1 l0_1.length c0_1)] 24 (0, 0))) ∧ Aside0 (Below w.heap.size w wc))
           case first =>
            have H := HC42.out
            clear HC42
            obtain ⟨c44, H⟩ := iteS18 H
            have c44b0 := decide_eq_true c44
            clear c44
            (first | rw [c44b0] | (simp only [i64_w, i32_w]; rw [c44b0]) | skip)
            by_cases c45 : (rd t379 x11_3) < 0
            ·rw [if_pos c45] at H
             have c45b0 := decide_eq_true c45
             clear c45
             have H' := Aside0.mk H
             clear H
             have p390 : 0 ≤ (x11_3 : Int) := of_decide_eq_true (by first | (with_reducible assumption) | assumption)
             have q390 : x11_3 < (t379.length : Int) := of_decide_eq_true (by first | (with_reducible assumption) | assumption)
             obtain ⟨ad390, e390, hx390_0⟩ := Kd.at_int (Kd.R_reads' HO_5.out).2.2 x11_3 p390 q390
             cases e390
             replace p390 := eq_true p390
             replace q390 := eq_true q390
             go_wp2
             repeat (go_quiet (fail); try go_wp2)
             go_meet
             case rel => exact ⟨_, (true), (by first | rfl | (simp; done) | (simp [*]; done)), H', ⟨by have := HJ2.out; have := HK2.out; have := HK3.out; first | omega | exact Nat.le_refl _⟩, ⟨by (with_reducible repeat (first | apply Kd.R_alloc | apply Kd.R_drewN | apply Kd.R_drew)); exact HO_5.out⟩, ⟨by (with_reducible repeat (first | refine blk_drewN ?_ _ | refine blk_drew ?_ | refine blk_alloc ?_ _)); exact BK372.out⟩, ⟨by repeat (first | (with_reducible first | exact HB.out | apply below_alloc | apply pw_below_drewN | apply below_drew1 | refine below_set ?_ GE372.out) | exact HB.out)⟩⟩
            ·rw [if_neg c45] at H
             have c45b0 := decide_eq_false c45
             clear c45
             have H' := Aside0.mk H
             clear H
             have p390 : 0 ≤ (x11_3 : Int) := of_decide_eq_true (by first | (with_reducible assumption) | assumption)
             have q390 : x11_3 < (t379.length : Int) := of_decide_eq_true (by first | (with_reducible assumption) | assumption)
             obtain ⟨ad390, e390, hx390_0⟩ := Kd.at_int (Kd.R_reads' HO_5.out).2.2 x11_3 p390 q390
             cases e390
             replace p390 := eq_true p390
             replace q390 := eq_true q390
             go_wp2
             repeat (go_quiet (fail); try go_wp2)
             go_meet
             case rel => exact ⟨_, ((x11_3 == a1)), (by first | rfl | (simp; done) | (simp [*]; done)), H', ⟨by have := HJ2.out; have := HK2.out; have := HK3.out; first | omega | exact Nat.le_refl _⟩, ⟨by (with_reducible repeat (first | apply Kd.R_alloc | apply Kd.R_drewN | apply Kd.R_drew)); exact HO_5.out⟩, ⟨by (with_reducible repeat (first | refine blk_drewN ?_ _ | refine blk_drew ?_ | refine blk_alloc ?_ _)); exact BK372.out⟩, ⟨by repeat (first | (with_reducible first | exact HB.out | apply below_alloc | apply pw_below_drewN | apply below_drew1 | refine below_set ?_ GE372.out) | exact HB.out)⟩⟩
           case rest =>
            clear HC42
            try clear c1
            try clear c2
            try clear p2
            try clear c3
            try clear p3
            try clear q3
            try clear hx3
            try clear c4
            try clear c6
            try clear p6
            try clear c7
            try clear c7b0
            try clear c7b1
            try clear c10
            try clear c13
            try clear c18
            try clear c18b0
            try clear c18b1
            try clear c23
            try clear c23b0
            try clear c24
            try clear c24b0
            try clear c25
            try clear c25b0
            try clear c26
            try clear c26b0
            try clear c27
            try clear c27b0
            try clear c28
            try clear c28b0
            try clear c29
            try clear c29b0
            try clear c30
            try clear c30b0
            try clear c33
            try clear c33b0
            try clear p38
            try clear q38
            try clear hx38
            try clear p39
            try clear q39
            try clear hx39
            try clear c41
            try clear c41b0
            try clear c44
            try clear c44b0
            try clear c45
            try clear c45b0
            try clear hcz11_0
            try clear hcz11_1
            try clear hcz19_0
            try clear hcz19_1
            try clear hcz31_0
            try clear hcz31_1
            try clear hcz34_0
            try clear hcz34_1
            try clear hcz36_0
            try clear hcz36_1
            try clear hcz38_0
            try clear hcz38_1
            try clear hcz40_0
            try clear hcz40_1
            try clear hcz9_0
            try clear hcz9_1
            try clear hfz11_0
            try clear hfz11_1
            try clear hfz19_0
            try clear hfz19_1
            try clear hfz31_0
            try clear hfz31_1
            try clear hfz34_0
            try clear hfz34_1
            try clear hfz36_0
            try clear hfz36_1
            try clear hfz38_0
            try clear hfz38_1
            try clear hfz40_0
            try clear hfz40_1
            try clear hfz9_0
            try clear hfz9_1
            try clear hx384_0
            try clear hx384_1
            try clear hx384_2
            try clear hx385_0
            try clear hx386_0
            try clear hx386_1
            try clear hx386_2
            try clear hx387_0
            try clear hx388_0
            try clear hx388_1
            try clear hx388_2
            try clear hx390_0
            try clear p2
            try clear p3
            try clear p38
            try clear p384
            try clear p385
            try clear p386
            try clear p387
            try clear p388
            try clear p390
            try clear p6
            try clear q3
            try clear q38
            try clear q384
            try clear q385
            try clear q386
            try clear q387
            try clear q388
            try clear q390
            obtain ⟨kq, x12_41, rfl, HA, HJ41, HO_5, BK372, HB⟩ := hcut
            cases kq with
            | zero => exact absurd HA.out (by simp [modillionlaw09_SeqPaths.j3])
            | succ kj41 =>
             have H := HA.out
             clear HA
             simp only [modillionlaw09_SeqPaths.j3] at H
             have H' := Aside0.mk H
             clear H
             go_wp2
             repeat (go_quiet (fail); try go_wp2)
             go_loopg [12, 13] kj41 (fun kq v12 v13 w' => ∃ (x12_5 : Bool) (x13_5 : Int), v12 = .bool x12_5 ∧ v13 = .int .i64 x13_5 ∧ Aside0 (modillionlaw09_SeqPaths.l2 kq a1 t379 x11_3 x12_5 x13_5 a0_0 l0_1 = some r) ∧ Aside0 (kq ≤ kj41) ∧ Aside0 (Kd.R (Kd.int .i64) 2 w' w.heap.size (fun _ => True) (.slice Ao43 t379.length co43) t379) ∧ Aside0 (w'.heap[gb372]? = some (.cells #[.int .i64 a0_0, (.slice A0_1 l0_1.length c0_1)] 24 (0, 0))) ∧ Aside0 (Below w.heap.size w w'))
             case atStart => exact ⟨(x12_41), (0), (by first | rfl | (simp; done) | (simp [*]; done)), (by first | rfl | (simp; done) | (simp [*]; done)), H', ⟨Nat.le_refl _⟩, ⟨by (with_reducible repeat (first | apply Kd.R_alloc | apply Kd.R_drewN | apply Kd.R_drew)); exact HO_5.out⟩, ⟨by (with_reducible repeat (first | refine blk_drewN ?_ _ | refine blk_drew ?_ | refine blk_alloc ?_ _)); exact BK372.out⟩, ⟨by repeat (first | (with_reducible first | exact HB.out | apply below_alloc | apply pw_below_drewN | apply below_drew1 | refine below_set ?_ GE372.out) | exact HB.out)⟩⟩
             case round =>
              clear H'
              try clear c1
              try clear c2
              try clear p2
              try clear c3
              try clear p3
              try clear q3
              try clear hx3
              try clear c4
              try clear c6
              try clear p6
              try clear c7
              try clear c7b0
              try clear c7b1
              try clear c10
              try clear c13
              try clear c18
              try clear c18b0
              try clear c18b1
              try clear c23
              try clear c23b0
              try clear c24
              try clear c24b0
              try clear c25
              try clear c25b0
              try clear c26
              try clear c26b0
              try clear c27
              try clear c27b0
              try clear c28
              try clear c28b0
              try clear c29
              try clear c29b0
              try clear c30
              try clear c30b0
              try clear c33
              try clear c33b0
              try clear p38
              try clear q38
              try clear hx38
              try clear p39
              try clear q39
              try clear hx39
              try clear c41
              try clear c41b0
              try clear c44
              try clear c44b0
              try clear c45
              try clear c45b0
              try clear hcz11_0
              try clear hcz11_1
              try clear hcz19_0
              try clear hcz19_1
              try clear hcz31_0
              try clear hcz31_1
              try clear hcz34_0
              try clear hcz34_1
              try clear hcz36_0
              try clear hcz36_1
              try clear hcz38_0
              try clear hcz38_1
              try clear hcz40_0
              try clear hcz40_1
              try clear hcz9_0
              try clear hcz9_1
              try clear hfz11_0
              try clear hfz11_1
              try clear hfz19_0
              try clear hfz19_1
              try clear hfz31_0
              try clear hfz31_1
              try clear hfz34_0
              try clear hfz34_1
              try clear hfz36_0
              try clear hfz36_1
              try clear hfz38_0
              try clear hfz38_1
              try clear hfz40_0
              try clear hfz40_1
              try clear hfz9_0
              try clear hfz9_1
              try clear hx384_0
              try clear hx384_1
              try clear hx384_2
              try clear hx385_0
              try clear hx386_0
              try clear hx386_1
              try clear hx386_2
              try clear hx387_0
              try clear hx388_0
              try clear hx388_1
              try clear hx388_2
              try clear hx390_0
              try clear p2
              try clear p3
              try clear p38
              try clear p384
              try clear p385
              try clear p386
              try clear p387
              try clear p388
              try clear p39
              try clear p390
              try clear p6
              try clear q3
              try clear q38
              try clear q384
              try clear q385
              try clear q386
              try clear q387
              try clear q388
              try clear q39
              try clear q390
              obtain ⟨x12_5, x13_5, rfl, rfl, HA, HK5, HO_5, BK372, HB⟩ := hrel
              cases gk with
              | zero => exact absurd HA.out (by simp [modillionlaw09_SeqPaths.l2])
              | succ k5 =>
               have H := HA.out
               clear HA
               simp only [modillionlaw09_SeqPaths.l2] at H
               by_cases c46 : x13_5 < (l0_1.length : Int)
               ·rw [if_pos c46] at H
                have c46b0 := decide_eq_true c46
                clear c46
                obtain ⟨c47, H⟩ := iteS18 H
                have c47b0 := decide_eq_true c47
                clear c47
                by_cases c48 : x12_5 = true
                ·subst c48
                 have H1 : (modillionlaw09_SeqPaths.l2 k5 a1 t379 x11_3 true (wrap64 (x13_5 + 1)) a0_0 l0_1) = some r := by rw [if_pos rfl] at H; exact H
                 clear H
                 have H := H1
                 clear H1
                 have H' := Aside0.mk H
                 clear H
                 have hcz49_0 : wr.cell? ⟨gb372, 0, none⟩ = some (.int .i64 a0_0) := (blk_cell BK372.out 0).trans rfl
                 have hcz49_1 : wr.cell? ⟨gb372, 1, none⟩ = some (.slice A0_1 l0_1.length c0_1) := (blk_cell BK372.out 1).trans rfl
                 have hfz49_0 := blk_frozen BK372.out 0
                 have hfz49_1 := blk_frozen BK372.out 1
                 have p391 : 0 ≤ (x13_5 : Int) := of_decide_eq_true (by first | (with_reducible assumption) | assumption)
                 have q391 : x13_5 < (l0_1.length : Int) := of_decide_eq_true (by first | (with_reducible assumption) | assumption)
                 obtain ⟨ad391, e391, hx391_0, hx391_1, hx391_2⟩ := at_T45 HR0_1.out x13_5 p391 q391
                 cases e391
                 replace hx391_0 := (HB.out.cell (World.block_lt_of_cell? w _ hx391_0)).trans hx391_0
                 replace hx391_1 := (HB.out.cell (World.block_lt_of_cell? w _ hx391_1)).trans hx391_1
                 replace hx391_2 := (HB.out.cell (World.block_lt_of_cell? w _ hx391_2)).trans hx391_2
                 replace p391 := eq_true p391
                 replace q391 := eq_true q391
                 go_wp2
                 repeat (go_quiet (fail); try go_wp2)
                 go_roundg k5
                 case measure => have := HJ2.out; have := HK2.out; have := HK3.out; have := HJ41.out; have := HK5.out; omega
                 case rel => exact ⟨(true), (wrap64 (x13_5 + 1)), (by first | rfl | (simp; done) | (simp [*]; done)), (by first | rfl | (simp; done) | (simp [*]; done)), H', ⟨by have := HJ2.out; have := HK2.out; have := HK3.out; have := HJ41.out; have := HK5.out; omega⟩, ⟨by (with_reducible repeat (first | apply Kd.R_alloc | apply Kd.R_drewN | apply Kd.R_drew)); exact HO_5.out⟩, ⟨by (with_reducible repeat (first | refine blk_drewN ?_ _ | refine blk_drew ?_ | refine blk_alloc ?_ _)); exact BK372.out⟩, ⟨by repeat (first | (with_reducible first | exact HB.out | apply below_alloc | apply pw_below_drewN | apply below_drew1 | refine below_set ?_ GE372.out) | exact HB.out)⟩⟩
                ·replace c48 := Bool.eq_false_iff.mpr c48
                 subst c48
                 have H1 : (if ((rd_T45 l0_1 x13_5).f1) = x11_3 then (if 0 ≤ ((rd_T45 l0_1 x13_5).f0) then (if ((rd_T45 l0_1 x13_5).f0) < (t379.length : Int) then (if (rd t379 ((rd_T45 l0_1 x13_5).f0)) ≥ 0 then (if 0 ≤ x11_3 then (if x11_3 < (t379.length : Int) then (modillionlaw09_SeqPaths.l2 k5 a1 t379 x11_3 ((wrap64 ((rd t379 ((rd_T45 l0_1 x13_5).f0)) + ((rd_T45 l0_1 x13_5).f2))) == (rd t379 x11_3)) (wrap64 (x13_5 + 1)) a0_0 l0_1) else (none)) else (none)) else (modillionlaw09_SeqPaths.l2 k5 a1 t379 x11_3 false (wrap64 (x13_5 + 1)) a0_0 l0_1)) else (none)) else (none)) else (modillionlaw09_SeqPaths.l2 k5 a1 t379 x11_3 false (wrap64 (x13_5 + 1)) a0_0 l0_1)) = some r := by rw [if_neg (show ¬ (false = true) by decide)] at H; exact H
                 clear H
                 have H := H1
                 clear H1
                 by_cases c50 : ((rd_T45 l0_1 x13_5).f1) = x11_3
                 ·rw [if_pos c50] at H
                  have c50b0 : (((rd_T45 l0_1 x13_5).f1) == x11_3) = true := beq_iff_eq.mpr c50
                  have c50b1 : (((rd_T45 l0_1 x13_5).f1) != x11_3) = false := bne_eq_false_iff_eq.mpr c50
                  clear c50
                  obtain ⟨c51, H⟩ := iteS18 H
                  have c51b0 := decide_eq_true c51
                  clear c51
                  obtain ⟨c52, H⟩ := iteS18 H
                  have c52b0 := decide_eq_true c52
                  clear c52
                  by_cases c53 : (rd t379 ((rd_T45 l0_1 x13_5).f0)) ≥ 0
                  ·rw [if_pos c53] at H
                   have c53b0 : decide (0 ≤ (rd t379 ((rd_T45 l0_1 x13_5).f0))) = true := decide_eq_true c53
                   clear c53
                   obtain ⟨c54, H⟩ := iteS18 H
                   have c54b0 := decide_eq_true c54
                   clear c54
                   obtain ⟨c55, H⟩ := iteS18 H
                   have c55b0 := decide_eq_true c55
                   clear c55
                   have H' := Aside0.mk H
                   clear H
                   have hcz56_0 : wr.cell? ⟨gb372, 0, none⟩ = some (.int .i64 a0_0) := (blk_cell BK372.out 0).trans rfl
                   have hcz56_1 : wr.cell? ⟨gb372, 1, none⟩ = some (.slice A0_1 l0_1.length c0_1) := (blk_cell BK372.out 1).trans rfl
                   have hfz56_0 := blk_frozen BK372.out 0
                   have hfz56_1 := blk_frozen BK372.out 1
                   have p391 : 0 ≤ (x13_5 : Int) := of_decide_eq_true (by first | (with_reducible assumption) | assumption)
                   have q391 : x13_5 < (l0_1.length : Int) := of_decide_eq_true (by first | (with_reducible assumption) | assumption)
                   obtain ⟨ad391, e391, hx391_0, hx391_1, hx391_2⟩ := at_T45 HR0_1.out x13_5 p391 q391
                   cases e391
                   replace hx391_0 := (HB.out.cell (World.block_lt_of_cell? w _ hx391_0)).trans hx391_0
                   replace hx391_1 := (HB.out.cell (World.block_lt_of_cell? w _ hx391_1)).trans hx391_1
                   replace hx391_2 := (HB.out.cell (World.block_lt_of_cell? w _ hx391_2)).trans hx391_2
                   replace p391 := eq_true p391
                   replace q391 := eq_true q391
                   have p392 : 0 ≤ (x13_5 : Int) := of_decide_eq_true (by first | (with_reducible assumption) | assumption)
                   have q392 : x13_5 < (l0_1.length : Int) := of_decide_eq_true (by first | (with_reducible assumption) | assumption)
                   obtain ⟨ad392, e392, hx392_0, hx392_1, hx392_2⟩ := at_T45 HR0_1.out x13_5 p392 q392
                   obtain rfl : ad391 = ad392 := (by injection e392)
                   replace hx392_0 := (HB.out.cell (World.block_lt_of_cell? w _ hx392_0)).trans hx392_0
                   replace hx392_1 := (HB.out.cell (World.block_lt_of_cell? w _ hx392_1)).trans hx392_1
                   replace hx392_2 := (HB.out.cell (World.block_lt_of_cell? w _ hx392_2)).trans hx392_2
                   replace p392 := eq_true p392
                   replace q392 := eq_true q392
                   have p393 : 0 ≤ (((rd_T45 l0_1 x13_5).f0) : Int) := of_decide_eq_true (by first | (with_reducible assumption) | assumption)
                   have q393 : ((rd_T45 l0_1 x13_5).f0) < (t379.length : Int) := of_decide_eq_true (by first | (with_reducible assumption) | assumption)
                   obtain ⟨ad393, e393, hx393_0⟩ := Kd.at_int (Kd.R_reads' HO_5.out).2.2 ((rd_T45 l0_1 x13_5).f0) p393 q393
                   cases e393
                   replace p393 := eq_true p393
                   replace q393 := eq_true q393
                   have p394 : 0 ≤ (((rd_T45 l0_1 x13_5).f0) : Int) := of_decide_eq_true (by first | (with_reducible assumption) | assumption)
                   have q394 : ((rd_T45 l0_1 x13_5).f0) < (t379.length : Int) := of_decide_eq_true (by first | (with_reducible assumption) | assumption)
                   obtain ⟨ad394, e394, hx394_0⟩ := Kd.at_int (Kd.R_reads' HO_5.out).2.2 ((rd_T45 l0_1 x13_5).f0) p394 q394
                   obtain rfl : ad393 = ad394 := (by injection e394)
                   replace p394 := eq_true p394
                   replace q394 := eq_true q394
                   have p395 : 0 ≤ (x13_5 : Int) := of_decide_eq_true (by first | (with_reducible assumption) | assumption)
                   have q395 : x13_5 < (l0_1.length : Int) := of_decide_eq_true (by first | (with_reducible assumption) | assumption)
                   obtain ⟨ad395, e395, hx395_0, hx395_1, hx395_2⟩ := at_T45 HR0_1.out x13_5 p395 q395
                   obtain rfl : ad391 = ad395 := (by injection e395)
                   replace hx395_0 := (HB.out.cell (World.block_lt_of_cell? w _ hx395_0)).trans hx395_0
                   replace hx395_1 := (HB.out.cell (World.block_lt_of_cell? w _ hx395_1)).trans hx395_1
                   replace hx395_2 := (HB.out.cell (World.block_lt_of_cell? w _ hx395_2)).trans hx395_2
                   replace p395 := eq_true p395
                   replace q395 := eq_true q395
                   have p396 : 0 ≤ (x11_3 : Int) := of_decide_eq_true (by first | (with_reducible assumption) | assumption)
                   have q396 : x11_3 < (t379.length : Int) := of_decide_eq_true (by first | (with_reducible assumption) | assumption)
                   obtain ⟨ad396, e396, hx396_0⟩ := Kd.at_int (Kd.R_reads' HO_5.out).2.2 x11_3 p396 q396
                   obtain rfl : ad393 = ad396 := (by injection e396)
                   replace p396 := eq_true p396
                   replace q396 := eq_true q396
                   go_wp2
                   repeat (go_quiet (fail); try go_wp2)
                   go_roundg k5
                   case measure => have := HJ2.out; have := HK2.out; have := HK3.out; have := HJ41.out; have := HK5.out; omega
                   case rel => exact ⟨(((wrap64 ((rd t379 ((rd_T45 l0_1 x13_5).f0)) + ((rd_T45 l0_1 x13_5).f2))) == (rd t379 x11_3))), (wrap64 (x13_5 + 1)), (by first | rfl | (simp; done) | (simp [*]; done)), (by first | rfl | (simp; done) | (simp [*]; done)), H', ⟨by have := HJ2.out; have := HK2.out; have := HK3.out; have := HJ41.out; have := HK5.out; omega⟩, ⟨by (with_reducible repeat (first | apply Kd.R_alloc | apply Kd.R_drewN | apply Kd.R_drew)); exact HO_5.out⟩, ⟨by (with_reducible repeat (first | refine blk_drewN ?_ _ | refine blk_drew ?_ | refine blk_alloc ?_ _)); exact BK372.out⟩, ⟨by repeat (first | (with_reducible first | exact HB.out | apply below_alloc | apply pw_below_drewN | apply below_drew1 | refine below_set ?_ GE372.out) | exact HB.out)⟩⟩
                  ·rw [if_neg c53] at H
                   have c53b0 : decide (0 ≤ (rd t379 ((rd_T45 l0_1 x13_5).f0))) = false := decide_eq_false c53
                   clear c53
                   have H' := Aside0.mk H
                   clear H
                   have hcz57_0 : wr.cell? ⟨gb372, 0, none⟩ = some (.int .i64 a0_0) := (blk_cell BK372.out 0).trans rfl
                   have hcz57_1 : wr.cell? ⟨gb372, 1, none⟩ = some (.slice A0_1 l0_1.length c0_1) := (blk_cell BK372.out 1).trans rfl
                   have hfz57_0 := blk_frozen BK372.out 0
                   have hfz57_1 := blk_frozen BK372.out 1
                   have p391 : 0 ≤ (x13_5 : Int) := of_decide_eq_true (by first | (with_reducible assumption) | assumption)
                   have q391 : x13_5 < (l0_1.length : Int) := of_decide_eq_true (by first | (with_reducible assumption) | assumption)
                   obtain ⟨ad391, e391, hx391_0, hx391_1, hx391_2⟩ := at_T45 HR0_1.out x13_5 p391 q391
                   cases e391
                   replace hx391_0 := (HB.out.cell (World.block_lt_of_cell? w _ hx391_0)).trans hx391_0
                   replace hx391_1 := (HB.out.cell (World.block_lt_of_cell? w _ hx391_1)).trans hx391_1
                   replace hx391_2 := (HB.out.cell (World.block_lt_of_cell? w _ hx391_2)).trans hx391_2
                   replace p391 := eq_true p391
                   replace q391 := eq_true q391
                   have p392 : 0 ≤ (x13_5 : Int) := of_decide_eq_true (by first | (with_reducible assumption) | assumption)
                   have q392 : x13_5 < (l0_1.length : Int) := of_decide_eq_true (by first | (with_reducible assumption) | assumption)
                   obtain ⟨ad392, e392, hx392_0, hx392_1, hx392_2⟩ := at_T45 HR0_1.out x13_5 p392 q392
                   obtain rfl : ad391 = ad392 := (by injection e392)
                   replace hx392_0 := (HB.out.cell (World.block_lt_of_cell? w _ hx392_0)).trans hx392_0
                   replace hx392_1 := (HB.out.cell (World.block_lt_of_cell? w _ hx392_1)).trans hx392_1
                   replace hx392_2 := (HB.out.cell (World.block_lt_of_cell? w _ hx392_2)).trans hx392_2
                   replace p392 := eq_true p392
                   replace q392 := eq_true q392
                   have p393 : 0 ≤ (((rd_T45 l0_1 x13_5).f0) : Int) := of_decide_eq_true (by first | (with_reducible assumption) | assumption)
                   have q393 : ((rd_T45 l0_1 x13_5).f0) < (t379.length : Int) := of_decide_eq_true (by first | (with_reducible assumption) | assumption)
                   obtain ⟨ad393, e393, hx393_0⟩ := Kd.at_int (Kd.R_reads' HO_5.out).2.2 ((rd_T45 l0_1 x13_5).f0) p393 q393
                   cases e393
                   replace p393 := eq_true p393
                   replace q393 := eq_true q393
                   go_wp2
                   repeat (go_quiet (fail); try go_wp2)
                   go_roundg k5
                   case measure => have := HJ2.out; have := HK2.out; have := HK3.out; have := HJ41.out; have := HK5.out; omega
                   case rel => exact ⟨(false), (wrap64 (x13_5 + 1)), (by first | rfl | (simp; done) | (simp [*]; done)), (by first | rfl | (simp; done) | (simp [*]; done)), H', ⟨by have := HJ2.out; have := HK2.out; have := HK3.out; have := HJ41.out; have := HK5.out; omega⟩, ⟨by (with_reducible repeat (first | apply Kd.R_alloc | apply Kd.R_drewN | apply Kd.R_drew)); exact HO_5.out⟩, ⟨by (with_reducible repeat (first | refine blk_drewN ?_ _ | refine blk_drew ?_ | refine blk_alloc ?_ _)); exact BK372.out⟩, ⟨by repeat (first | (with_reducible first | exact HB.out | apply below_alloc | apply pw_below_drewN | apply below_drew1 | refine below_set ?_ GE372.out) | exact HB.out)⟩⟩
                 ·rw [if_neg c50] at H
                  have c50b0 : (((rd_T45 l0_1 x13_5).f1) == x11_3) = false := beq_eq_false_iff_ne.mpr c50
                  have c50b1 : (((rd_T45 l0_1 x13_5).f1) != x11_3) = true := bne_iff_ne.mpr c50
                  have H' := Aside0.mk H
                  clear H
                  have hcz58_0 : wr.cell? ⟨gb372, 0, none⟩ = some (.int .i64 a0_0) := (blk_cell BK372.out 0).trans rfl
                  have hcz58_1 : wr.cell? ⟨gb372, 1, none⟩ = some (.slice A0_1 l0_1.length c0_1) := (blk_cell BK372.out 1).trans rfl
                  have hfz58_0 := blk_frozen BK372.out 0
                  have hfz58_1 := blk_frozen BK372.out 1
                  have p391 : 0 ≤ (x13_5 : Int) := of_decide_eq_true (by first | (with_reducible assumption) | assumption)
                  have q391 : x13_5 < (l0_1.length : Int) := of_decide_eq_true (by first | (with_reducible assumption) | assumption)
                  obtain ⟨ad391, e391, hx391_0, hx391_1, hx391_2⟩ := at_T45 HR0_1.out x13_5 p391 q391
                  cases e391
                  replace hx391_0 := (HB.out.cell (World.block_lt_of_cell? w _ hx391_0)).trans hx391_0
                  replace hx391_1 := (HB.out.cell (World.block_lt_of_cell? w _ hx391_1)).trans hx391_1
                  replace hx391_2 := (HB.out.cell (World.block_lt_of_cell? w _ hx391_2)).trans hx391_2
                  replace p391 := eq_true p391
                  replace q391 := eq_true q391
                  have p392 : 0 ≤ (x13_5 : Int) := of_decide_eq_true (by first | (with_reducible assumption) | assumption)
                  have q392 : x13_5 < (l0_1.length : Int) := of_decide_eq_true (by first | (with_reducible assumption) | assumption)
                  obtain ⟨ad392, e392, hx392_0, hx392_1, hx392_2⟩ := at_T45 HR0_1.out x13_5 p392 q392
                  obtain rfl : ad391 = ad392 := (by injection e392)
                  replace hx392_0 := (HB.out.cell (World.block_lt_of_cell? w _ hx392_0)).trans hx392_0
                  replace hx392_1 := (HB.out.cell (World.block_lt_of_cell? w _ hx392_1)).trans hx392_1
                  replace hx392_2 := (HB.out.cell (World.block_lt_of_cell? w _ hx392_2)).trans hx392_2
                  replace p392 := eq_true p392
                  replace q392 := eq_true q392
                  go_wp2
                  repeat (go_quiet (fail); try go_wp2)
                  go_roundg k5
                  case measure => have := HJ2.out; have := HK2.out; have := HK3.out; have := HJ41.out; have := HK5.out; omega
                  case rel => exact ⟨(false), (wrap64 (x13_5 + 1)), (by first | rfl | (simp; done) | (simp [*]; done)), (by first | rfl | (simp; done) | (simp [*]; done)), H', ⟨by have := HJ2.out; have := HK2.out; have := HK3.out; have := HJ41.out; have := HK5.out; omega⟩, ⟨by (with_reducible repeat (first | apply Kd.R_alloc | apply Kd.R_drewN | apply Kd.R_drew)); exact HO_5.out⟩, ⟨by (with_reducible repeat (first | refine blk_drewN ?_ _ | refine blk_drew ?_ | refine blk_alloc ?_ _)); exact BK372.out⟩, ⟨by repeat (first | (with_reducible first | exact HB.out | apply below_alloc | apply pw_below_drewN | apply below_drew1 | refine below_set ?_ GE372.out) | exact HB.out)⟩⟩
               ·rw [if_neg c46] at H
                have c46b0 := decide_eq_false c46
                clear c46
                by_cases c59 : x12_5 = true
                ·subst c59
                 have H1 : (modillionlaw09_SeqPaths.l1 k5 a1 t379 (wrap64 (x11_3 + 1)) a0_0 l0_1) = some r := by rw [if_pos rfl] at H; exact H
                 clear H
                 have H := H1
                 clear H1
                 have H' := Aside0.mk H
                 clear H
                 have hcz60_0 : wr.cell? ⟨gb372, 0, none⟩ = some (.int .i64 a0_0) := (blk_cell BK372.out 0).trans rfl
                 have hcz60_1 : wr.cell? ⟨gb372, 1, none⟩ = some (.slice A0_1 l0_1.length c0_1) := (blk_cell BK372.out 1).trans rfl
                 have hfz60_0 := blk_frozen BK372.out 0
                 have hfz60_1 := blk_frozen BK372.out 1
                 go_wp2
                 repeat (go_quiet (fail); try go_wp2)
                 go_roundg k5
                 case measure => have := HJ2.out; have := HK2.out; have := HK3.out; have := HJ41.out; have := HK5.out; omega
                 case rel => exact ⟨(wrap64 (x11_3 + 1)), (by first | rfl | (simp; done) | (simp [*]; done)), H', ⟨by have := HJ2.out; have := HK2.out; have := HK3.out; have := HJ41.out; have := HK5.out; omega⟩, ⟨by (with_reducible repeat (first | apply Kd.R_alloc | apply Kd.R_drewN | apply Kd.R_drew)); exact HO_5.out⟩, ⟨by (with_reducible repeat (first | refine blk_drewN ?_ _ | refine blk_drew ?_ | refine blk_alloc ?_ _)); exact BK372.out⟩, ⟨by repeat (first | (with_reducible first | exact HB.out | apply below_alloc | apply pw_below_drewN | apply below_drew1 | refine below_set ?_ GE372.out) | exact HB.out)⟩⟩
                ·replace c59 := Bool.eq_false_iff.mpr c59
                 subst c59
                 have H1 : (some false) = some r := by rw [if_neg (show ¬ (false = true) by decide)] at H; exact H
                 clear H
                 have H := H1
                 clear H1
                 obtain rfl := Option.some.inj H
                 have hcz61_0 : wr.cell? ⟨gb372, 0, none⟩ = some (.int .i64 a0_0) := (blk_cell BK372.out 0).trans rfl
                 have hcz61_1 : wr.cell? ⟨gb372, 1, none⟩ = some (.slice A0_1 l0_1.length c0_1) := (blk_cell BK372.out 1).trans rfl
                 have hfz61_0 := blk_frozen BK372.out 0
                 have hfz61_1 := blk_frozen BK372.out 1
                 go_wp2
                 repeat (go_quiet (fail); try go_wp2)
                 go_ret
                 exact ⟨by first | rfl | (simp [errW_none, errW_some] <;> rfl) | (simp [*, errW_none, errW_some] <;> rfl), by repeat (first | (with_reducible first | exact HB.out | apply below_alloc | apply pw_below_drewN | apply below_drew1 | refine below_set ?_ GE372.out) | exact HB.out)⟩
          ·rw [if_neg c41] at H
           have c41b0 := decide_eq_false c41
           clear c41
           obtain ⟨c62, H⟩ := iteS18 H
           have c62b0 := decide_eq_true c62
           clear c62
           obtain ⟨c63, H⟩ := iteS18 H
           have c63b0 := decide_eq_true c63
           clear c63
           obtain rfl := Option.some.inj H
           obtain ⟨Ao64, co64, eo64⟩ := Kd.R_slice HO_5.out
           subst eo64
           have p389 : 0 ≤ (a1 : Int) := of_decide_eq_true (by first | (with_reducible assumption) | assumption)
           have q389 : a1 < (t379.length : Int) := of_decide_eq_true (by first | (with_reducible assumption) | assumption)
           obtain ⟨ad389, e389, hx389_0⟩ := Kd.at_int (Kd.R_reads' HO_5.out).2.2 a1 p389 q389
           cases e389
           replace p389 := eq_true p389
           replace q389 := eq_true q389
           go_wp2
           repeat (go_quiet (fail); try go_wp2)
           go_ret
           exact ⟨by first | rfl | (simp [errW_none, errW_some] <;> rfl) | (simp [*, errW_none, errW_some] <;> rfl), by repeat (first | (with_reducible first | exact HB.out | apply below_alloc | apply pw_below_drewN | apply below_drew1 | refine below_set ?_ GE372.out) | exact HB.out)⟩
    ·rw [if_neg c18] at H
     have c18b0 : (t383 == 0) = false := beq_eq_false_iff_ne.mpr c18
     have c18b1 : (t383 != 0) = true := bne_iff_ne.mpr c18
     obtain rfl := Option.some.inj H
     have hcz65_0 : wc.cell? ⟨gb372, 0, none⟩ = some (.int .i64 a0_0) := (blk_cell BK372.out 0).trans rfl
     have hcz65_1 : wc.cell? ⟨gb372, 1, none⟩ = some (.slice A0_1 l0_1.length c0_1) := (blk_cell BK372.out 1).trans rfl
     have hfz65_0 := blk_frozen BK372.out 0
     have hfz65_1 := blk_frozen BK372.out 1
     go_wp2_with (first | (go_at_call 13; (with_reducible refine (modillionlaw09_Own.calls a0_0 _ _ l0_1 t375 t376 _ ?side1 ?side2 A16.out).mono ?_); (case side1 => repeat (first | exact (Kd.C_below HR0_1.out HB.out) | (with_reducible refine Kd.C_alloc ?_ _) | (with_reducible refine Kd.C_drewN ?_ _) | (with_reducible refine Kd.C_drew ?_))); (case side2 => exact HC0_1.out); rintro e w66 ⟨v377, rfl, ho0, hb⟩; have n0_ := Aside0.mk (Kd.R_lower ho0 (below_size (by repeat (first | (with_reducible first | exact HB.out | apply below_alloc | apply pw_below_drewN | apply below_drew1 | refine below_set ?_ GE372.out) | exact HB.out)))); have n1_ := Aside0.mk (blk_below (g := gb372) (o := .cells #[.int .i64 a0_0, .slice A0_1 l0_1.length c0_1] 24 (0, 0)) (by (with_reducible repeat (first | refine blk_drewN ?_ _ | refine blk_drew ?_ | refine blk_alloc ?_ _)); exact BK372.out) hb); have n2_ := Aside0.mk (below_step (by repeat (first | (with_reducible first | exact HB.out | apply below_alloc | apply pw_below_drewN | apply below_drew1 | refine below_set ?_ GE372.out) | exact HB.out)) hb); clear BK372; clear HB; have HO378 := n0_; have BK372 := n1_; have HB := n2_; clear n0_ n1_ n2_; (try clear hb); (try clear hb2); (try clear hk); (try clear hi); (try clear ho0); obtain ⟨Ao67, co67, eo67⟩ := Kd.R_slice HO378.out; subst eo67) | (go_at_call 14; (with_reducible refine (seq_Run.calls kj2 t375 _ _ t376 (⟨#[115, 115, 115, 112]⟩ : ByteArray) a1 20 t379 t382 t383 _ ?side1 ?side2 A17.out).mono ?_); (case side1 => repeat (first | exact (Kd.R_reads' HO378.out).2.2 | (with_reducible refine Kd.C_alloc ?_ _) | (with_reducible refine Kd.C_drewN ?_ _) | (with_reducible refine Kd.C_drew ?_))); (case side2 => exact (Kd.R_reads' HO378.out).2.1); rintro e w68 ⟨v380, rfl, ho0, hb⟩; have n0_ := Aside0.mk (Kd.R_below (by (with_reducible repeat (first | apply Kd.R_alloc | apply Kd.R_drewN | apply Kd.R_drew)); exact HO378.out) hb); have n1_ := Aside0.mk (Kd.R_lower ho0 (below_size (by repeat (first | (with_reducible first | exact HB.out | apply below_alloc | apply pw_below_drewN | apply below_drew1 | refine below_set ?_ GE372.out) | exact HB.out)))); have n2_ := Aside0.mk (blk_below (g := gb372) (o := .cells #[.int .i64 a0_0, .slice A0_1 l0_1.length c0_1] 24 (0, 0)) (by (with_reducible repeat (first | refine blk_drewN ?_ _ | refine blk_drew ?_ | refine blk_alloc ?_ _)); exact BK372.out) hb); have n3_ := Aside0.mk (below_step (by repeat (first | (with_reducible first | exact HB.out | apply below_alloc | apply pw_below_drewN | apply below_drew1 | refine below_set ?_ GE372.out) | exact HB.out)) hb); clear HO378; clear BK372; clear HB; have HO378 := n0_; have HO381 := n1_; have BK372 := n2_; have HB := n3_; clear n0_ n1_ n2_ n3_; (try clear hb); (try clear hb2); (try clear hk); (try clear hi); (try clear ho0); obtain ⟨Ao69, co69, eo69⟩ := Kd.R_slice HO381.out; subst eo69))
     repeat (go_quiet (first | (go_at_call 13; (with_reducible refine (modillionlaw09_Own.calls a0_0 _ _ l0_1 t375 t376 _ ?side1 ?side2 A16.out).mono ?_); (case side1 => repeat (first | exact (Kd.C_below HR0_1.out HB.out) | (with_reducible refine Kd.C_alloc ?_ _) | (with_reducible refine Kd.C_drewN ?_ _) | (with_reducible refine Kd.C_drew ?_))); (case side2 => exact HC0_1.out); rintro e w66 ⟨v377, rfl, ho0, hb⟩; have n0_ := Aside0.mk (Kd.R_lower ho0 (below_size (by repeat (first | (with_reducible first | exact HB.out | apply below_alloc | apply pw_below_drewN | apply below_drew1 | refine below_set ?_ GE372.out) | exact HB.out)))); have n1_ := Aside0.mk (blk_below (g := gb372) (o := .cells #[.int .i64 a0_0, .slice A0_1 l0_1.length c0_1] 24 (0, 0)) (by (with_reducible repeat (first | refine blk_drewN ?_ _ | refine blk_drew ?_ | refine blk_alloc ?_ _)); exact BK372.out) hb); have n2_ := Aside0.mk (below_step (by repeat (first | (with_reducible first | exact HB.out | apply below_alloc | apply pw_below_drewN | apply below_drew1 | refine below_set ?_ GE372.out) | exact HB.out)) hb); clear BK372; clear HB; have HO378 := n0_; have BK372 := n1_; have HB := n2_; clear n0_ n1_ n2_; (try clear hb); (try clear hb2); (try clear hk); (try clear hi); (try clear ho0); obtain ⟨Ao67, co67, eo67⟩ := Kd.R_slice HO378.out; subst eo67) | (go_at_call 14; (with_reducible refine (seq_Run.calls kj2 t375 _ _ t376 (⟨#[115, 115, 115, 112]⟩ : ByteArray) a1 20 t379 t382 t383 _ ?side1 ?side2 A17.out).mono ?_); (case side1 => repeat (first | exact (Kd.R_reads' HO378.out).2.2 | (with_reducible refine Kd.C_alloc ?_ _) | (with_reducible refine Kd.C_drewN ?_ _) | (with_reducible refine Kd.C_drew ?_))); (case side2 => exact (Kd.R_reads' HO378.out).2.1); rintro e w68 ⟨v380, rfl, ho0, hb⟩; have n0_ := Aside0.mk (Kd.R_below (by (with_reducible repeat (first | apply Kd.R_alloc | apply Kd.R_drewN | apply Kd.R_drew)); exact HO378.out) hb); have n1_ := Aside0.mk (Kd.R_lower ho0 (below_size (by repeat (first | (with_reducible first | exact HB.out | apply below_alloc | apply pw_below_drewN | apply below_drew1 | refine below_set ?_ GE372.out) | exact HB.out)))); have n2_ := Aside0.mk (blk_below (g := gb372) (o := .cells #[.int .i64 a0_0, .slice A0_1 l0_1.length c0_1] 24 (0, 0)) (by (with_reducible repeat (first | refine blk_drewN ?_ _ | refine blk_drew ?_ | refine blk_alloc ?_ _)); exact BK372.out) hb); have n3_ := Aside0.mk (below_step (by repeat (first | (with_reducible first | exact HB.out | apply below_alloc | apply pw_below_drewN | apply below_drew1 | refine below_set ?_ GE372.out) | exact HB.out)) hb); clear HO378; clear BK372; clear HB; have HO378 := n0_; have HO381 := n1_; have BK372 := n2_; have HB := n3_; clear n0_ n1_ n2_ n3_; (try clear hb); (try clear hb2); (try clear hk); (try clear hi); (try clear ho0); obtain ⟨Ao69, co69, eo69⟩ := Kd.R_slice HO381.out; subst eo69)); try go_wp2_with (first | (go_at_call 13; (with_reducible refine (modillionlaw09_Own.calls a0_0 _ _ l0_1 t375 t376 _ ?side1 ?side2 A16.out).mono ?_); (case side1 => repeat (first | exact (Kd.C_below HR0_1.out HB.out) | (with_reducible refine Kd.C_alloc ?_ _) | (with_reducible refine Kd.C_drewN ?_ _) | (with_reducible refine Kd.C_drew ?_))); (case side2 => exact HC0_1.out); rintro e w66 ⟨v377, rfl, ho0, hb⟩; have n0_ := Aside0.mk (Kd.R_lower ho0 (below_size (by repeat (first | (with_reducible first | exact HB.out | apply below_alloc | apply pw_below_drewN | apply below_drew1 | refine below_set ?_ GE372.out) | exact HB.out)))); have n1_ := Aside0.mk (blk_below (g := gb372) (o := .cells #[.int .i64 a0_0, .slice A0_1 l0_1.length c0_1] 24 (0, 0)) (by (with_reducible repeat (first | refine blk_drewN ?_ _ | refine blk_drew ?_ | refine blk_alloc ?_ _)); exact BK372.out) hb); have n2_ := Aside0.mk (below_step (by repeat (first | (with_reducible first | exact HB.out | apply below_alloc | apply pw_below_drewN | apply below_drew1 | refine below_set ?_ GE372.out) | exact HB.out)) hb); clear BK372; clear HB; have HO378 := n0_; have BK372 := n1_; have HB := n2_; clear n0_ n1_ n2_; (try clear hb); (try clear hb2); (try clear hk); (try clear hi); (try clear ho0); obtain ⟨Ao67, co67, eo67⟩ := Kd.R_slice HO378.out; subst eo67) | (go_at_call 14; (with_reducible refine (seq_Run.calls kj2 t375 _ _ t376 (⟨#[115, 115, 115, 112]⟩ : ByteArray) a1 20 t379 t382 t383 _ ?side1 ?side2 A17.out).mono ?_); (case side1 => repeat (first | exact (Kd.R_reads' HO378.out).2.2 | (with_reducible refine Kd.C_alloc ?_ _) | (with_reducible refine Kd.C_drewN ?_ _) | (with_reducible refine Kd.C_drew ?_))); (case side2 => exact (Kd.R_reads' HO378.out).2.1); rintro e w68 ⟨v380, rfl, ho0, hb⟩; have n0_ := Aside0.mk (Kd.R_below (by (with_reducible repeat (first | apply Kd.R_alloc | apply Kd.R_drewN | apply Kd.R_drew)); exact HO378.out) hb); have n1_ := Aside0.mk (Kd.R_lower ho0 (below_size (by repeat (first | (with_reducible first | exact HB.out | apply below_alloc | apply pw_below_drewN | apply below_drew1 | refine below_set ?_ GE372.out) | exact HB.out)))); have n2_ := Aside0.mk (blk_below (g := gb372) (o := .cells #[.int .i64 a0_0, .slice A0_1 l0_1.length c0_1] 24 (0, 0)) (by (with_reducible repeat (first | refine blk_drewN ?_ _ | refine blk_drew ?_ | refine blk_alloc ?_ _)); exact BK372.out) hb); have n3_ := Aside0.mk (below_step (by repeat (first | (with_reducible first | exact HB.out | apply below_alloc | apply pw_below_drewN | apply below_drew1 | refine below_set ?_ GE372.out) | exact HB.out)) hb); clear HO378; clear BK372; clear HB; have HO378 := n0_; have HO381 := n1_; have BK372 := n2_; have HB := n3_; clear n0_ n1_ n2_ n3_; (try clear hb); (try clear hb2); (try clear hk); (try clear hi); (try clear ho0); obtain ⟨Ao69, co69, eo69⟩ := Kd.R_slice HO381.out; subst eo69)))
     go_ret
     exact ⟨by first | rfl | (simp [errW_none, errW_some] <;> rfl) | (simp [*, errW_none, errW_some] <;> rfl), by repeat (first | (with_reducible first | exact HB.out | apply below_alloc | apply pw_below_drewN | apply below_drew1 | refine below_set ?_ GE372.out) | exact HB.out)⟩

end Go.Proofs.Ytpndhkeoljoapaa.P
