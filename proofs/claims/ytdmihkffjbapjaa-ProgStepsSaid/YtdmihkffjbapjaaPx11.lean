/- What these Go functions compute, as Lean functions, and that they do. No condition. -/
import Derived.Test.YtdmihkffjbapjaaPx0
import Derived.Test.YtdmihkffjbapjaaPx3
import Derived.Test.YtdmihkffjbapjaaPx9
import Derived.Test.YtdmihkffjbapjaaPx10
namespace Go.Proofs.Ytdmihkffjbapjaa.P
open Go.RowKit Go.Proofs.YtdmihkffjbapjaaW.PrintWords Go.Proofs.YtdmihkffjbapjaaW.PrintLast Go.Proofs.YtdmihkffjbapjaaW.PrintMore
attribute [local go_sem] max2_int min2_int max_two min_two max_three min_three max_four min_four   -- for this text's walks alone
set_option linter.unusedVariables false
set_option linter.unusedSimpArgs false
set_option linter.unnecessarySimpa false
theorem iteS11 {α : Type} {c : Prop} [Decidable c] {a : Option α} {r : α} (h : (if c then a else none) = some r) : c ∧ a = some r := by
 by_cases hc : c
 ·rw [if_pos hc] at h; exact ⟨hc, h⟩
 ·rw [if_neg hc] at h; cases h

/-! ### modillionref07_Right: function 11 -/
def modillionref07_Right.f (k : Nat) (a0_0 : Int) (l0_1 : List (S46)) (a1_0 : ByteArray) (a1_1 : Int) (a1_2 : Int) : Option (Bool) := (modillionref05_Check.f k a0_0 l0_1).bind fun t127 => (if t127 = 0 then ((modillionref07_Known.f a1_0).bind fun t128 => (if t128 = true then (if a1_1 ≥ 0 then (if a1_1 < a0_0 then (if a1_2 ≥ 1 then (some (decide (a1_2 ≤ 64))) else (some false)) else (some false)) else (some false)) else (some false))) else (some false))
theorem modillionref07_Right.mono : ∀ a0 a1 a2 a3 a4 k, LeO (modillionref07_Right.f k a0 a1 a2 a3 a4) (modillionref07_Right.f (k + 1) a0 a1 a2 a3 a4) := by
 intro a0 a1 a2 a3 a4 k
 unfold modillionref07_Right.f
 repeat' first
   | (with_reducible exact modillionref05_Check.mono _ _ _)
   | (with_reducible exact LeO.refl _)
   | (with_reducible exact LeO.none _)
   | (with_reducible refine LeO.ite ?_ ?_)
   | (with_reducible refine LeO.bind ?_ (fun _ => ?_))
   | exact modillionref05_Check.mono _ _ _
   | exact LeO.none _
   | refine LeO.ite ?_ ?_
   | refine LeO.bind ?_ (fun _ => ?_)
set_option maxHeartbeats 8000000 in
set_option maxRecDepth 100000 in
theorem modillionref07_Right.calls (k : Nat) (a0_0 : Int) (A0_1 : Option Addr) (c0_1 : Nat) (l0_1 : List (S46)) (a1_0 : ByteArray) (a1_1 : Int) (a1_2 : Int) (r : Bool) (w : World) (hr0_1 : Kd.C k46 w A0_1 l0_1.length l0_1) (hc0_1 : l0_1.length ≤ c0_1) (h : modillionref07_Right.f k a0_0 l0_1 a1_0 a1_1 a1_2 = some r) :
  Calls Try.prog 11 #[.agg #[.int .i64 a0_0, .slice A0_1 l0_1.length c0_1], .agg #[.string a1_0, .int .i64 a1_1, .int .i64 a1_2]] w fun e w' => e = .returned (.bool r) ∧ Below w.heap.size w w' := by
 have hu24 := Try.underlying24
 have hu26 := Try.underlying26
 have HR0_1 := Aside0.mk hr0_1
 have HC0_1 := Aside0.mk hc0_1
 clear hr0_1 hc0_1
 have HB := Aside0.mk (Below.refl w.heap.size w)
 have H : ((modillionref05_Check.f k a0_0 l0_1).bind fun t127 => (if t127 = 0 then ((modillionref07_Known.f a1_0).bind fun t128 => (if t128 = true then (if a1_1 ≥ 0 then (if a1_1 < a0_0 then (if a1_2 ≥ 1 then (some (decide (a1_2 ≤ 64))) else (some false)) else (some false)) else (some false)) else (some false))) else (some false))) = some r := h
 clear h
 replace H := Option.bind_eq_some_iff.mp H
 obtain ⟨t127, A30, H⟩ := H
 replace H : (if t127 = 0 then ((modillionref07_Known.f a1_0).bind fun t128 => (if t128 = true then (if a1_1 ≥ 0 then (if a1_1 < a0_0 then (if a1_2 ≥ 1 then (some (decide (a1_2 ≤ 64))) else (some false)) else (some false)) else (some false)) else (some false))) else (some false)) = some r := H
 have A3 := Aside0.mk A30
 clear A30
 by_cases c4 : t127 = 0
 ·rw [if_pos c4] at H
  have c4b0 : (t127 == 0) = true := beq_iff_eq.mpr c4
  have c4b1 : (t127 != 0) = false := bne_eq_false_iff_eq.mpr c4
  clear c4
  replace H := Option.bind_eq_some_iff.mp H
  obtain ⟨t128, A50, H⟩ := H
  replace H : (if t128 = true then (if a1_1 ≥ 0 then (if a1_1 < a0_0 then (if a1_2 ≥ 1 then (some (decide (a1_2 ≤ 64))) else (some false)) else (some false)) else (some false)) else (some false)) = some r := H
  have A5 := Aside0.mk A50
  clear A50
  by_cases c6 : t128 = true
  ·subst c6
   have H1 : (if a1_1 ≥ 0 then (if a1_1 < a0_0 then (if a1_2 ≥ 1 then (some (decide (a1_2 ≤ 64))) else (some false)) else (some false)) else (some false)) = some r := by rw [if_pos rfl] at H; exact H
   clear H
   have H := H1
   clear H1
   by_cases c7 : a1_1 ≥ 0
   ·rw [if_pos c7] at H
    have c7b0 : decide (0 ≤ a1_1) = true := decide_eq_true c7
    clear c7
    by_cases c8 : a1_1 < a0_0
    ·rw [if_pos c8] at H
     have c8b0 := decide_eq_true c8
     clear c8
     by_cases c9 : a1_2 ≥ 1
     ·rw [if_pos c9] at H
      have c9b0 : decide (1 ≤ a1_2) = true := decide_eq_true c9
      clear c9
      obtain rfl := Option.some.inj H
      go_enter Try.func11, Try.ntmps11
      go_wp2_with (first | ((with_reducible refine gate_dst (N := 2) rfl ?_); refine box_event ?hg (N := 2) ?hd (cs := #[.int .i64 a0_0, .slice A0_1 l0_1.length c0_1]) (t := 24) ?hr ?_; (case hd => rfl); (case hg => rfl); (case hr => first | (go_simp; done) | (go_simp; rfl)); intro gb125 hg w10 hbox hb; have n0_ := Aside0.mk (below_step (kB HB.out) hb); have n1_ := Aside0.mk (hbox); have n2_ := Aside0.mk ((by rw [hg]; exact (below_size (kB HB.out)) : w.heap.size ≤ gb125)); have n3_ := Aside0.mk ((by rw [hg]; exact (below_size (kB HB.out)) : w.heap.size ≤ gb125)); clear HB; have HB := n0_; have BK125 := n1_; have GW125 := n2_; have GE125 := n3_; clear n0_ n1_ n2_ n3_; clear hb hbox hg) | ((with_reducible refine gate_dst (N := 3) rfl ?_); refine box_event ?hg (N := 3) ?hd (cs := #[.string a1_0, .int .i64 a1_1, .int .i64 a1_2]) (t := 26) ?hr ?_; (case hd => rfl); (case hg => rfl); (case hr => first | (go_simp; done) | (go_simp; rfl)); intro gb126 hg w11 hbox hb; have n0_ := Aside0.mk (blk_below (g := gb125) (o := .cells #[.int .i64 a0_0, .slice A0_1 l0_1.length c0_1] 24 (0, 0)) (kA BK125.out) hb); have n1_ := Aside0.mk (below_step (kB HB.out) hb); have n2_ := Aside0.mk (hbox); have n3_ := Aside0.mk ((by rw [hg]; exact (below_size (kB HB.out)) : w.heap.size ≤ gb126)); have n4_ := Aside0.mk ((by rw [hg]; exact (below_size (kB HB.out)) : w.heap.size ≤ gb126)); have n5_ := Aside0.mk ((by rw [hg]; exact Nat.ne_of_lt (blk_lt (g := gb125) (o := .cells #[.int .i64 a0_0, .slice A0_1 l0_1.length c0_1] 24 (0, 0)) (kA BK125.out)) : gb125 ≠ gb126)); have n6_ := Aside0.mk ((by rw [hg]; exact Nat.ne_of_gt (blk_lt (g := gb125) (o := .cells #[.int .i64 a0_0, .slice A0_1 l0_1.length c0_1] 24 (0, 0)) (kA BK125.out)) : gb126 ≠ gb125)); clear BK125; clear HB; have BK125 := n0_; have HB := n1_; have BK126 := n2_; have GW126 := n3_; have GE126 := n4_; have NB125_126 := n5_; have NB126_125 := n6_; clear n0_ n1_ n2_ n3_ n4_ n5_ n6_; clear hb hbox hg; have hnb12 := NB125_126.out; have hnc12 := NB126_125.out; have hcz13_0 : w11.cell? ⟨gb125, 0, none⟩ = some (.int .i64 a0_0) := (blk_cell BK125.out 0).trans rfl; have hcz13_1 : w11.cell? ⟨gb125, 1, none⟩ = some (.slice A0_1 l0_1.length c0_1) := (blk_cell BK125.out 1).trans rfl; have hfz13_0 := blk_frozen BK125.out 0; have hfz13_1 := blk_frozen BK125.out 1) | ((with_reducible refine gate_callee (f := 23) rfl ?_); refine goesL_ (some 6) rfl rfl Try.func23 (by kernel_rfl) rfl #[.agg #[.int .i64 a0_0, .slice A0_1 l0_1.length c0_1]] rfl (by (try simp only [List.map_toArray, List.map_cons, List.map_nil]); first | done | rfl | (simp only [List.length_drop, List.length_take]; rfl)) ?_; (with_reducible refine (modillionref05_Check.calls k a0_0 _ _ l0_1 t127 _ ?side1 ?side2 A3.out).mono ?_); (case side1 => repeat (first | exact (Kd.C_below HR0_1.out HB.out) | (with_reducible refine Kd.C_alloc ?_ _) | (with_reducible refine Kd.C_drewN ?_ _) | (with_reducible refine Kd.C_drew ?_))); (case side2 => exact HC0_1.out); rintro e w14 ⟨rfl, hb⟩; refine ⟨_, rfl, ?_⟩; have n0_ := Aside0.mk (blk_below (g := gb125) (o := .cells #[.int .i64 a0_0, .slice A0_1 l0_1.length c0_1] 24 (0, 0)) (kA BK125.out) hb); have n1_ := Aside0.mk (blk_below (g := gb126) (o := .cells #[.string a1_0, .int .i64 a1_1, .int .i64 a1_2] 26 (0, 0)) (kA BK126.out) hb); have n2_ := Aside0.mk (below_step (kB HB.out) hb); clear BK125; clear BK126; clear HB; have BK125 := n0_; have BK126 := n1_; have HB := n2_; clear n0_ n1_ n2_; (try clear hb); (try clear hb2); (try clear hk); (try clear hi); have hcz15_0 : w14.cell? ⟨gb126, 0, none⟩ = some (.string a1_0) := (blk_cell BK126.out 0).trans rfl; have hcz15_1 : w14.cell? ⟨gb126, 1, none⟩ = some (.int .i64 a1_1) := (blk_cell BK126.out 1).trans rfl; have hcz15_2 : w14.cell? ⟨gb126, 2, none⟩ = some (.int .i64 a1_2) := (blk_cell BK126.out 2).trans rfl; have hfz15_0 := blk_frozen BK126.out 0; have hfz15_1 := blk_frozen BK126.out 1; have hfz15_2 := blk_frozen BK126.out 2) | (go_at_call 20; (with_reducible refine (modillionref07_Known.calls a1_0 true _ A5.out).mono ?_); rintro e w' ⟨rfl, ⟨nd, rfl⟩⟩; have hcz16_0 : w14.cell? ⟨gb125, 0, none⟩ = some (.int .i64 a0_0) := (blk_cell BK125.out 0).trans rfl; have hcz16_1 : w14.cell? ⟨gb125, 1, none⟩ = some (.slice A0_1 l0_1.length c0_1) := (blk_cell BK125.out 1).trans rfl; have hfz16_0 := blk_frozen BK125.out 0; have hfz16_1 := blk_frozen BK125.out 1))
      go_ret
      exact ⟨by first | rfl | (simp [errW_none, errW_some] <;> rfl) | (simp [*, errW_none, errW_some] <;> rfl), by exact kB HB.out⟩
     ·rw [if_neg c9] at H
      have c9b0 : decide (1 ≤ a1_2) = false := decide_eq_false c9
      clear c9
      obtain rfl := Option.some.inj H
      go_enter Try.func11, Try.ntmps11
      go_wp2_with (first | ((with_reducible refine gate_dst (N := 2) rfl ?_); refine box_event ?hg (N := 2) ?hd (cs := #[.int .i64 a0_0, .slice A0_1 l0_1.length c0_1]) (t := 24) ?hr ?_; (case hd => rfl); (case hg => rfl); (case hr => first | (go_simp; done) | (go_simp; rfl)); intro gb125 hg w17 hbox hb; have n0_ := Aside0.mk (below_step (kB HB.out) hb); have n1_ := Aside0.mk (hbox); have n2_ := Aside0.mk ((by rw [hg]; exact (below_size (kB HB.out)) : w.heap.size ≤ gb125)); have n3_ := Aside0.mk ((by rw [hg]; exact (below_size (kB HB.out)) : w.heap.size ≤ gb125)); clear HB; have HB := n0_; have BK125 := n1_; have GW125 := n2_; have GE125 := n3_; clear n0_ n1_ n2_ n3_; clear hb hbox hg) | ((with_reducible refine gate_dst (N := 3) rfl ?_); refine box_event ?hg (N := 3) ?hd (cs := #[.string a1_0, .int .i64 a1_1, .int .i64 a1_2]) (t := 26) ?hr ?_; (case hd => rfl); (case hg => rfl); (case hr => first | (go_simp; done) | (go_simp; rfl)); intro gb126 hg w18 hbox hb; have n0_ := Aside0.mk (blk_below (g := gb125) (o := .cells #[.int .i64 a0_0, .slice A0_1 l0_1.length c0_1] 24 (0, 0)) (kA BK125.out) hb); have n1_ := Aside0.mk (below_step (kB HB.out) hb); have n2_ := Aside0.mk (hbox); have n3_ := Aside0.mk ((by rw [hg]; exact (below_size (kB HB.out)) : w.heap.size ≤ gb126)); have n4_ := Aside0.mk ((by rw [hg]; exact (below_size (kB HB.out)) : w.heap.size ≤ gb126)); have n5_ := Aside0.mk ((by rw [hg]; exact Nat.ne_of_lt (blk_lt (g := gb125) (o := .cells #[.int .i64 a0_0, .slice A0_1 l0_1.length c0_1] 24 (0, 0)) (kA BK125.out)) : gb125 ≠ gb126)); have n6_ := Aside0.mk ((by rw [hg]; exact Nat.ne_of_gt (blk_lt (g := gb125) (o := .cells #[.int .i64 a0_0, .slice A0_1 l0_1.length c0_1] 24 (0, 0)) (kA BK125.out)) : gb126 ≠ gb125)); clear BK125; clear HB; have BK125 := n0_; have HB := n1_; have BK126 := n2_; have GW126 := n3_; have GE126 := n4_; have NB125_126 := n5_; have NB126_125 := n6_; clear n0_ n1_ n2_ n3_ n4_ n5_ n6_; clear hb hbox hg; have hnb19 := NB125_126.out; have hnc19 := NB126_125.out; have hcz20_0 : w18.cell? ⟨gb125, 0, none⟩ = some (.int .i64 a0_0) := (blk_cell BK125.out 0).trans rfl; have hcz20_1 : w18.cell? ⟨gb125, 1, none⟩ = some (.slice A0_1 l0_1.length c0_1) := (blk_cell BK125.out 1).trans rfl; have hfz20_0 := blk_frozen BK125.out 0; have hfz20_1 := blk_frozen BK125.out 1) | ((with_reducible refine gate_callee (f := 23) rfl ?_); refine goesL_ (some 6) rfl rfl Try.func23 (by kernel_rfl) rfl #[.agg #[.int .i64 a0_0, .slice A0_1 l0_1.length c0_1]] rfl (by (try simp only [List.map_toArray, List.map_cons, List.map_nil]); first | done | rfl | (simp only [List.length_drop, List.length_take]; rfl)) ?_; (with_reducible refine (modillionref05_Check.calls k a0_0 _ _ l0_1 t127 _ ?side1 ?side2 A3.out).mono ?_); (case side1 => repeat (first | exact (Kd.C_below HR0_1.out HB.out) | (with_reducible refine Kd.C_alloc ?_ _) | (with_reducible refine Kd.C_drewN ?_ _) | (with_reducible refine Kd.C_drew ?_))); (case side2 => exact HC0_1.out); rintro e w21 ⟨rfl, hb⟩; refine ⟨_, rfl, ?_⟩; have n0_ := Aside0.mk (blk_below (g := gb125) (o := .cells #[.int .i64 a0_0, .slice A0_1 l0_1.length c0_1] 24 (0, 0)) (kA BK125.out) hb); have n1_ := Aside0.mk (blk_below (g := gb126) (o := .cells #[.string a1_0, .int .i64 a1_1, .int .i64 a1_2] 26 (0, 0)) (kA BK126.out) hb); have n2_ := Aside0.mk (below_step (kB HB.out) hb); clear BK125; clear BK126; clear HB; have BK125 := n0_; have BK126 := n1_; have HB := n2_; clear n0_ n1_ n2_; (try clear hb); (try clear hb2); (try clear hk); (try clear hi); have hcz22_0 : w21.cell? ⟨gb126, 0, none⟩ = some (.string a1_0) := (blk_cell BK126.out 0).trans rfl; have hcz22_1 : w21.cell? ⟨gb126, 1, none⟩ = some (.int .i64 a1_1) := (blk_cell BK126.out 1).trans rfl; have hcz22_2 : w21.cell? ⟨gb126, 2, none⟩ = some (.int .i64 a1_2) := (blk_cell BK126.out 2).trans rfl; have hfz22_0 := blk_frozen BK126.out 0; have hfz22_1 := blk_frozen BK126.out 1; have hfz22_2 := blk_frozen BK126.out 2) | (go_at_call 20; (with_reducible refine (modillionref07_Known.calls a1_0 true _ A5.out).mono ?_); rintro e w' ⟨rfl, ⟨nd, rfl⟩⟩; have hcz23_0 : w21.cell? ⟨gb125, 0, none⟩ = some (.int .i64 a0_0) := (blk_cell BK125.out 0).trans rfl; have hcz23_1 : w21.cell? ⟨gb125, 1, none⟩ = some (.slice A0_1 l0_1.length c0_1) := (blk_cell BK125.out 1).trans rfl; have hfz23_0 := blk_frozen BK125.out 0; have hfz23_1 := blk_frozen BK125.out 1))
      go_ret
      exact ⟨by first | rfl | (simp [errW_none, errW_some] <;> rfl) | (simp [*, errW_none, errW_some] <;> rfl), by exact kB HB.out⟩
    ·rw [if_neg c8] at H
     have c8b0 := decide_eq_false c8
     clear c8
     obtain rfl := Option.some.inj H
     go_enter Try.func11, Try.ntmps11
     go_wp2_with (first | ((with_reducible refine gate_dst (N := 2) rfl ?_); refine box_event ?hg (N := 2) ?hd (cs := #[.int .i64 a0_0, .slice A0_1 l0_1.length c0_1]) (t := 24) ?hr ?_; (case hd => rfl); (case hg => rfl); (case hr => first | (go_simp; done) | (go_simp; rfl)); intro gb125 hg w24 hbox hb; have n0_ := Aside0.mk (below_step (kB HB.out) hb); have n1_ := Aside0.mk (hbox); have n2_ := Aside0.mk ((by rw [hg]; exact (below_size (kB HB.out)) : w.heap.size ≤ gb125)); have n3_ := Aside0.mk ((by rw [hg]; exact (below_size (kB HB.out)) : w.heap.size ≤ gb125)); clear HB; have HB := n0_; have BK125 := n1_; have GW125 := n2_; have GE125 := n3_; clear n0_ n1_ n2_ n3_; clear hb hbox hg) | ((with_reducible refine gate_dst (N := 3) rfl ?_); refine box_event ?hg (N := 3) ?hd (cs := #[.string a1_0, .int .i64 a1_1, .int .i64 a1_2]) (t := 26) ?hr ?_; (case hd => rfl); (case hg => rfl); (case hr => first | (go_simp; done) | (go_simp; rfl)); intro gb126 hg w25 hbox hb; have n0_ := Aside0.mk (blk_below (g := gb125) (o := .cells #[.int .i64 a0_0, .slice A0_1 l0_1.length c0_1] 24 (0, 0)) (kA BK125.out) hb); have n1_ := Aside0.mk (below_step (kB HB.out) hb); have n2_ := Aside0.mk (hbox); have n3_ := Aside0.mk ((by rw [hg]; exact (below_size (kB HB.out)) : w.heap.size ≤ gb126)); have n4_ := Aside0.mk ((by rw [hg]; exact (below_size (kB HB.out)) : w.heap.size ≤ gb126)); have n5_ := Aside0.mk ((by rw [hg]; exact Nat.ne_of_lt (blk_lt (g := gb125) (o := .cells #[.int .i64 a0_0, .slice A0_1 l0_1.length c0_1] 24 (0, 0)) (kA BK125.out)) : gb125 ≠ gb126)); have n6_ := Aside0.mk ((by rw [hg]; exact Nat.ne_of_gt (blk_lt (g := gb125) (o := .cells #[.int .i64 a0_0, .slice A0_1 l0_1.length c0_1] 24 (0, 0)) (kA BK125.out)) : gb126 ≠ gb125)); clear BK125; clear HB; have BK125 := n0_; have HB := n1_; have BK126 := n2_; have GW126 := n3_; have GE126 := n4_; have NB125_126 := n5_; have NB126_125 := n6_; clear n0_ n1_ n2_ n3_ n4_ n5_ n6_; clear hb hbox hg; have hnb26 := NB125_126.out; have hnc26 := NB126_125.out; have hcz27_0 : w25.cell? ⟨gb125, 0, none⟩ = some (.int .i64 a0_0) := (blk_cell BK125.out 0).trans rfl; have hcz27_1 : w25.cell? ⟨gb125, 1, none⟩ = some (.slice A0_1 l0_1.length c0_1) := (blk_cell BK125.out 1).trans rfl; have hfz27_0 := blk_frozen BK125.out 0; have hfz27_1 := blk_frozen BK125.out 1) | ((with_reducible refine gate_callee (f := 23) rfl ?_); refine goesL_ (some 6) rfl rfl Try.func23 (by kernel_rfl) rfl #[.agg #[.int .i64 a0_0, .slice A0_1 l0_1.length c0_1]] rfl (by (try simp only [List.map_toArray, List.map_cons, List.map_nil]); first | done | rfl | (simp only [List.length_drop, List.length_take]; rfl)) ?_; (with_reducible refine (modillionref05_Check.calls k a0_0 _ _ l0_1 t127 _ ?side1 ?side2 A3.out).mono ?_); (case side1 => repeat (first | exact (Kd.C_below HR0_1.out HB.out) | (with_reducible refine Kd.C_alloc ?_ _) | (with_reducible refine Kd.C_drewN ?_ _) | (with_reducible refine Kd.C_drew ?_))); (case side2 => exact HC0_1.out); rintro e w28 ⟨rfl, hb⟩; refine ⟨_, rfl, ?_⟩; have n0_ := Aside0.mk (blk_below (g := gb125) (o := .cells #[.int .i64 a0_0, .slice A0_1 l0_1.length c0_1] 24 (0, 0)) (kA BK125.out) hb); have n1_ := Aside0.mk (blk_below (g := gb126) (o := .cells #[.string a1_0, .int .i64 a1_1, .int .i64 a1_2] 26 (0, 0)) (kA BK126.out) hb); have n2_ := Aside0.mk (below_step (kB HB.out) hb); clear BK125; clear BK126; clear HB; have BK125 := n0_; have BK126 := n1_; have HB := n2_; clear n0_ n1_ n2_; (try clear hb); (try clear hb2); (try clear hk); (try clear hi); have hcz29_0 : w28.cell? ⟨gb126, 0, none⟩ = some (.string a1_0) := (blk_cell BK126.out 0).trans rfl; have hcz29_1 : w28.cell? ⟨gb126, 1, none⟩ = some (.int .i64 a1_1) := (blk_cell BK126.out 1).trans rfl; have hcz29_2 : w28.cell? ⟨gb126, 2, none⟩ = some (.int .i64 a1_2) := (blk_cell BK126.out 2).trans rfl; have hfz29_0 := blk_frozen BK126.out 0; have hfz29_1 := blk_frozen BK126.out 1; have hfz29_2 := blk_frozen BK126.out 2) | (go_at_call 20; (with_reducible refine (modillionref07_Known.calls a1_0 true _ A5.out).mono ?_); rintro e w' ⟨rfl, ⟨nd, rfl⟩⟩; have hcz30_0 : w28.cell? ⟨gb125, 0, none⟩ = some (.int .i64 a0_0) := (blk_cell BK125.out 0).trans rfl; have hcz30_1 : w28.cell? ⟨gb125, 1, none⟩ = some (.slice A0_1 l0_1.length c0_1) := (blk_cell BK125.out 1).trans rfl; have hfz30_0 := blk_frozen BK125.out 0; have hfz30_1 := blk_frozen BK125.out 1))
     go_ret
     exact ⟨by first | rfl | (simp [errW_none, errW_some] <;> rfl) | (simp [*, errW_none, errW_some] <;> rfl), by exact kB HB.out⟩
   ·rw [if_neg c7] at H
    have c7b0 : decide (0 ≤ a1_1) = false := decide_eq_false c7
    clear c7
    obtain rfl := Option.some.inj H
    go_enter Try.func11, Try.ntmps11
    go_wp2_with (first | ((with_reducible refine gate_dst (N := 2) rfl ?_); refine box_event ?hg (N := 2) ?hd (cs := #[.int .i64 a0_0, .slice A0_1 l0_1.length c0_1]) (t := 24) ?hr ?_; (case hd => rfl); (case hg => rfl); (case hr => first | (go_simp; done) | (go_simp; rfl)); intro gb125 hg w31 hbox hb; have n0_ := Aside0.mk (below_step (kB HB.out) hb); have n1_ := Aside0.mk (hbox); have n2_ := Aside0.mk ((by rw [hg]; exact (below_size (kB HB.out)) : w.heap.size ≤ gb125)); have n3_ := Aside0.mk ((by rw [hg]; exact (below_size (kB HB.out)) : w.heap.size ≤ gb125)); clear HB; have HB := n0_; have BK125 := n1_; have GW125 := n2_; have GE125 := n3_; clear n0_ n1_ n2_ n3_; clear hb hbox hg) | ((with_reducible refine gate_dst (N := 3) rfl ?_); refine box_event ?hg (N := 3) ?hd (cs := #[.string a1_0, .int .i64 a1_1, .int .i64 a1_2]) (t := 26) ?hr ?_; (case hd => rfl); (case hg => rfl); (case hr => first | (go_simp; done) | (go_simp; rfl)); intro gb126 hg w32 hbox hb; have n0_ := Aside0.mk (blk_below (g := gb125) (o := .cells #[.int .i64 a0_0, .slice A0_1 l0_1.length c0_1] 24 (0, 0)) (kA BK125.out) hb); have n1_ := Aside0.mk (below_step (kB HB.out) hb); have n2_ := Aside0.mk (hbox); have n3_ := Aside0.mk ((by rw [hg]; exact (below_size (kB HB.out)) : w.heap.size ≤ gb126)); have n4_ := Aside0.mk ((by rw [hg]; exact (below_size (kB HB.out)) : w.heap.size ≤ gb126)); have n5_ := Aside0.mk ((by rw [hg]; exact Nat.ne_of_lt (blk_lt (g := gb125) (o := .cells #[.int .i64 a0_0, .slice A0_1 l0_1.length c0_1] 24 (0, 0)) (kA BK125.out)) : gb125 ≠ gb126)); have n6_ := Aside0.mk ((by rw [hg]; exact Nat.ne_of_gt (blk_lt (g := gb125) (o := .cells #[.int .i64 a0_0, .slice A0_1 l0_1.length c0_1] 24 (0, 0)) (kA BK125.out)) : gb126 ≠ gb125)); clear BK125; clear HB; have BK125 := n0_; have HB := n1_; have BK126 := n2_; have GW126 := n3_; have GE126 := n4_; have NB125_126 := n5_; have NB126_125 := n6_; clear n0_ n1_ n2_ n3_ n4_ n5_ n6_; clear hb hbox hg; have hnb33 := NB125_126.out; have hnc33 := NB126_125.out; have hcz34_0 : w32.cell? ⟨gb125, 0, none⟩ = some (.int .i64 a0_0) := (blk_cell BK125.out 0).trans rfl; have hcz34_1 : w32.cell? ⟨gb125, 1, none⟩ = some (.slice A0_1 l0_1.length c0_1) := (blk_cell BK125.out 1).trans rfl; have hfz34_0 := blk_frozen BK125.out 0; have hfz34_1 := blk_frozen BK125.out 1) | ((with_reducible refine gate_callee (f := 23) rfl ?_); refine goesL_ (some 6) rfl rfl Try.func23 (by kernel_rfl) rfl #[.agg #[.int .i64 a0_0, .slice A0_1 l0_1.length c0_1]] rfl (by (try simp only [List.map_toArray, List.map_cons, List.map_nil]); first | done | rfl | (simp only [List.length_drop, List.length_take]; rfl)) ?_; (with_reducible refine (modillionref05_Check.calls k a0_0 _ _ l0_1 t127 _ ?side1 ?side2 A3.out).mono ?_); (case side1 => repeat (first | exact (Kd.C_below HR0_1.out HB.out) | (with_reducible refine Kd.C_alloc ?_ _) | (with_reducible refine Kd.C_drewN ?_ _) | (with_reducible refine Kd.C_drew ?_))); (case side2 => exact HC0_1.out); rintro e w35 ⟨rfl, hb⟩; refine ⟨_, rfl, ?_⟩; have n0_ := Aside0.mk (blk_below (g := gb125) (o := .cells #[.int .i64 a0_0, .slice A0_1 l0_1.length c0_1] 24 (0, 0)) (kA BK125.out) hb); have n1_ := Aside0.mk (blk_below (g := gb126) (o := .cells #[.string a1_0, .int .i64 a1_1, .int .i64 a1_2] 26 (0, 0)) (kA BK126.out) hb); have n2_ := Aside0.mk (below_step (kB HB.out) hb); clear BK125; clear BK126; clear HB; have BK125 := n0_; have BK126 := n1_; have HB := n2_; clear n0_ n1_ n2_; (try clear hb); (try clear hb2); (try clear hk); (try clear hi); have hcz36_0 : w35.cell? ⟨gb126, 0, none⟩ = some (.string a1_0) := (blk_cell BK126.out 0).trans rfl; have hcz36_1 : w35.cell? ⟨gb126, 1, none⟩ = some (.int .i64 a1_1) := (blk_cell BK126.out 1).trans rfl; have hcz36_2 : w35.cell? ⟨gb126, 2, none⟩ = some (.int .i64 a1_2) := (blk_cell BK126.out 2).trans rfl; have hfz36_0 := blk_frozen BK126.out 0; have hfz36_1 := blk_frozen BK126.out 1; have hfz36_2 := blk_frozen BK126.out 2) | (go_at_call 20; (with_reducible refine (modillionref07_Known.calls a1_0 true _ A5.out).mono ?_); rintro e w' ⟨rfl, ⟨nd, rfl⟩⟩))
    go_ret
    exact ⟨by first | rfl | (simp [errW_none, errW_some] <;> rfl) | (simp [*, errW_none, errW_some] <;> rfl), by exact kB HB.out⟩
  ·replace c6 := Bool.eq_false_iff.mpr c6
   subst c6
   have H1 : (some false) = some r := by rw [if_neg (show ¬ (false = true) by decide)] at H; exact H
   clear H
   have H := H1
   clear H1
   obtain rfl := Option.some.inj H
   go_enter Try.func11, Try.ntmps11
   go_wp2_with (first | ((with_reducible refine gate_dst (N := 2) rfl ?_); refine box_event ?hg (N := 2) ?hd (cs := #[.int .i64 a0_0, .slice A0_1 l0_1.length c0_1]) (t := 24) ?hr ?_; (case hd => rfl); (case hg => rfl); (case hr => first | (go_simp; done) | (go_simp; rfl)); intro gb125 hg w37 hbox hb; have n0_ := Aside0.mk (below_step (kB HB.out) hb); have n1_ := Aside0.mk (hbox); have n2_ := Aside0.mk ((by rw [hg]; exact (below_size (kB HB.out)) : w.heap.size ≤ gb125)); have n3_ := Aside0.mk ((by rw [hg]; exact (below_size (kB HB.out)) : w.heap.size ≤ gb125)); clear HB; have HB := n0_; have BK125 := n1_; have GW125 := n2_; have GE125 := n3_; clear n0_ n1_ n2_ n3_; clear hb hbox hg) | ((with_reducible refine gate_dst (N := 3) rfl ?_); refine box_event ?hg (N := 3) ?hd (cs := #[.string a1_0, .int .i64 a1_1, .int .i64 a1_2]) (t := 26) ?hr ?_; (case hd => rfl); (case hg => rfl); (case hr => first | (go_simp; done) | (go_simp; rfl)); intro gb126 hg w38 hbox hb; have n0_ := Aside0.mk (blk_below (g := gb125) (o := .cells #[.int .i64 a0_0, .slice A0_1 l0_1.length c0_1] 24 (0, 0)) (kA BK125.out) hb); have n1_ := Aside0.mk (below_step (kB HB.out) hb); have n2_ := Aside0.mk (hbox); have n3_ := Aside0.mk ((by rw [hg]; exact (below_size (kB HB.out)) : w.heap.size ≤ gb126)); have n4_ := Aside0.mk ((by rw [hg]; exact (below_size (kB HB.out)) : w.heap.size ≤ gb126)); have n5_ := Aside0.mk ((by rw [hg]; exact Nat.ne_of_lt (blk_lt (g := gb125) (o := .cells #[.int .i64 a0_0, .slice A0_1 l0_1.length c0_1] 24 (0, 0)) (kA BK125.out)) : gb125 ≠ gb126)); have n6_ := Aside0.mk ((by rw [hg]; exact Nat.ne_of_gt (blk_lt (g := gb125) (o := .cells #[.int .i64 a0_0, .slice A0_1 l0_1.length c0_1] 24 (0, 0)) (kA BK125.out)) : gb126 ≠ gb125)); clear BK125; clear HB; have BK125 := n0_; have HB := n1_; have BK126 := n2_; have GW126 := n3_; have GE126 := n4_; have NB125_126 := n5_; have NB126_125 := n6_; clear n0_ n1_ n2_ n3_ n4_ n5_ n6_; clear hb hbox hg; have hnb39 := NB125_126.out; have hnc39 := NB126_125.out; have hcz40_0 : w38.cell? ⟨gb125, 0, none⟩ = some (.int .i64 a0_0) := (blk_cell BK125.out 0).trans rfl; have hcz40_1 : w38.cell? ⟨gb125, 1, none⟩ = some (.slice A0_1 l0_1.length c0_1) := (blk_cell BK125.out 1).trans rfl; have hfz40_0 := blk_frozen BK125.out 0; have hfz40_1 := blk_frozen BK125.out 1) | ((with_reducible refine gate_callee (f := 23) rfl ?_); refine goesL_ (some 6) rfl rfl Try.func23 (by kernel_rfl) rfl #[.agg #[.int .i64 a0_0, .slice A0_1 l0_1.length c0_1]] rfl (by (try simp only [List.map_toArray, List.map_cons, List.map_nil]); first | done | rfl | (simp only [List.length_drop, List.length_take]; rfl)) ?_; (with_reducible refine (modillionref05_Check.calls k a0_0 _ _ l0_1 t127 _ ?side1 ?side2 A3.out).mono ?_); (case side1 => repeat (first | exact (Kd.C_below HR0_1.out HB.out) | (with_reducible refine Kd.C_alloc ?_ _) | (with_reducible refine Kd.C_drewN ?_ _) | (with_reducible refine Kd.C_drew ?_))); (case side2 => exact HC0_1.out); rintro e w41 ⟨rfl, hb⟩; refine ⟨_, rfl, ?_⟩; have n0_ := Aside0.mk (blk_below (g := gb125) (o := .cells #[.int .i64 a0_0, .slice A0_1 l0_1.length c0_1] 24 (0, 0)) (kA BK125.out) hb); have n1_ := Aside0.mk (blk_below (g := gb126) (o := .cells #[.string a1_0, .int .i64 a1_1, .int .i64 a1_2] 26 (0, 0)) (kA BK126.out) hb); have n2_ := Aside0.mk (below_step (kB HB.out) hb); clear BK125; clear BK126; clear HB; have BK125 := n0_; have BK126 := n1_; have HB := n2_; clear n0_ n1_ n2_; (try clear hb); (try clear hb2); (try clear hk); (try clear hi); have hcz42_0 : w41.cell? ⟨gb126, 0, none⟩ = some (.string a1_0) := (blk_cell BK126.out 0).trans rfl; have hcz42_1 : w41.cell? ⟨gb126, 1, none⟩ = some (.int .i64 a1_1) := (blk_cell BK126.out 1).trans rfl; have hcz42_2 : w41.cell? ⟨gb126, 2, none⟩ = some (.int .i64 a1_2) := (blk_cell BK126.out 2).trans rfl; have hfz42_0 := blk_frozen BK126.out 0; have hfz42_1 := blk_frozen BK126.out 1; have hfz42_2 := blk_frozen BK126.out 2) | (go_at_call 20; (with_reducible refine (modillionref07_Known.calls a1_0 false _ A5.out).mono ?_); rintro e w' ⟨rfl, ⟨nd, rfl⟩⟩))
   go_ret
   exact ⟨by first | rfl | (simp [errW_none, errW_some] <;> rfl) | (simp [*, errW_none, errW_some] <;> rfl), by exact kB HB.out⟩
 ·rw [if_neg c4] at H
  have c4b0 : (t127 == 0) = false := beq_eq_false_iff_ne.mpr c4
  have c4b1 : (t127 != 0) = true := bne_iff_ne.mpr c4
  obtain rfl := Option.some.inj H
  go_enter Try.func11, Try.ntmps11
  go_wp2_with (first | ((with_reducible refine gate_dst (N := 2) rfl ?_); refine box_event ?hg (N := 2) ?hd (cs := #[.int .i64 a0_0, .slice A0_1 l0_1.length c0_1]) (t := 24) ?hr ?_; (case hd => rfl); (case hg => rfl); (case hr => first | (go_simp; done) | (go_simp; rfl)); intro gb125 hg w43 hbox hb; have n0_ := Aside0.mk (below_step (kB HB.out) hb); have n1_ := Aside0.mk (hbox); have n2_ := Aside0.mk ((by rw [hg]; exact (below_size (kB HB.out)) : w.heap.size ≤ gb125)); have n3_ := Aside0.mk ((by rw [hg]; exact (below_size (kB HB.out)) : w.heap.size ≤ gb125)); clear HB; have HB := n0_; have BK125 := n1_; have GW125 := n2_; have GE125 := n3_; clear n0_ n1_ n2_ n3_; clear hb hbox hg) | ((with_reducible refine gate_dst (N := 3) rfl ?_); refine box_event ?hg (N := 3) ?hd (cs := #[.string a1_0, .int .i64 a1_1, .int .i64 a1_2]) (t := 26) ?hr ?_; (case hd => rfl); (case hg => rfl); (case hr => first | (go_simp; done) | (go_simp; rfl)); intro gb126 hg w44 hbox hb; have n0_ := Aside0.mk (blk_below (g := gb125) (o := .cells #[.int .i64 a0_0, .slice A0_1 l0_1.length c0_1] 24 (0, 0)) (kA BK125.out) hb); have n1_ := Aside0.mk (below_step (kB HB.out) hb); have n2_ := Aside0.mk (hbox); have n3_ := Aside0.mk ((by rw [hg]; exact (below_size (kB HB.out)) : w.heap.size ≤ gb126)); have n4_ := Aside0.mk ((by rw [hg]; exact (below_size (kB HB.out)) : w.heap.size ≤ gb126)); have n5_ := Aside0.mk ((by rw [hg]; exact Nat.ne_of_lt (blk_lt (g := gb125) (o := .cells #[.int .i64 a0_0, .slice A0_1 l0_1.length c0_1] 24 (0, 0)) (kA BK125.out)) : gb125 ≠ gb126)); have n6_ := Aside0.mk ((by rw [hg]; exact Nat.ne_of_gt (blk_lt (g := gb125) (o := .cells #[.int .i64 a0_0, .slice A0_1 l0_1.length c0_1] 24 (0, 0)) (kA BK125.out)) : gb126 ≠ gb125)); clear BK125; clear HB; have BK125 := n0_; have HB := n1_; have BK126 := n2_; have GW126 := n3_; have GE126 := n4_; have NB125_126 := n5_; have NB126_125 := n6_; clear n0_ n1_ n2_ n3_ n4_ n5_ n6_; clear hb hbox hg; have hnb45 := NB125_126.out; have hnc45 := NB126_125.out; have hcz46_0 : w44.cell? ⟨gb125, 0, none⟩ = some (.int .i64 a0_0) := (blk_cell BK125.out 0).trans rfl; have hcz46_1 : w44.cell? ⟨gb125, 1, none⟩ = some (.slice A0_1 l0_1.length c0_1) := (blk_cell BK125.out 1).trans rfl; have hfz46_0 := blk_frozen BK125.out 0; have hfz46_1 := blk_frozen BK125.out 1) | ((with_reducible refine gate_callee (f := 23) rfl ?_); refine goesL_ (some 6) rfl rfl Try.func23 (by kernel_rfl) rfl #[.agg #[.int .i64 a0_0, .slice A0_1 l0_1.length c0_1]] rfl (by (try simp only [List.map_toArray, List.map_cons, List.map_nil]); first | done | rfl | (simp only [List.length_drop, List.length_take]; rfl)) ?_; (with_reducible refine (modillionref05_Check.calls k a0_0 _ _ l0_1 t127 _ ?side1 ?side2 A3.out).mono ?_); (case side1 => repeat (first | exact (Kd.C_below HR0_1.out HB.out) | (with_reducible refine Kd.C_alloc ?_ _) | (with_reducible refine Kd.C_drewN ?_ _) | (with_reducible refine Kd.C_drew ?_))); (case side2 => exact HC0_1.out); rintro e w47 ⟨rfl, hb⟩; refine ⟨_, rfl, ?_⟩; have n0_ := Aside0.mk (blk_below (g := gb125) (o := .cells #[.int .i64 a0_0, .slice A0_1 l0_1.length c0_1] 24 (0, 0)) (kA BK125.out) hb); have n1_ := Aside0.mk (blk_below (g := gb126) (o := .cells #[.string a1_0, .int .i64 a1_1, .int .i64 a1_2] 26 (0, 0)) (kA BK126.out) hb); have n2_ := Aside0.mk (below_step (kB HB.out) hb); clear BK125; clear BK126; clear HB; have BK125 := n0_; have BK126 := n1_; have HB := n2_; clear n0_ n1_ n2_; (try clear hb); (try clear hb2); (try clear hk); (try clear hi)))
  go_ret
  exact ⟨by first | rfl | (simp [errW_none, errW_some] <;> rfl) | (simp [*, errW_none, errW_some] <;> rfl), by exact kB HB.out⟩

/-! ### modillionlaw07_own: function 13 -/
def modillionlaw07_own.f (a0_0 : Int) (l0_1 : List (S46)) : Option (Int × (List (S46))) := (some (([] : List (S46)) : List (S46))).bind fun y131 => (if y131.length + l0_1.length < 5864062014805 then (some (a0_0, (y131 ++ l0_1))) else (none))
def modillionlaw07_own.T1 : Bool × List (List Nat × List Nat) := (true, [([], []), ([0], [0]), ([], []), ([], []), ([3], [3]), ([2, 4], [2, 4]), ([1, 5], [1, 5]), ([6, 5, 0, 1, 2, 3, 4, 5, 6], [6])])
def modillionlaw07_own.B1 : List Nat := [0, 1, 0, 0, 8, 28, 63, 127]
theorem modillionlaw07_own.tab1 : rtab .any (opsOf Try.f13 1) = modillionlaw07_own.T1 := by kernel_rfl
theorem modillionlaw07_own.bits1 : waitsOk modillionlaw07_own.T1.2 modillionlaw07_own.B1 = true := by kernel_rfl
set_option maxHeartbeats 8000000 in
set_option maxRecDepth 100000 in
theorem modillionlaw07_own.calls (a0_0 : Int) (A0_1 : Option Addr) (c0_1 : Nat) (l0_1 : List (S46)) (r1 : Int) (r2 : List (S46)) (w : World) (hr0_1 : Kd.C k46 w A0_1 l0_1.length l0_1) (hc0_1 : l0_1.length ≤ c0_1) (h : modillionlaw07_own.f a0_0 l0_1 = some (r1, r2)) :
  Calls Try.prog 13 #[.agg #[.int .i64 a0_0, .slice A0_1 l0_1.length c0_1]] w fun e w' => ∃ v1_ : Value, e = .returned (.agg #[.int .i64 r1, v1_]) ∧ Kd.R k46 46 w' w.heap.size (fun _ => True) v1_ r2 ∧ Below w.heap.size w w' := by
 have hu24 := Try.underlying24
 have HR0_1 := Aside0.mk hr0_1
 have HC0_1 := Aside0.mk hc0_1
 clear hr0_1 hc0_1
 have HB := Aside0.mk (Below.refl w.heap.size w)
 have H : ((some (([] : List (S46)) : List (S46))).bind fun y131 => (if y131.length + l0_1.length < 5864062014805 then (some (a0_0, (y131 ++ l0_1))) else (none))) = some (r1, r2) := h
 clear h
 obtain ⟨y131, hy131⟩ : ∃ y_ : List (S46), y_ = (([] : List (S46))) := ⟨_, rfl⟩
 replace H : (if y131.length + l0_1.length < 5864062014805 then (some (a0_0, (y131 ++ l0_1))) else (none)) = some (r1, r2) := by first | (rw [hy131]; with_reducible exact H) | (have H2_ := (Option.bind_some _ _).symm.trans H; rw [hy131]; with_reducible exact H2_) | (have H2_ := (Option.bind_some _ _).symm.trans H; with_reducible exact H2_) | with_reducible exact H | (rw [hy131]; exact H) | exact H
 have Ny131 := Aside0.mk hy131
 clear hy131
 obtain ⟨c2, H⟩ := iteS11 H
 have LMc2 := Aside0.mk c2
 clear c2
 obtain ⟨y134, hy134⟩ : ∃ y_ : List (S46), y_ = (y131 ++ l0_1) := ⟨_, rfl⟩
 replace H : (some (a0_0, y134)) = some (r1, r2) := by first | (rw [hy134]; with_reducible exact H) | (have H2_ := (Option.bind_some _ _).symm.trans H; rw [hy134]; with_reducible exact H2_) | (have H2_ := (Option.bind_some _ _).symm.trans H; with_reducible exact H2_) | with_reducible exact H | (rw [hy134]; exact H) | exact H
 have Ny134 := Aside0.mk hy134
 clear hy134
 simp only [Option.some.injEq, Prod.mk.injEq] at H
 obtain ⟨rfl, rfl⟩ := H
 go_enter Try.func13, Try.ntmps13
 try go_wp2_with (first | ((with_reducible refine gate_dst (N := 1) rfl ?_); refine box_event ?hg (N := 1) ?hd (cs := #[.int .i64 a0_0, .slice A0_1 l0_1.length c0_1]) (t := 24) ?hr ?_; (case hd => rfl); (case hg => rfl); (case hr => first | (go_simp; done) | (go_simp; rfl)); intro gb129 hg w3 hbox hb; have n0_ := Aside0.mk (below_step (kB HB.out) hb); have n1_ := Aside0.mk (hbox); have n2_ := Aside0.mk ((by rw [hg]; exact (below_size (kB HB.out)) : w.heap.size ≤ gb129)); have n3_ := Aside0.mk ((by rw [hg]; exact (below_size (kB HB.out)) : w.heap.size ≤ gb129)); clear HB; have HB := n0_; have BK129 := n1_; have GW129 := n2_; have GE129 := n3_; clear n0_ n1_ n2_ n3_; clear hb hbox hg) | ((with_reducible refine gate_dst (N := 2) rfl ?_); refine box_event ?hg (N := 2) ?hd (cs := #[.int .i64 0, .slice none 0 0]) (t := 24) ?hr ?_; (case hd => rfl); (case hg => rfl); (case hr => first | (go_simp; done) | (go_simp; rfl)); intro gb130 hg w4 hbox hb; have n0_ := Aside0.mk (blk_below (g := gb129) (o := .cells #[.int .i64 a0_0, .slice A0_1 l0_1.length c0_1] 24 (0, 0)) (kA BK129.out) hb); have n1_ := Aside0.mk (below_step (kB HB.out) hb); have n2_ := Aside0.mk (hbox); have n3_ := Aside0.mk ((by rw [hg]; exact (below_size (kB HB.out)) : w.heap.size ≤ gb130)); have n4_ := Aside0.mk ((by rw [hg]; exact (below_size (kB HB.out)) : w.heap.size ≤ gb130)); have n5_ := Aside0.mk ((by rw [hg]; exact Nat.ne_of_lt (blk_lt (g := gb129) (o := .cells #[.int .i64 a0_0, .slice A0_1 l0_1.length c0_1] 24 (0, 0)) (kA BK129.out)) : gb129 ≠ gb130)); have n6_ := Aside0.mk ((by rw [hg]; exact Nat.ne_of_gt (blk_lt (g := gb129) (o := .cells #[.int .i64 a0_0, .slice A0_1 l0_1.length c0_1] 24 (0, 0)) (kA BK129.out)) : gb130 ≠ gb129)); clear BK129; clear HB; have BK129 := n0_; have HB := n1_; have BK130 := n2_; have GW130 := n3_; have GE130 := n4_; have NB129_130 := n5_; have NB130_129 := n6_; clear n0_ n1_ n2_ n3_ n4_ n5_ n6_; clear hb hbox hg))
 have n0_ := Aside0.mk (blk_drew BK129.out)
 have n1_ := Aside0.mk (blk_drew BK130.out)
 have n2_ := Aside0.mk (below_drew1 HB.out)
 clear BK129
 clear BK130
 clear HB
 have BK129 := n0_
 have BK130 := n1_
 have HB := n2_
 clear n0_ n1_ n2_
 refine start_ (n := 8) (S := fun w' => w'.cell? ⟨gb129, 0, none⟩ = some (.int .i64 a0_0) ∧ w'.cell? ⟨gb129, 1, none⟩ = some (.slice A0_1 l0_1.length c0_1)) (ds := []) #[false, false, false, false, false, false, false, false] (by kernel_rfl) rfl rfl ⟨(blk_cell BK129.out 0).trans rfl, (blk_cell BK129.out 1).trans rfl⟩ (fun hHeld => ?_); refine with_tabW modillionlaw07_own.tab1 modillionlaw07_own.bits1 (fun HT_ HW_ => ?_)
 generalize w4.drew = w5 at BK129 BK130 HB hHeld ⊢
 refine pure_ (i := 0) (N := some 3) (v := ?_) (a' := ?_) #[true, false, false, false, false, false, false, false] rfl rfl (any_of HT_.out (by kernel_rfl)) (fun _ _ _ h => h) (Or.inl ⟨by rfl, ?_⟩) ?_ ?_
 rotate_left
 ·intro w'
  go_simp
  with_reducible rfl
 rotate_left
 ·simp only [Act.put, List.setIfInBounds_toArray, List.set_cons_zero, List.set_cons_succ, i64_w, i32_w]
  rfl
 refine pure_ (i := 3) (N := some 6) (v := ?_) (a' := ?_) #[true, false, false, true, false, false, false, false] rfl rfl (any_of HT_.out (by kernel_rfl)) (fun _ _ _ h => h) (Or.inl ⟨by rfl, ?_⟩) ?_ ?_
 rotate_left
 ·intro w'
  go_simp
  with_reducible rfl
 rotate_left
 ·simp only [Act.put, List.setIfInBounds_toArray, List.set_cons_zero, List.set_cons_succ, i64_w, i32_w]
  rfl
 refine take_ (i := 1) (N := some 4) (v := ?_) (a' := ?_) #[true, true, false, true, false, false, false, false] rfl rfl (take_ofW HT_.out HW_.out (by kernel_rfl)) (fun _ _ _ h => h) (Or.inl ⟨by rfl, ?_⟩) hHeld ?_ ?_
 rotate_left
 ·rintro w' ⟨s0, s1⟩
  go_simp
  with_reducible rfl
 rotate_left
 ·simp only [Act.put, List.setIfInBounds_toArray, List.set_cons_zero, List.set_cons_succ, i64_w, i32_w]
  rfl
 refine take_ (i := 4) (N := some 7) (v := ?_) (a' := ?_) #[true, true, false, true, true, false, false, false] rfl rfl (take_ofW HT_.out HW_.out (by kernel_rfl)) (fun _ _ _ h => h) (Or.inl ⟨by rfl, ?_⟩) hHeld ?_ ?_
 rotate_left
 ·rintro w' ⟨s0, s1⟩
  go_simp
  with_reducible rfl
 rotate_left
 ·simp only [Act.put, List.setIfInBounds_toArray, List.set_cons_zero, List.set_cons_succ, i64_w, i32_w]
  rfl
 refine one_ (i := 2) (N := some 5) #[true, true, true, true, true, false, false, false] rfl rfl (one_of HT_.out (by kernel_rfl)) (by decide) (fun K hK => ?_)
 refine Kd.R_lit_step k46 _ 46 ?hg (N := 5) ?hd (xs := ([] : List (S46))) (inner := []) (ok := fun _ => True) (okp := fun _ => True) ?hr ?hp (fun _ hk => hk) trivial (Below.refl _ _) (Nat.le_refl _) (by simp) ?_; (case hd => rfl); (case hg => rfl); (case hr => first | (go_simp; done) | (go_simp; rfl)); (case hp => exact (Reps.none _ _))
 intro v132 w6 ho7 hb hg_ hnew_
 clear hg_ hnew_
 (first | rw [← Ny131.out] at ho7 | (simp only [Int.reduceToNat] at ho7; rw [← Ny131.out] at ho7))
 have n0_ := Aside0.mk (Kd.R_lower ho7 (below_size (kB HB.out)))
 have n1_ := Aside0.mk (blk_below (g := gb129) (o := .cells #[.int .i64 a0_0, .slice A0_1 l0_1.length c0_1] 24 (0, 0)) (kA BK129.out) hb)
 have n2_ := Aside0.mk (blk_below (g := gb130) (o := .cells #[.int .i64 0, .slice none 0 0] 24 (0, 0)) (kA BK130.out) hb)
 have n3_ := Aside0.mk (below_step (kB HB.out) hb)
 clear BK129
 clear BK130
 clear HB
 have HO133 := n0_
 have BK129 := n1_
 have BK130 := n2_
 have HB := n3_
 clear n0_ n1_ n2_ n3_
 clear hb ho7
 refine hK.out _ _ ⟨(blk_cell BK129.out 0).trans rfl, (blk_cell BK129.out 1).trans rfl⟩ (fun hHeld => ?_)
 clear hK K
 refine norm_ (a' := ?_) ?_ ?_
 rotate_left
 ·show Act.put _ (some 5) _ = _
  simp only [Act.put, List.setIfInBounds_toArray, List.set_cons_zero, List.set_cons_succ, i64_w, i32_w]
  rfl
 refine one_ (i := 5) (N := some 8) #[true, true, true, true, true, true, false, false] rfl rfl (one_of HT_.out (by kernel_rfl)) (by decide) (fun K hK => ?_)
 refine Kd.R_append_rows_step k46 (w0 := w) w.heap.size (by rfl) (.tmp 5) (.tmp 7) 22 46 (.agg #[(.int .i64 0), (.int .i64 0), (.int .i64 0)]) 24 rfl Try.underlying22 info46 rfl (by decide) (by omega) v132 y131 l0_1 _ _ _ (fun _ => True) (fun _ => False) rfl rfl ?aO ?aR (fun _ _ h => h) (fun _ h => h.elim) ?aF ?aB ?aS ?aL ?_
 (case aR => repeat (first | exact (Kd.C_below HR0_1.out HB.out) | (with_reducible refine Kd.C_alloc ?_ _) | (with_reducible refine Kd.C_drewN ?_ _) | (with_reducible refine Kd.C_drew ?_)))
 (case aB => exact (kB HB.out))
 (case aF => exact (fun _ _ => trivial))
 (case aO => exact (kR HO133.out))
 (case aS => exact (below_size (kB HB.out)))
 (case aL => have := LMc2.out; omega)
 intro v135 w8 ho hb hg hat
 rw [← Ny134.out] at ho
 have n0_ := Aside0.mk (blk_grown (g := gb129) (o := .cells #[.int .i64 a0_0, .slice A0_1 l0_1.length c0_1] 24 (0, 0)) (kA BK129.out) hg (Kd.R_ne HO133.out BK129.out (by decide)))
 have n1_ := Aside0.mk (blk_grown (g := gb130) (o := .cells #[.int .i64 0, .slice none 0 0] 24 (0, 0)) (kA BK130.out) hg (Kd.R_ne HO133.out BK130.out (by decide)))
 have n2_ := Aside0.mk (hb)
 have n3_ := Aside0.mk (ho)
 clear BK129
 clear BK130
 clear HB
 clear HO133
 have BK129 := n0_
 have BK130 := n1_
 have HB := n2_
 have HO136 := n3_
 clear n0_ n1_ n2_ n3_
 clear ho hb hg hat
 obtain ⟨Ao9, co9, eo9⟩ := Kd.R_slice HO136.out
 (first | subst eo9 | (injection eo9 with f1_ f2_ f3_; have f4_ := f1_.symm; have f5_ := f3_.symm; clear f1_ f2_ f3_; subst f4_; subst f5_))
 refine hK.out _ _ ⟨(blk_cell BK129.out 0).trans rfl, (blk_cell BK129.out 1).trans rfl⟩ (fun hHeld => ?_)
 clear hK K
 refine norm_ (a' := ?_) ?_ ?_
 rotate_left
 ·show Act.put _ (some 8) _ = _
  simp only [Act.put, List.setIfInBounds_toArray, List.set_cons_zero, List.set_cons_succ, i64_w, i32_w]
  rfl
 refine pure_ (i := 6) (N := some 9) (v := ?_) (a' := ?_) #[true, true, true, true, true, true, true, false] rfl rfl (any_of HT_.out (by kernel_rfl)) (fun _ _ _ h => h) (Or.inl ⟨by rfl, ?_⟩) ?_ ?_
 rotate_left
 ·intro w'
  go_simp
  with_reducible rfl
 rotate_left
 ·simp only [Act.put, List.setIfInBounds_toArray, List.set_cons_zero, List.set_cons_succ, i64_w, i32_w]
  rfl
 refine one_ (i := 7) (N := none) #[true, true, true, true, true, true, true, true] rfl rfl (one_of HT_.out (by kernel_rfl)) (by decide) (fun K hK => ?_)
 have hs10 : w8.cell? ⟨gb130, 0, none⟩ = some (.int .i64 0) := (blk_cell BK130.out 0).trans rfl
 have hfs10 := blk_frozen BK130.out 0
 have hns10_0 := NB129_130.out
 have hms10_0 := NB130_129.out
 have hs11 : w8.cell? ⟨gb130, 1, none⟩ = some (.slice none 0 0) := (blk_cell BK130.out 1).trans rfl
 have hfs11 := blk_frozen BK130.out 1
 have hns11_0 := NB129_130.out
 have hms11_0 := NB130_129.out
 refine skip_ (w1 := ?_) (by rfl) rfl ?_ ?_
 rotate_left
 ·go_simp
  rfl
 refine hK.out _ _ ⟨((cell_far (p := ⟨gb130, _, none⟩) NB129_130.out _).trans (((cell_far (p := ⟨gb130, _, none⟩) NB129_130.out _).trans (hHeld.1)))), ((cell_far (p := ⟨gb130, _, none⟩) NB129_130.out _).trans (((cell_far (p := ⟨gb130, _, none⟩) NB129_130.out _).trans (hHeld.2))))⟩ (fun hHeld => ?_)
 clear hK K
 refine done_ (done_of HT_.out (by kernel_rfl)) ?_
 try go_wp2
 refine bodyPost_ret (results_cell_row rfl _ _ gb130 24 #[.int .i64 a0_0, .slice Ao9 y134.length co9] (0, 0) _ rfl (by (with_reducible repeat (first | refine blk_drewN ?_ _ | refine blk_drew ?_ | refine blk_alloc ?_ _)); refine blk_put (cs := #[.int .i64 a0_0, .slice none 0 0]) ?_ 1 _ rfl; refine blk_put (cs := #[.int .i64 0, .slice none 0 0]) ?_ 0 _ rfl; exact kA BK130.out) Try.underlying24 rfl (by kernel_rfl)) rfl ?_
 exact ⟨_, by first | rfl | (simp [errW_none, errW_some] <;> rfl) | (simp [*, errW_none, errW_some] <;> rfl), by (with_reducible repeat (first | apply Kd.R_alloc | apply Kd.R_drewN | apply Kd.R_drew)); exact Kd.R_mono (Kd.R_far (p := ⟨gb130, 1, none⟩) (Kd.R_far (p := ⟨gb130, 0, none⟩) (Kd.R_types HO136.out BK130.out (by decide)) (fun _ hk => hk.2) (.int .i64 a0_0)) (fun _ hk => hk.2) (.slice Ao9 y134.length co9)) (fun _ hk => trivial), by exact kB HB.out⟩

/-! ### modillionref07_Great: function 29 -/
def modillionref07_Great.f (a0 : Int) : Option (Bool) := if a0 > 1125899906842624 then (some true) else (some (decide (a0 < (-1125899906842624))))
set_option maxHeartbeats 8000000 in
set_option maxRecDepth 100000 in
theorem modillionref07_Great.calls (a0 : Int) (r : Bool) (w : World) (h : modillionref07_Great.f a0 = some r) :
  Calls Try.prog 29 #[.int .i64 a0] w fun e w' => e = .returned (.bool r) ∧ Drawn0 w w' := by
 have H : (if a0 > 1125899906842624 then (some true) else (some (decide (a0 < (-1125899906842624))))) = some r := h
 clear h
 by_cases c2 : a0 > 1125899906842624
 ·rw [if_pos c2] at H
  have c2b0 : decide (1125899906842624 < a0) = true := decide_eq_true c2
  clear c2
  obtain rfl := Option.some.inj H
  go_enter Try.func29, Try.ntmps29
  go_wp2
  go_ret
  exact ⟨by first | rfl | (simp; done) | (simp [*]; done), by repeat (first | exact Drawn0.refl _ | apply Drawn0.step)⟩
 ·rw [if_neg c2] at H
  have c2b0 : decide (1125899906842624 < a0) = false := decide_eq_false c2
  clear c2
  obtain rfl := Option.some.inj H
  go_enter Try.func29, Try.ntmps29
  go_wp2
  go_ret
  exact ⟨by first | rfl | (simp; done) | (simp [*]; done), by repeat (first | exact Drawn0.refl _ | apply Drawn0.step)⟩

/-! ### modillionref07_all: function 38 (given) -/
/-- A message along an edge, as the reference counts. -/
def allV (val cnt : Int) (e : S46) : S48 := ⟨e.f0, e.f1, val + (if cnt = 1 then 1 else if cnt = 2 then e.f2 else 0)⟩
def fairW (e : S46) : Bool := decide (-9007199254740992 ≤ e.f2) && decide (e.f2 ≤ 9007199254740992)
def modillionref07_all.f (l0 : List S46) (a1 a2 : Int) : Option (List S48) := if l0.length ≤ 1000000 ∧ -9007199254740992 ≤ a1 ∧ a1 ≤ 9007199254740992 ∧ l0.all fairW = true then some (l0.map (allV a1 a2)) else none
section
open Go.Shelf Go.Proofs.Ytdmihkffjbapjaa.Bridge
theorem all_snoc (val cnt : Int) (l : List S46) (i : Nat) (h : i < l.length) : (l.take (i + 1)).map (allV val cnt) = (l.take i).map (allV val cnt) ++ [allV val cnt l[i]] := by
 rw [List.take_succ_eq_append_getElem h, List.map_append]
 rfl
set_option maxHeartbeats 16000000 in
set_option maxRecDepth 100000 in
theorem modillionref07_all.calls (A0 : Option Addr) (c0 : Nat) (l0 : List S46) (a1 a2 : Int) (r : List S48) (w : World) (hr0 : Kd.C k46 w A0 l0.length l0) (hc0 : l0.length ≤ c0) (h : modillionref07_all.f l0 a1 a2 = some r) :
  Calls Try.prog 38 #[.slice A0 l0.length c0, .int .i64 a1, .int .i64 a2] w fun e w' => ∃ v0_ : Value, e = .returned (v0_) ∧ Kd.R k48 48 w' w.heap.size (fun _ => True) v0_ r ∧ Below w.heap.size w w' := by
 unfold modillionref07_all.f at h
 by_cases hcond : l0.length ≤ 1000000 ∧ -9007199254740992 ≤ a1 ∧ a1 ≤ 9007199254740992 ∧ l0.all fairW = true
 ·rw [if_pos hcond] at h
  obtain rfl := Option.some.inj h
  obtain ⟨k1, k2, k3, k4⟩ := hcond
  have hu1 := Try.underlying46
  have hu2 := Try.underlying48
  have HC := Aside0.mk hr0
  have HL := Aside0.mk k1
  have HV1 := Aside0.mk k2
  have HV2 := Aside0.mk k3
  have HW := Aside0.mk (List.all_eq_true.1 k4)
  clear hr0 hc0 h k1 k2 k3 k4
  go_enter Try.func38, Try.ntmps38
  go_wp2_with ((with_reducible refine gate_dst (N := 10) rfl ?_); refine Kd.R_lit k48 _ 48 ?hg (N := 10) ?hd (xs := ([] : List S48)) (inner := []) (ok := fun _ => True) (okp := fun _ => True) ?hr ?hp (fun _ hk => hk) trivial (Below.refl _ _) (Nat.le_refl _) (by simp) ?_; (case hd => rfl); (case hg => rfl); (case hr => first | (go_simp; done) | (go_simp; rfl)); (case hp => exact Reps.none _ _); intro v0 w1 ho hb hg_ hnew_; have HO0 := Aside0.mk ho; have HB0 := Aside0.mk hb; clear ho hb hg_ hnew_)
  go_loopg [7, 8] (l0.length) (fun kq v7 v8 w' => ∃ (i : Nat), v8 = .int .i64 (i : Int) ∧ Aside0 (i + kq = l0.length) ∧ Aside0 (Kd.R k48 48 w' w.heap.size (fun _ => True) v7 ((l0.take i).map (allV a1 a2))) ∧ Aside0 (Below w.heap.size w w'))
  case atStart => exact ⟨0, rfl, ⟨by omega⟩, ⟨by simpa using HO0.out⟩, HB0⟩
  case round =>
   obtain ⟨i, rfl, HI, HO, HB⟩ := hrel
   by_cases hlt : i < l0.length
   ·have c1 : decide ((i : Int) < (l0.length : Int)) = true := decide_eq_true (by omega)
    have p1 : 0 ≤ (i : Int) := by omega
    have q1 : (i : Int) < (l0.length : Int) := by omega
    obtain ⟨ad, e1, hx0, hx1, hx2⟩ := at_T46 (Kd.C_below HC.out HB.out) (i : Int) p1 q1
    cases e1
    rw [rd_edge l0 i hlt, Int.toNat_natCast] at hx0 hx1 hx2
    have hts := all_snoc a1 a2 l0 i hlt
    have hwe := HW.out l0[i] (List.getElem_mem hlt)
    have HLT := Aside0.mk hlt
    generalize hy : l0[i] = y at hx0 hx1 hx2 hts hwe
    clear hy
    unfold fairW at hwe
    simp only [Bool.and_eq_true, decide_eq_true_eq] at hwe
    have HTS := Aside0.mk hts
    clear hts hlt
    replace p1 := eq_true p1
    replace q1 := eq_true q1
    obtain ⟨gk1, rfl⟩ : ∃ m, gk = m + 1 := ⟨gk - 1, by have := HI.out; have := HLT.out; omega⟩
    have hw1 : wrap64 ((i : Int) + 1) = (i : Int) + 1 := by have h1 := HL.out; have h2 := HLT.out; unfold wrap64; omega
    have hw2 : wrap64 (a1 + 1) = a1 + 1 := by have h1 := HV1.out; have h2 := HV2.out; unfold wrap64; omega
    have hw3 : IntKind.i64.wrap (a1 + y.f2) = a1 + y.f2 := IntWalk.i64_in _ (by have h1 := HV1.out; have h2 := HV2.out; omega)
    have hw4 : wrap64 (a1 + y.f2) = a1 + y.f2 := by have h1 := HV1.out; have h2 := HV2.out; unfold wrap64; omega
    have HLE : Aside0 (((l0.take i).map (allV a1 a2)).length < 5864062014805) := ⟨by have h2 := HL.out; rw [List.length_map, List.length_take]; omega⟩
    clear hwe
    by_cases h1 : a2 = 1
    ·have z1 : (a2 == 1) = true := beq_iff_eq.mpr h1
     have z2 : (a2 == 2) = false := beq_eq_false_iff_ne.mpr (by omega)
     have HY : Aside0 (allV a1 a2 y = ⟨y.f0, y.f1, a1 + 1⟩) := ⟨by unfold allV; rw [if_pos h1]⟩
     clear h1
     go_upto_region 5 with (fail)
     go_cut [9] (fun v9 wc => ∃ (m : Nat), v9 = .pointer (some ⟨m, 0, none⟩) ∧ Aside0 (wc.heap[m]? = some (.cells #[.int .i64 y.f0, .int .i64 y.f1, .int .i64 a1] 48 (0, 0))) ∧ Aside0 (Below wr.heap.size wr wc) ∧ Aside0 (wr.heap.size ≤ m))
     case first =>
      go_region_held3 (fun w' => w'.cell? (ad.add (i * 3)) = some (.int .i64 y.f0) ∧ w'.cell? ⟨(ad.add (i * 3)).block, (ad.add (i * 3)).off + 1, none⟩ = some (.int .i64 y.f1)) (first | exact ⟨hx0, hx1⟩ | go_keep) (first | fail)
      all_goals
       go_wp2
       go_meet
       case rel => exact ⟨_, rfl, ⟨by first | exact blk_drew (blk_new _ _) | exact blk_new _ _⟩, ⟨by repeat (first | exact Below.refl _ _ | apply below_alloc | apply pw_below_drewN | apply below_drew1)⟩, ⟨Nat.le_refl _⟩⟩
     case rest =>
     obtain ⟨m, rfl, BKm, HBc, HM⟩ := hcut
     have cm0 : wc.cell? ⟨m, 0, none⟩ = some (.int .i64 y.f0) := (blk_cell BKm.out 0).trans rfl
     have cm1 : wc.cell? ⟨m, 1, none⟩ = some (.int .i64 y.f1) := (blk_cell BKm.out 1).trans rfl
     have cm2 : wc.cell? ⟨m, 2, none⟩ = some (.int .i64 a1) := (blk_cell BKm.out 2).trans rfl
     have fm2 := blk_frozen BKm.out 2
     have SZE : Aside0 (wc.heap.size = (wc.setCell ⟨m, 2, none⟩ (.int .i64 (a1 + 1))).heap.size) := ⟨by simp⟩
     go_wp2_with (at_builtin; refine Kd.R_append k48 (w0 := w) w.heap.size rfl (.tmp 46) (.tmp 48) 32 48 (.agg #[(.int .i64 0), (.int .i64 0), (.int .i64 0)]) 24 rfl Try.underlying32 info48 rfl (by decide) (by omega) u7 ((l0.take i).map (allV a1 a2)) (⟨y.f0, y.f1, a1 + 1⟩ : S48) [.int .i64 y.f0, .int .i64 y.f1, .int .i64 (a1 + 1)] (fun _ => True) (fun _ => False) rfl (congrArg (fun z : Nat => Value.slice (some ⟨z, 0, none⟩) 1 1) SZE.out) ?aP (fun _ hk => hk.elim) ?aF ?aO ?aB ?aS ?aL ?_; (case aP => exact k48_mkM _ _ _ _); (case aB => exact HB.out.trans ((below_set HBc.out HM.out).mono HB.out.size)); (case aF => exact (fun _ _ => trivial)); (case aO => exact Kd.R_below HO.out (below_set HBc.out HM.out)); (case aS => exact Nat.le_trans HB.out.size ((below_set HBc.out HM.out)).size); (case aL => have := HLE.out; omega); intro v9 w10 ho hb hg hat; have HB9 := Aside0.mk hb; have HO9 := Aside0.mk ho; clear ho hb hg hat)
     go_roundg gk1
     case measure => omega
     case rel => exact ⟨i + 1, by go_num, ⟨by have := HI.out; omega⟩, ⟨by rw [HTS.out, HY.out]; exact HO9.out⟩, HB9⟩
    ·by_cases h2 : a2 = 2
     ·have z1 : (a2 == 1) = false := beq_eq_false_iff_ne.mpr h1
      have z2 : (a2 == 2) = true := beq_iff_eq.mpr h2
      have HY : Aside0 (allV a1 a2 y = ⟨y.f0, y.f1, a1 + y.f2⟩) := ⟨by unfold allV; rw [if_neg h1, if_pos h2]⟩
      clear h1 h2
      go_upto_region 5 with (fail)
      go_cut [9] (fun v9 wc => ∃ (m : Nat), v9 = .pointer (some ⟨m, 0, none⟩) ∧ Aside0 (wc.heap[m]? = some (.cells #[.int .i64 y.f0, .int .i64 y.f1, .int .i64 a1] 48 (0, 0))) ∧ Aside0 (Below wr.heap.size wr wc) ∧ Aside0 (wr.heap.size ≤ m))
      case first =>
       go_region_held3 (fun w' => w'.cell? (ad.add (i * 3)) = some (.int .i64 y.f0) ∧ w'.cell? ⟨(ad.add (i * 3)).block, (ad.add (i * 3)).off + 1, none⟩ = some (.int .i64 y.f1)) (first | exact ⟨hx0, hx1⟩ | go_keep) (first | fail)
       all_goals
        go_wp2
        go_meet
        case rel => exact ⟨_, rfl, ⟨by first | exact blk_drew (blk_new _ _) | exact blk_new _ _⟩, ⟨by repeat (first | exact Below.refl _ _ | apply below_alloc | apply pw_below_drewN | apply below_drew1)⟩, ⟨Nat.le_refl _⟩⟩
      case rest =>
      obtain ⟨m, rfl, BKm, HBc, HM⟩ := hcut
      have cm0 : wc.cell? ⟨m, 0, none⟩ = some (.int .i64 y.f0) := (blk_cell BKm.out 0).trans rfl
      have cm1 : wc.cell? ⟨m, 1, none⟩ = some (.int .i64 y.f1) := (blk_cell BKm.out 1).trans rfl
      have cm2 : wc.cell? ⟨m, 2, none⟩ = some (.int .i64 a1) := (blk_cell BKm.out 2).trans rfl
      have fm2 := blk_frozen BKm.out 2
      go_upto_if 36 with (fail)
      go_cut [] from 11 to 49 (fun wd => Aside0 (wd.heap[m]? = some (.cells #[.int .i64 y.f0, .int .i64 y.f1, .int .i64 (a1 + y.f2)] 48 (0, 0))) ∧ Aside0 (Below wr.heap.size wr wd))
      case first =>
       have hx2c : wc.cell? ⟨(ad.add (i * 3)).block, (ad.add (i * 3)).off + 2, none⟩ = some (.int .i64 y.f2) := (HBc.out.cell (World.block_lt_of_cell? _ _ hx2)).trans hx2
       go_wp2
       go_still_tail 9, (by kernel_rfl)
       change wpList _ _ _ _ _ wc.drew
       go_wp2
       go_meet
       case rel => exact ⟨⟨by first | exact blk_put (blk_drew BKm.out) 2 _ rfl | exact blk_drew (blk_put BKm.out 2 _ rfl)⟩, ⟨by repeat (first | exact HBc.out | refine below_set ?_ HM.out | apply below_drew1)⟩⟩
      case rest =>
      obtain ⟨BKd, HBd⟩ := hcut
      have cd0 : wc.cell? ⟨m, 0, none⟩ = some (.int .i64 y.f0) := (blk_cell BKd.out 0).trans rfl
      have cd1 : wc.cell? ⟨m, 1, none⟩ = some (.int .i64 y.f1) := (blk_cell BKd.out 1).trans rfl
      have cd2 : wc.cell? ⟨m, 2, none⟩ = some (.int .i64 (a1 + y.f2)) := (blk_cell BKd.out 2).trans rfl
      go_wp2_with (at_builtin; refine Kd.R_append k48 (w0 := w) w.heap.size rfl (.tmp 46) (.tmp 48) 32 48 (.agg #[(.int .i64 0), (.int .i64 0), (.int .i64 0)]) 24 rfl Try.underlying32 info48 rfl (by decide) (by omega) u7 ((l0.take i).map (allV a1 a2)) (⟨y.f0, y.f1, a1 + y.f2⟩ : S48) [.int .i64 y.f0, .int .i64 y.f1, .int .i64 (a1 + y.f2)] (fun _ => True) (fun _ => False) rfl rfl ?aP (fun _ hk => hk.elim) ?aF ?aO ?aB ?aS ?aL ?_; (case aP => exact k48_mkM _ _ _ _); (case aB => exact HB.out.trans (HBd.out.mono HB.out.size)); (case aF => exact (fun _ _ => trivial)); (case aO => exact Kd.R_below HO.out HBd.out); (case aS => exact Nat.le_trans HB.out.size (HBd.out).size); (case aL => have := HLE.out; omega); intro v9 w10 ho hb hg hat; have HB9 := Aside0.mk hb; have HO9 := Aside0.mk ho; clear ho hb hg hat)
      go_roundg gk1
      case measure => omega
      case rel => exact ⟨i + 1, by go_num, ⟨by have := HI.out; omega⟩, ⟨by rw [HTS.out, HY.out]; exact HO9.out⟩, HB9⟩
     ·have z1 : (a2 == 1) = false := beq_eq_false_iff_ne.mpr h1
      have z2 : (a2 == 2) = false := beq_eq_false_iff_ne.mpr h2
      have HY : Aside0 (allV a1 a2 y = ⟨y.f0, y.f1, a1⟩) := ⟨by unfold allV; rw [if_neg h1, if_neg h2, Int.add_zero]⟩
      clear h1 h2
      go_upto_region 5 with (fail)
      go_cut [9] (fun v9 wc => ∃ (m : Nat), v9 = .pointer (some ⟨m, 0, none⟩) ∧ Aside0 (wc.heap[m]? = some (.cells #[.int .i64 y.f0, .int .i64 y.f1, .int .i64 a1] 48 (0, 0))) ∧ Aside0 (Below wr.heap.size wr wc) ∧ Aside0 (wr.heap.size ≤ m))
      case first =>
       go_region_held3 (fun w' => w'.cell? (ad.add (i * 3)) = some (.int .i64 y.f0) ∧ w'.cell? ⟨(ad.add (i * 3)).block, (ad.add (i * 3)).off + 1, none⟩ = some (.int .i64 y.f1)) (first | exact ⟨hx0, hx1⟩ | go_keep) (first | fail)
       all_goals
        go_wp2
        go_meet
        case rel => exact ⟨_, rfl, ⟨by first | exact blk_drew (blk_new _ _) | exact blk_new _ _⟩, ⟨by repeat (first | exact Below.refl _ _ | apply below_alloc | apply pw_below_drewN | apply below_drew1)⟩, ⟨Nat.le_refl _⟩⟩
      case rest =>
      obtain ⟨m, rfl, BKm, HBc, HM⟩ := hcut
      have cm0 : wc.cell? ⟨m, 0, none⟩ = some (.int .i64 y.f0) := (blk_cell BKm.out 0).trans rfl
      have cm1 : wc.cell? ⟨m, 1, none⟩ = some (.int .i64 y.f1) := (blk_cell BKm.out 1).trans rfl
      have cm2 : wc.cell? ⟨m, 2, none⟩ = some (.int .i64 a1) := (blk_cell BKm.out 2).trans rfl
      have fm2 := blk_frozen BKm.out 2
      go_wp2_with (at_builtin; refine Kd.R_append k48 (w0 := w) w.heap.size rfl (.tmp 46) (.tmp 48) 32 48 (.agg #[(.int .i64 0), (.int .i64 0), (.int .i64 0)]) 24 rfl Try.underlying32 info48 rfl (by decide) (by omega) u7 ((l0.take i).map (allV a1 a2)) (⟨y.f0, y.f1, a1⟩ : S48) [.int .i64 y.f0, .int .i64 y.f1, .int .i64 (a1)] (fun _ => True) (fun _ => False) rfl rfl ?aP (fun _ hk => hk.elim) ?aF ?aO ?aB ?aS ?aL ?_; (case aP => exact k48_mkM _ _ _ _); (case aB => exact HB.out.trans (HBc.out.mono HB.out.size)); (case aF => exact (fun _ _ => trivial)); (case aO => exact Kd.R_below HO.out HBc.out); (case aS => exact Nat.le_trans HB.out.size (HBc.out).size); (case aL => have := HLE.out; omega); intro v9 w10 ho hb hg hat; have HB9 := Aside0.mk hb; have HO9 := Aside0.mk ho; clear ho hb hg hat)
      go_roundg gk1
      case measure => omega
      case rel => exact ⟨i + 1, by go_num, ⟨by have := HI.out; omega⟩, ⟨by rw [HTS.out, HY.out]; exact HO9.out⟩, HB9⟩
   ·have c1 : decide ((i : Int) < (l0.length : Int)) = false := decide_eq_false (by omega)
    have c1n : decide (i < l0.length) = false := decide_eq_false (by omega)
    have hi : i = l0.length := by have := HI.out; omega
    have HO3 : Aside0 (Kd.R k48 48 wr w.heap.size (fun _ => True) u7 (l0.map (allV a1 a2))) := ⟨by have := HO.out; rwa [hi, List.take_length] at this⟩
    clear hi HO HI hlt
    go_wp2
    go_ret
    exact ⟨_, rfl, HO3.out, HB.out⟩
 ·rw [if_neg hcond] at h
  cases h
end

/-! ### modillionref07_floor: function 39 -/
def modillionref07_floor.f (a0 : Int) (a1 : Int) : Option (Int) := if a0 ≥ 0 then (if a1 = 0 then (none) else (some (wrap64 (Int.tdiv a0 a1)))) else (if a1 = 0 then (none) else (some (wrap64 (-(wrap64 (Int.tdiv (wrap64 ((wrap64 ((wrap64 (-a0)) + a1)) - 1)) a1))))))
set_option maxHeartbeats 8000000 in
set_option maxRecDepth 100000 in
theorem modillionref07_floor.calls (a0 : Int) (a1 : Int) (r : Int) (w : World) (h : modillionref07_floor.f a0 a1 = some r) :
  Calls Try.prog 39 #[.int .i64 a0, .int .i64 a1] w fun e w' => e = .returned (.int .i64 r) ∧ Drawn0 w w' := by
 have H : (if a0 ≥ 0 then (if a1 = 0 then (none) else (some (wrap64 (Int.tdiv a0 a1)))) else (if a1 = 0 then (none) else (some (wrap64 (-(wrap64 (Int.tdiv (wrap64 ((wrap64 ((wrap64 (-a0)) + a1)) - 1)) a1))))))) = some r := h
 clear h
 by_cases c3 : a0 ≥ 0
 ·rw [if_pos c3] at H
  have c3b0 : decide (0 ≤ a0) = true := decide_eq_true c3
  clear c3
  by_cases c4 : a1 = 0
  ·rw [if_pos c4] at H
   exact absurd H (by simp)
  ·rw [if_neg c4] at H
   have c4b0 : (a1 == 0) = false := beq_eq_false_iff_ne.mpr c4
   have c4b1 : (a1 != 0) = true := bne_iff_ne.mpr c4
   obtain rfl := Option.some.inj H
   go_enter Try.func39, Try.ntmps39
   go_wp2
   go_ret
   exact ⟨by first | rfl | (simp; done) | (simp [*]; done), by repeat (first | exact Drawn0.refl _ | apply Drawn0.step)⟩
 ·rw [if_neg c3] at H
  have c3b0 : decide (0 ≤ a0) = false := decide_eq_false c3
  clear c3
  by_cases c5 : a1 = 0
  ·rw [if_pos c5] at H
   exact absurd H (by simp)
  ·rw [if_neg c5] at H
   have c5b0 : (a1 == 0) = false := beq_eq_false_iff_ne.mpr c5
   have c5b1 : (a1 != 0) = true := bne_iff_ne.mpr c5
   obtain rfl := Option.some.inj H
   go_enter Try.func39, Try.ntmps39
   go_wp2
   go_ret
   exact ⟨by first | rfl | (simp; done) | (simp [*]; done), by repeat (first | exact Drawn0.refl _ | apply Drawn0.step)⟩

end Go.Proofs.Ytdmihkffjbapjaa.P
