/- What these Go functions compute, as Lean functions, and that they do. No condition. -/
import Derived.Test.YtpndhkeoljoapaaGreatPx0
import Derived.Test.YtpndhkeoljoapaaGreatPx14
import Derived.Test.YtpndhkeoljoapaaGreatPx19
import Derived.Test.YtpndhkeoljoapaaGreatPx20
import Derived.Test.YtpndhkeoljoapaaGreatPx22
namespace Go.Proofs.YtpndhkeoljoapaaGreat.P
open Go.RowKit Go.Proofs.YtpndhkeoljoapaaGreatW.PrintWords Go.Proofs.YtpndhkeoljoapaaGreatW.PrintLast Go.Proofs.YtpndhkeoljoapaaGreatW.PrintMore
attribute [local go_sem] max2_int min2_int max_two min_two max_three min_three max_four min_four   -- for this text's walks alone
set_option linter.unusedVariables false
set_option linter.unusedSimpArgs false
set_option linter.unnecessarySimpa false

/-! ### modillionref09_Run: function 18 -/
def modillionref09_Run.l0 : Nat → List (S50) → Int → Int → List (S48) → ByteArray → Int → Int → Option (List Int × Int × Int)
 | 0, _, _, _, _, _, _, _ => none
 | k + 1, x7, x8, x306000, x306001, x307000, x307001, x307002 => if x8 < x307002 then ((modillionref09_Quiet.f k x7).bind fun t314 => (if t314 = true then ((modillionref09_Values.f k x7).bind fun t315 => (some (t315, x8, 0))) else ((modillionref09_Next.f k x306000 x306001 x307000 x307001 x307002 x8 x7).bind fun bt318 => (if bt318.2.2 = 0 then (modillionref09_Run.l0 k bt318.1 (wrap64 (x8 + 1)) x306000 x306001 x307000 x307001 x307002) else (some (([] : List Int), x8, bt318.2.2)))))) else ((modillionref09_Values.f k x7).bind fun t311 => (some (t311, x307002, 0)))
def modillionref09_Run.f (k : Nat) (a0_0 : Int) (l0_1 : List (S48)) (a1_0 : ByteArray) (a1_1 : Int) (a1_2 : Int) : Option (List Int × Int × Int) := (modillionref07_Right.f k a0_0 l0_1 a1_0 a1_1 a1_2).bind fun t307 => (if t307 = true then ((modillionref09_Start.f k a0_0 l0_1 a1_0 a1_1 a1_2).bind fun t308 => (modillionref09_Run.l0 k t308 0 a0_0 l0_1 a1_0 a1_1 a1_2)) else (some (([] : List Int), 0, 70)))
theorem modillionref09_Run.mono_l : ∀ k, (∀ y0 y1 y2 y3 y4 y5 y6, LeO (modillionref09_Run.l0 k y0 y1 y2 y3 y4 y5 y6) (modillionref09_Run.l0 (k + 1) y0 y1 y2 y3 y4 y5 y6))
 | 0 => fun _ _ _ _ _ _ _ r h => by simp [modillionref09_Run.l0] at h
 | k + 1 => by
  have ih0 := modillionref09_Run.mono_l k
  ·intro y0 y1 y2 y3 y4 y5 y6
   unfold modillionref09_Run.l0
   repeat' first
   | (with_reducible exact ih0 _ _ _ _ _ _ _)
   | (with_reducible exact modillionref07_Right.mono _ _ _ _ _ _)
   | (with_reducible exact modillionref09_Next.mono _ _ _ _ _ _ _ _)
   | (with_reducible exact modillionref09_Quiet.mono _ _)
   | (with_reducible exact modillionref09_Start.mono _ _ _ _ _ _)
   | (with_reducible exact modillionref09_Values.mono _ _)
   | (with_reducible exact LeO.refl _)
   | (with_reducible exact LeO.none _)
   | (with_reducible refine LeO.ite ?_ ?_)
   | (with_reducible refine LeO.bind ?_ (fun _ => ?_))
   | exact ih0 _ _ _ _ _ _ _
   | exact modillionref07_Right.mono _ _ _ _ _ _
   | exact modillionref09_Next.mono _ _ _ _ _ _ _ _
   | exact modillionref09_Quiet.mono _ _
   | exact modillionref09_Start.mono _ _ _ _ _ _
   | exact modillionref09_Values.mono _ _
   | exact LeO.none _
   | refine LeO.ite ?_ ?_
   | refine LeO.bind ?_ (fun _ => ?_)
theorem modillionref09_Run.mono : ∀ a0 a1 a2 a3 a4 k, LeO (modillionref09_Run.f k a0 a1 a2 a3 a4) (modillionref09_Run.f (k + 1) a0 a1 a2 a3 a4) := by
 intro a0 a1 a2 a3 a4 k
 have ih0 := modillionref09_Run.mono_l k
 unfold modillionref09_Run.f
 repeat' first
   | (with_reducible exact ih0 _ _ _ _ _ _ _)
   | (with_reducible exact modillionref07_Right.mono _ _ _ _ _ _)
   | (with_reducible exact modillionref09_Next.mono _ _ _ _ _ _ _ _)
   | (with_reducible exact modillionref09_Quiet.mono _ _)
   | (with_reducible exact modillionref09_Start.mono _ _ _ _ _ _)
   | (with_reducible exact modillionref09_Values.mono _ _)
   | (with_reducible exact LeO.refl _)
   | (with_reducible exact LeO.none _)
   | (with_reducible refine LeO.ite ?_ ?_)
   | (with_reducible refine LeO.bind ?_ (fun _ => ?_))
   | exact ih0 _ _ _ _ _ _ _
   | exact modillionref07_Right.mono _ _ _ _ _ _
   | exact modillionref09_Next.mono _ _ _ _ _ _ _ _
   | exact modillionref09_Quiet.mono _ _
   | exact modillionref09_Start.mono _ _ _ _ _ _
   | exact modillionref09_Values.mono _ _
   | exact LeO.none _
   | refine LeO.ite ?_ ?_
   | refine LeO.bind ?_ (fun _ => ?_)
set_option maxHeartbeats 8000000 in
set_option maxRecDepth 100000 in
theorem modillionref09_Run.calls (k : Nat) (a0_0 : Int) (A0_1 : Option Addr) (c0_1 : Nat) (l0_1 : List (S48)) (a1_0 : ByteArray) (a1_1 : Int) (a1_2 : Int) (r1 : List Int) (r2 : Int) (r3 : Int) (w : World) (hr0_1 : Kd.C k48 w A0_1 l0_1.length l0_1) (hc0_1 : l0_1.length ≤ c0_1) (h : modillionref09_Run.f k a0_0 l0_1 a1_0 a1_1 a1_2 = some (r1, r2, r3)) :
  Calls Tryz.prog 18 #[.agg #[.int .i64 a0_0, .slice A0_1 l0_1.length c0_1], .agg #[.string a1_0, .int .i64 a1_1, .int .i64 a1_2]] w fun e w' => ∃ v0_ : Value, e = .returned (.tuple #[v0_, .int .i64 r2, .int .i64 r3]) ∧ Kd.R (Kd.int .i64) 2 w' w.heap.size (fun _ => True) v0_ r1 ∧ Below w.heap.size w w' := by
 have hu24 := Tryz.underlying24
 have hu26 := Tryz.underlying26
 have HR0_1 := Aside0.mk hr0_1
 have HC0_1 := Aside0.mk hc0_1
 clear hr0_1 hc0_1
 have HB := Aside0.mk (Below.refl w.heap.size w)
 have H : ((modillionref07_Right.f k a0_0 l0_1 a1_0 a1_1 a1_2).bind fun t307 => (if t307 = true then ((modillionref09_Start.f k a0_0 l0_1 a1_0 a1_1 a1_2).bind fun t308 => (modillionref09_Run.l0 k t308 0 a0_0 l0_1 a1_0 a1_1 a1_2)) else (some (([] : List Int), 0, 70)))) = some (r1, r2, r3) := h
 clear h
 replace H := Option.bind_eq_some_iff.mp H
 obtain ⟨t307, A30, H⟩ := H
 replace H : (if t307 = true then ((modillionref09_Start.f k a0_0 l0_1 a1_0 a1_1 a1_2).bind fun t308 => (modillionref09_Run.l0 k t308 0 a0_0 l0_1 a1_0 a1_1 a1_2)) else (some (([] : List Int), 0, 70))) = some (r1, r2, r3) := H
 have A3 := Aside0.mk A30
 clear A30
 by_cases c4 : t307 = true
 ·subst c4
  have H1 : ((modillionref09_Start.f k a0_0 l0_1 a1_0 a1_1 a1_2).bind fun t308 => (modillionref09_Run.l0 k t308 0 a0_0 l0_1 a1_0 a1_1 a1_2)) = some (r1, r2, r3) := by rw [if_pos rfl] at H; exact H
  clear H
  have H := H1
  clear H1
  replace H := Option.bind_eq_some_iff.mp H
  obtain ⟨t308, A50, H⟩ := H
  replace H : (modillionref09_Run.l0 k t308 0 a0_0 l0_1 a1_0 a1_1 a1_2) = some (r1, r2, r3) := H
  have A5 := Aside0.mk A50
  clear A50
  have H' := Aside0.mk H
  clear H
  go_enter Tryz.func18, Tryz.ntmps18
  go_wp2_with (first | ((with_reducible refine gate_dst (N := 2) rfl ?_); refine bE_ #[.int .i64 a0_0, .slice A0_1 l0_1.length c0_1] 24 ?_; intro gb305 hg w6 hbox hb; have BK305 := Aside0.mk hbox; have GW305 := gS hg HB; have GE305 := gS hg HB; replace HB := bS HB hb; clear hb hbox hg) | ((with_reducible refine gate_dst (N := 3) rfl ?_); refine bE_ #[.string a1_0, .int .i64 a1_1, .int .i64 a1_2] 26 ?_; intro gb306 hg w7 hbox hb; have BK306 := Aside0.mk hbox; have GW306 := gS hg HB; have GE306 := gS hg HB; have NB305_306 := nL hg BK305; have NB306_305 := nG hg BK305; replace BK305 := aS BK305 hb; replace HB := bS HB hb; clear hb hbox hg; have := NB305_306.out; have := NB306_305.out; have hcz9_0 : w7.cell? ⟨gb305, 0, none⟩ = some (.int .i64 a0_0) := (blk_cell BK305.out 0).trans rfl; have hcz9_1 : w7.cell? ⟨gb305, 1, none⟩ = some (.slice A0_1 l0_1.length c0_1) := (blk_cell BK305.out 1).trans rfl; have hfz9_0 := blk_frozen BK305.out 0; have hfz9_1 := blk_frozen BK305.out 1; have hcz10_0 : w7.cell? ⟨gb306, 0, none⟩ = some (.string a1_0) := (blk_cell BK306.out 0).trans rfl; have hcz10_1 : w7.cell? ⟨gb306, 1, none⟩ = some (.int .i64 a1_1) := (blk_cell BK306.out 1).trans rfl; have hcz10_2 : w7.cell? ⟨gb306, 2, none⟩ = some (.int .i64 a1_2) := (blk_cell BK306.out 2).trans rfl; have hfz10_0 := blk_frozen BK306.out 0; have hfz10_1 := blk_frozen BK306.out 1; have hfz10_2 := blk_frozen BK306.out 2) | ((with_reducible refine gate_callee (f := 19) rfl ?_); refine gL_ (some 14) Tryz.func19 #[.agg #[.int .i64 a0_0, .slice A0_1 l0_1.length c0_1], .agg #[.string a1_0, .int .i64 a1_1, .int .i64 a1_2]] ?_; (with_reducible refine (modillionref07_Right.calls k a0_0 _ _ l0_1 a1_0 a1_1 a1_2 true _ ?z1 ?z2 A3.out).mono ?_); (case z1 => exact kC HR0_1.out HB.out); (case z2 => exact HC0_1.out); rintro e w11 ⟨rfl, hb⟩; refine ⟨_, rfl, ?_⟩; replace BK305 := aS BK305 hb; replace BK306 := aS BK306 hb; replace HB := bS HB hb; clear hb; have hcz12_0 : w11.cell? ⟨gb305, 0, none⟩ = some (.int .i64 a0_0) := (blk_cell BK305.out 0).trans rfl; have hcz12_1 : w11.cell? ⟨gb305, 1, none⟩ = some (.slice A0_1 l0_1.length c0_1) := (blk_cell BK305.out 1).trans rfl; have hfz12_0 := blk_frozen BK305.out 0; have hfz12_1 := blk_frozen BK305.out 1; have hcz13_0 : w11.cell? ⟨gb306, 0, none⟩ = some (.string a1_0) := (blk_cell BK306.out 0).trans rfl; have hcz13_1 : w11.cell? ⟨gb306, 1, none⟩ = some (.int .i64 a1_1) := (blk_cell BK306.out 1).trans rfl; have hcz13_2 : w11.cell? ⟨gb306, 2, none⟩ = some (.int .i64 a1_2) := (blk_cell BK306.out 2).trans rfl; have hfz13_0 := blk_frozen BK306.out 0; have hfz13_1 := blk_frozen BK306.out 1; have hfz13_2 := blk_frozen BK306.out 2) | ((with_reducible refine gate_callee (f := 20) rfl ?_); refine gL_ (some 18) Tryz.func20 #[.agg #[.int .i64 a0_0, .slice A0_1 l0_1.length c0_1], .agg #[.string a1_0, .int .i64 a1_1, .int .i64 a1_2]] ?_; (with_reducible refine (modillionref09_Start.calls k a0_0 _ _ l0_1 a1_0 a1_1 a1_2 t308 _ ?z1 ?z2 A5.out).mono ?_); (case z1 => exact kC HR0_1.out HB.out); (case z2 => exact HC0_1.out); rintro e w14 ⟨v309, rfl, ho0, hb⟩; refine ⟨_, rfl, ?_⟩; have HO310 := lS ho0 HB; replace BK305 := aS BK305 hb; replace BK306 := aS BK306 hb; replace HB := bS HB hb; clear hb ho0))
  go_loopg [7, 8] k (fun kq v7 v8 w' => ∃ (x7_1 : List (S50)) (x8_1 : Int), v8 = .int .i64 x8_1 ∧ Aside0 (modillionref09_Run.l0 kq x7_1 x8_1 a0_0 l0_1 a1_0 a1_1 a1_2 = some (r1, r2, r3)) ∧ Aside0 (kq ≤ k) ∧ Aside0 (Kd.R k50 50 w' w.heap.size (fun _ => True) v7 x7_1) ∧ Aside0 (w'.heap[gb305]? = some (.cells #[.int .i64 a0_0, (.slice A0_1 l0_1.length c0_1)] 24 (0, 0))) ∧ Aside0 (w'.heap[gb306]? = some (.cells #[.string a1_0, .int .i64 a1_1, .int .i64 a1_2] 26 (0, 0))) ∧ Aside0 (Below w.heap.size w w'))
  case atStart => exact ⟨(t308), (0), (by first | rfl | (simp; done) | (simp [*]; done)), H', ⟨Nat.le_refl _⟩, ⟨kR HO310.out⟩, ⟨kA BK305.out⟩, ⟨kA BK306.out⟩, ⟨kB HB.out⟩⟩
  case round =>
   clear H'
   try clear c1
   try clear c2
   try clear p2
   try clear c4
   try clear c8
   try clear hcz10_0
   try clear hcz10_1
   try clear hcz10_2
   try clear hcz12_0
   try clear hcz12_1
   try clear hcz13_0
   try clear hcz13_1
   try clear hcz13_2
   try clear hcz9_0
   try clear hcz9_1
   try clear hfz10_0
   try clear hfz10_1
   try clear hfz10_2
   try clear hfz12_0
   try clear hfz12_1
   try clear hfz13_0
   try clear hfz13_1
   try clear hfz13_2
   try clear hfz9_0
   try clear hfz9_1
   obtain ⟨x7_1, x8_1, rfl, HA, HK1, HO_7, BK305, BK306, HB⟩ := hrel
   cases gk with
   | zero => exact absurd HA.out (by simp [modillionref09_Run.l0])
   | succ k1 =>
    have H := HA.out
    clear HA
    simp only [modillionref09_Run.l0] at H
    by_cases c15 : x8_1 < a1_2
    ·rw [if_pos c15] at H
     have c15b0 := decide_eq_true c15
     clear c15
     replace H := Option.bind_eq_some_iff.mp H
     obtain ⟨t314, A160, H⟩ := H
     replace H : (if t314 = true then ((modillionref09_Values.f k1 x7_1).bind fun t315 => (some (t315, x8_1, 0))) else ((modillionref09_Next.f k1 a0_0 l0_1 a1_0 a1_1 a1_2 x8_1 x7_1).bind fun bt318 => (if bt318.2.2 = 0 then (modillionref09_Run.l0 k1 bt318.1 (wrap64 (x8_1 + 1)) a0_0 l0_1 a1_0 a1_1 a1_2) else (some (([] : List Int), x8_1, bt318.2.2))))) = some (r1, r2, r3) := H
     have A16 := Aside0.mk A160
     clear A160
     by_cases c17 : t314 = true
     ·subst c17
      have H1 : ((modillionref09_Values.f k1 x7_1).bind fun t315 => (some (t315, x8_1, 0))) = some (r1, r2, r3) := by rw [if_pos rfl] at H; exact H
      clear H
      have H := H1
      clear H1
      replace H := Option.bind_eq_some_iff.mp H
      obtain ⟨t315, A180, H⟩ := H
      replace H : (some (t315, x8_1, 0)) = some (r1, r2, r3) := H
      have A18 := Aside0.mk A180
      clear A180
      simp only [Option.some.injEq, Prod.mk.injEq] at H
      obtain ⟨rfl, rfl, rfl⟩ := H
      have := NB306_305.out
      have := NB305_306.out
      obtain ⟨_, _, _, _, _, _⟩ := q3z wr BK306.out
      obtain ⟨Ao21, co21, eo21⟩ := Kd.R_slice HO_7.out
      subst eo21
      go_wp2_with (first | ((with_reducible refine gate_callee (f := 12) rfl ?_); refine gL_ (some 26) Tryz.func12 #[.slice Ao21 x7_1.length co21] ?_; (with_reducible refine (modillionref09_Quiet.calls k1 _ _ x7_1 true _ ?z1 ?z2 A16.out).mono ?_); (case z1 => exact kD (Kd.R_reads' HO_7.out).2.2); (case z2 => exact (Kd.R_reads' HO_7.out).2.1); rintro e w' ⟨rfl, ⟨nd, rfl⟩⟩; refine ⟨_, rfl, ?_⟩) | ((with_reducible refine gate_callee (f := 15) rfl ?_); refine gL_ (some 28) Tryz.func15 #[.slice Ao21 x7_1.length co21] ?_; (with_reducible refine (modillionref09_Values.calls k1 _ _ x7_1 t315 _ ?z1 ?z2 A18.out).mono ?_); (case z1 => exact kD (Kd.R_reads' HO_7.out).2.2); (case z2 => exact (Kd.R_reads' HO_7.out).2.1); rintro e w22 ⟨v316, rfl, ho0, hb⟩; refine ⟨_, rfl, ?_⟩; have HO317 := lS ho0 HB; replace HO_7 := rS HO_7 hb; replace BK305 := aS BK305 hb; replace BK306 := aS BK306 hb; replace HB := bS HB hb; clear hb ho0))
      go_ret3
      exact ⟨_, by first | rfl | (simp [errW_none, errW_some] <;> rfl) | (simp [*, errW_none, errW_some] <;> rfl), by exact kR HO317.out, by exact kB HB.out⟩
     ·replace c17 := Bool.eq_false_iff.mpr c17
      subst c17
      have H1 : ((modillionref09_Next.f k1 a0_0 l0_1 a1_0 a1_1 a1_2 x8_1 x7_1).bind fun bt318 => (if bt318.2.2 = 0 then (modillionref09_Run.l0 k1 bt318.1 (wrap64 (x8_1 + 1)) a0_0 l0_1 a1_0 a1_1 a1_2) else (some (([] : List Int), x8_1, bt318.2.2)))) = some (r1, r2, r3) := by rw [if_neg (show ¬ (false = true) by decide)] at H; exact H
      clear H
      have H := H1
      clear H1
      replace H := Option.bind_eq_some_iff.mp H
      obtain ⟨⟨t318, t321, t324⟩, A230, H⟩ := H
      replace H : (if t324 = 0 then (modillionref09_Run.l0 k1 t318 (wrap64 (x8_1 + 1)) a0_0 l0_1 a1_0 a1_1 a1_2) else (some (([] : List Int), x8_1, t324))) = some (r1, r2, r3) := H
      have A23 := Aside0.mk A230
      clear A230
      by_cases c24 : t324 = 0
      ·rw [if_pos c24] at H
       have c24b0 : (t324 == 0) = true := beq_iff_eq.mpr c24
       have c24b1 : (t324 != 0) = false := bne_eq_false_iff_eq.mpr c24
       clear c24
       have H' := Aside0.mk H
       clear H
       have := NB306_305.out
       have := NB305_306.out
       obtain ⟨_, _, _, _, _, _⟩ := q3z wr BK306.out
       obtain ⟨Ao27, co27, eo27⟩ := Kd.R_slice HO_7.out
       subst eo27
       go_wp2_with (first | ((with_reducible refine gate_callee (f := 12) rfl ?_); refine gL_ (some 26) Tryz.func12 #[.slice Ao27 x7_1.length co27] ?_; (with_reducible refine (modillionref09_Quiet.calls k1 _ _ x7_1 false _ ?z1 ?z2 A16.out).mono ?_); (case z1 => exact kD (Kd.R_reads' HO_7.out).2.2); (case z2 => exact (Kd.R_reads' HO_7.out).2.1); rintro e w' ⟨rfl, ⟨nd, rfl⟩⟩; refine ⟨_, rfl, ?_⟩; obtain ⟨_, _, _, _⟩ := q2z wr BK305.out) | ((with_reducible refine gate_callee (f := 8) rfl ?_); refine gL_ (some 35) Tryz.func8 #[.agg #[.int .i64 a0_0, .slice A0_1 l0_1.length c0_1], .agg #[.string a1_0, .int .i64 a1_1, .int .i64 a1_2], .int .i64 x8_1, .slice Ao27 x7_1.length co27] ?_; (with_reducible refine (modillionref09_Next.calls k1 a0_0 _ _ l0_1 a1_0 a1_1 a1_2 x8_1 _ _ x7_1 t318 t321 t324 _ ?z1 ?z2 ?z3 ?z4 A23.out).mono ?_); (case z1 => repeat (first | exact (Kd.C_below HR0_1.out (kB HB.out)) | (with_reducible refine Kd.C_alloc ?_ _) | (with_reducible refine Kd.C_drewN ?_ _) | (with_reducible refine Kd.C_drew ?_))); (case z2 => exact HC0_1.out); (case z3 => exact kD (Kd.R_reads' HO_7.out).2.2); (case z4 => exact (Kd.R_reads' HO_7.out).2.1); rintro e w29 ⟨v319, v322, rfl, ho0, ho1, hb⟩; refine ⟨_, rfl, ?_⟩; have HO320 := Aside0.mk (Kd.R_lower (Kd.R_new' ho0 (Kd.R_lt (kR HO_7.out))) (below_size (kB HB.out))); have HO323 := lS ho1 HB; replace HO_7 := Aside0.mk (Kd.R_elder' (kR HO_7.out) (Kd.R_base ho0) hb); replace BK305 := aS BK305 hb; replace BK306 := aS BK306 hb; replace HB := bS HB hb; clear hb ho0 ho1))
       go_roundg k1
       case measure => have := HK1.out; omega
       case rel => exact ⟨(t318), (wrap64 (x8_1 + 1)), (by first | rfl | (simp; done) | (simp [*]; done)), H', ⟨by have := HK1.out; omega⟩, ⟨by (with_reducible repeat (first | apply Kd.R_alloc | apply Kd.R_drewN | apply Kd.R_drew)); exact Kd.R_mono HO320.out (fun _ hk => trivial)⟩, ⟨kA BK305.out⟩, ⟨kA BK306.out⟩, ⟨kB HB.out⟩⟩
      ·rw [if_neg c24] at H
       have c24b0 : (t324 == 0) = false := beq_eq_false_iff_ne.mpr c24
       have c24b1 : (t324 != 0) = true := bne_iff_ne.mpr c24
       simp only [Option.some.injEq, Prod.mk.injEq] at H
       obtain ⟨rfl, rfl, rfl⟩ := H
       have := NB306_305.out
       have := NB305_306.out
       obtain ⟨_, _, _, _, _, _⟩ := q3z wr BK306.out
       obtain ⟨Ao32, co32, eo32⟩ := Kd.R_slice HO_7.out
       subst eo32
       go_wp2_with (first | ((with_reducible refine gate_callee (f := 12) rfl ?_); refine gL_ (some 26) Tryz.func12 #[.slice Ao32 x7_1.length co32] ?_; (with_reducible refine (modillionref09_Quiet.calls k1 _ _ x7_1 false _ ?z1 ?z2 A16.out).mono ?_); (case z1 => exact kD (Kd.R_reads' HO_7.out).2.2); (case z2 => exact (Kd.R_reads' HO_7.out).2.1); rintro e w' ⟨rfl, ⟨nd, rfl⟩⟩; refine ⟨_, rfl, ?_⟩; obtain ⟨_, _, _, _⟩ := q2z wr BK305.out) | ((with_reducible refine gate_callee (f := 8) rfl ?_); refine gL_ (some 35) Tryz.func8 #[.agg #[.int .i64 a0_0, .slice A0_1 l0_1.length c0_1], .agg #[.string a1_0, .int .i64 a1_1, .int .i64 a1_2], .int .i64 x8_1, .slice Ao32 x7_1.length co32] ?_; (with_reducible refine (modillionref09_Next.calls k1 a0_0 _ _ l0_1 a1_0 a1_1 a1_2 x8_1 _ _ x7_1 t318 t321 t324 _ ?z1 ?z2 ?z3 ?z4 A23.out).mono ?_); (case z1 => repeat (first | exact (Kd.C_below HR0_1.out (kB HB.out)) | (with_reducible refine Kd.C_alloc ?_ _) | (with_reducible refine Kd.C_drewN ?_ _) | (with_reducible refine Kd.C_drew ?_))); (case z2 => exact HC0_1.out); (case z3 => exact kD (Kd.R_reads' HO_7.out).2.2); (case z4 => exact (Kd.R_reads' HO_7.out).2.1); rintro e w34 ⟨v319, v322, rfl, ho0, ho1, hb⟩; refine ⟨_, rfl, ?_⟩; have HO320 := Aside0.mk (Kd.R_lower (Kd.R_new' ho0 (Kd.R_lt (kR HO_7.out))) (below_size (kB HB.out))); have HO323 := lS ho1 HB; replace HO_7 := Aside0.mk (Kd.R_elder' (kR HO_7.out) (Kd.R_base ho0) hb); replace BK305 := aS BK305 hb; replace BK306 := aS BK306 hb; replace HB := bS HB hb; clear hb ho0 ho1))
       go_ret3
       exact ⟨_, by first | rfl | (simp [errW_none, errW_some] <;> rfl) | (simp [*, errW_none, errW_some] <;> rfl), by first | exact Kd.R_nil _ _ _ _ _ | exact Kd.N_nil _ _ _ _ _ | exact Kd.V_nil _ _ _ _ _ | exact Kd.Q_nil _ _ _ _ _ | exact Kd.S_nil _ _ _ _ _, by exact kB HB.out⟩
    ·rw [if_neg c15] at H
     have c15b0 := decide_eq_false c15
     clear c15
     replace H := Option.bind_eq_some_iff.mp H
     obtain ⟨t311, A350, H⟩ := H
     replace H : (some (t311, a1_2, 0)) = some (r1, r2, r3) := H
     have A35 := Aside0.mk A350
     clear A350
     simp only [Option.some.injEq, Prod.mk.injEq] at H
     obtain ⟨rfl, rfl, rfl⟩ := H
     have := NB306_305.out
     have := NB305_306.out
     obtain ⟨_, _, _, _, _, _⟩ := q3z wr BK306.out
     try go_wp2
     replace HO_7 := Aside0.mk (Kd.R_drew HO_7.out)
     replace BK305 := Aside0.mk (blk_drew BK305.out)
     replace BK306 := Aside0.mk (blk_drew BK306.out)
     replace HB := Aside0.mk (below_drew1 HB.out)
     obtain ⟨Ao39, co39, eo39⟩ := Kd.R_slice HO_7.out
     (first | subst eo39 | (injection eo39 with f1_ f2_ f3_; have f4_ := f1_.symm; have f5_ := f3_.symm; clear f1_ f2_ f3_; subst f4_; subst f5_))
     refine start_ (n := 7) (S := fun w' => w'.cell? ⟨gb306, 0, none⟩ = some (.string a1_0) ∧ w'.cell? ⟨gb306, 1, none⟩ = some (.int .i64 a1_1) ∧ w'.cell? ⟨gb306, 2, none⟩ = some (.int .i64 a1_2)) (ds := []) #[false, false, false, false, false, false, false] (by kernel_rfl) rfl rfl ⟨(blk_cell BK306.out 0).trans rfl, (blk_cell BK306.out 1).trans rfl, (blk_cell BK306.out 2).trans rfl⟩ (fun hHeld => ?_)
     generalize wr.drew = w38 at HO_7 BK305 BK306 HB hHeld ⊢
     refine pure_ (i := 0) (N := some 44) (v := ?_) (a' := ?_) #[true, false, false, false, false, false, false] rfl rfl (by kernel_rfl) (fun _ _ _ h => h) (Or.inl ⟨by rfl, ?_⟩) ?_ ?_
     rotate_left
     ·intro w'
      go_simp
      with_reducible rfl
     rotate_left
     ·simp only [Act.put, List.setIfInBounds_toArray, List.set_cons_zero, List.set_cons_succ, i64_w, i32_w]
      rfl
     refine pure_ (i := 2) (N := some 46) (v := ?_) (a' := ?_) #[true, false, true, false, false, false, false] rfl rfl (by kernel_rfl) (fun _ _ _ h => h) (Or.inl ⟨by rfl, ?_⟩) ?_ ?_
     rotate_left
     ·intro w'
      go_simp
      with_reducible rfl
     rotate_left
     ·simp only [Act.put, List.setIfInBounds_toArray, List.set_cons_zero, List.set_cons_succ, i64_w, i32_w]
      rfl
     refine take_ (i := 3) (N := some 47) (v := ?_) (a' := ?_) #[true, false, true, true, false, false, false] rfl rfl (by kernel_rfl) (fun _ _ _ h => h) (Or.inl ⟨by rfl, ?_⟩) hHeld ?_ ?_
     rotate_left
     ·rintro w' ⟨s0, s1, s2⟩
      go_simp
      with_reducible rfl
     rotate_left
     ·simp only [Act.put, List.setIfInBounds_toArray, List.set_cons_zero, List.set_cons_succ, i64_w, i32_w]
      rfl
     refine one_ (i := 1) (N := some 45) #[true, true, true, true, false, false, false] rfl rfl (by kernel_rfl) (by decide) (fun K hK => ?_)
     refine goes_ Tryz.func15 (by kernel_rfl) rfl #[.slice Ao39 x7_1.length co39] (by rfl) rfl rfl (by (try simp only [List.map_toArray, List.map_cons, List.map_nil]); first | done | rfl | (simp only [List.length_drop, List.length_take]; rfl)) ?_
     with_reducible refine (modillionref09_Values.calls k1 _ _ x7_1 t311 _ ?z1 ?z2 A35.out).mono ?_
     (case z1 => exact kD (Kd.R_reads' HO_7.out).2.2)
     (case z2 => exact (Kd.R_reads' HO_7.out).2.1)
     rintro e w40 ⟨v312, rfl, ho0, hb⟩
     refine ⟨_, rfl, ?_⟩
     have HO313 := lS ho0 HB
     replace HO_7 := rS HO_7 hb
     replace BK305 := aS BK305 hb
     replace BK306 := aS BK306 hb
     replace HB := bS HB hb
     clear hb ho0
     refine hK.out _ _ ⟨(blk_cell BK306.out 0).trans rfl, (blk_cell BK306.out 1).trans rfl, (blk_cell BK306.out 2).trans rfl⟩ (fun hHeld => ?_)
     clear hK K
     refine norm_ (a' := ?_) ?_ ?_
     rotate_left
     ·show Act.put _ (some 45) _ = _
      simp only [Act.put, List.setIfInBounds_toArray, List.set_cons_zero, List.set_cons_succ, i64_w, i32_w]
      rfl
     refine pure_ (i := 4) (N := some 4) (v := ?_) (a' := ?_) #[true, true, true, true, true, false, false] rfl rfl (by kernel_rfl) (fun _ _ _ h => h) (Or.inl ⟨by rfl, ?_⟩) ?_ ?_
     rotate_left
     ·intro w'
      go_simp
      with_reducible rfl
     rotate_left
     ·simp only [Act.put, List.setIfInBounds_toArray, List.set_cons_zero, List.set_cons_succ, i64_w, i32_w]
      rfl
     refine pure_ (i := 5) (N := some 5) (v := ?_) (a' := ?_) #[true, true, true, true, true, true, false] rfl rfl (by kernel_rfl) (fun _ _ _ h => h) (Or.inl ⟨by rfl, ?_⟩) ?_ ?_
     rotate_left
     ·intro w'
      go_simp
      with_reducible rfl
     rotate_left
     ·simp only [Act.put, List.setIfInBounds_toArray, List.set_cons_zero, List.set_cons_succ, i64_w, i32_w]
      rfl
     refine pure_ (i := 6) (N := some 6) (v := ?_) (a' := ?_) #[true, true, true, true, true, true, true] rfl rfl (by kernel_rfl) (fun _ _ _ h => h) (Or.inl ⟨by rfl, ?_⟩) ?_ ?_
     rotate_left
     ·intro w'
      go_simp
      with_reducible rfl
     rotate_left
     ·simp only [Act.put, List.setIfInBounds_toArray, List.set_cons_zero, List.set_cons_succ, i64_w, i32_w]
      rfl
     refine done_ (by kernel_rfl) ?_
     try go_wp2
     go_ret3
     exact ⟨_, by first | rfl | (simp [errW_none, errW_some] <;> rfl) | (simp [*, errW_none, errW_some] <;> rfl), by exact kR HO313.out, by exact kB HB.out⟩
 ·replace c4 := Bool.eq_false_iff.mpr c4
  subst c4
  have H1 : (some (([] : List Int), 0, 70)) = some (r1, r2, r3) := by rw [if_neg (show ¬ (false = true) by decide)] at H; exact H
  clear H
  have H := H1
  clear H1
  simp only [Option.some.injEq, Prod.mk.injEq] at H
  obtain ⟨rfl, rfl, rfl⟩ := H
  go_enter Tryz.func18, Tryz.ntmps18
  go_wp2_with (first | ((with_reducible refine gate_dst (N := 2) rfl ?_); refine bE_ #[.int .i64 a0_0, .slice A0_1 l0_1.length c0_1] 24 ?_; intro gb305 hg w41 hbox hb; have BK305 := Aside0.mk hbox; have GW305 := gS hg HB; have GE305 := gS hg HB; replace HB := bS HB hb; clear hb hbox hg) | ((with_reducible refine gate_dst (N := 3) rfl ?_); refine bE_ #[.string a1_0, .int .i64 a1_1, .int .i64 a1_2] 26 ?_; intro gb306 hg w42 hbox hb; have BK306 := Aside0.mk hbox; have GW306 := gS hg HB; have GE306 := gS hg HB; have NB305_306 := nL hg BK305; have NB306_305 := nG hg BK305; replace BK305 := aS BK305 hb; replace HB := bS HB hb; clear hb hbox hg; have := NB305_306.out; have := NB306_305.out; obtain ⟨_, _, _, _⟩ := q2z w42 BK305.out; obtain ⟨_, _, _, _, _, _⟩ := q3z w42 BK306.out) | ((with_reducible refine gate_callee (f := 19) rfl ?_); refine gL_ (some 14) Tryz.func19 #[.agg #[.int .i64 a0_0, .slice A0_1 l0_1.length c0_1], .agg #[.string a1_0, .int .i64 a1_1, .int .i64 a1_2]] ?_; (with_reducible refine (modillionref07_Right.calls k a0_0 _ _ l0_1 a1_0 a1_1 a1_2 false _ ?z1 ?z2 A3.out).mono ?_); (case z1 => exact kC HR0_1.out HB.out); (case z2 => exact HC0_1.out); rintro e w46 ⟨rfl, hb⟩; refine ⟨_, rfl, ?_⟩; replace BK305 := aS BK305 hb; replace BK306 := aS BK306 hb; replace HB := bS HB hb; clear hb))
  go_ret3
  exact ⟨_, by first | rfl | (simp [errW_none, errW_some] <;> rfl) | (simp [*, errW_none, errW_some] <;> rfl), by first | exact Kd.R_nil _ _ _ _ _ | exact Kd.N_nil _ _ _ _ _ | exact Kd.V_nil _ _ _ _ _ | exact Kd.Q_nil _ _ _ _ _ | exact Kd.S_nil _ _ _ _ _, by exact kB HB.out⟩

end Go.Proofs.YtpndhkeoljoapaaGreat.P
