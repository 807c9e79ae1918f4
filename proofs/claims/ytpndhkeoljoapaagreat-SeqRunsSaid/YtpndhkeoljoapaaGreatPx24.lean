/- What these Go functions compute, as Lean functions, and that they do. No condition. -/
import Derived.Test.YtpndhkeoljoapaaGreatPx0
import Derived.Test.YtpndhkeoljoapaaGreatPx11
import Derived.Test.YtpndhkeoljoapaaGreatPx12
import Derived.Test.YtpndhkeoljoapaaGreatPx14
import Derived.Test.YtpndhkeoljoapaaGreatPx19
import Derived.Test.YtpndhkeoljoapaaGreatPx22
import Derived.Test.YtpndhkeoljoapaaGreatPx23
namespace Go.Proofs.YtpndhkeoljoapaaGreat.P
open Go.RowKit Go.Proofs.YtpndhkeoljoapaaGreatW.PrintWords Go.Proofs.YtpndhkeoljoapaaGreatW.PrintLast Go.Proofs.YtpndhkeoljoapaaGreatW.PrintMore
open Bool renaming true → Y, false → Z
open List renaming setIfInBounds_toArray → q1_, set_cons_zero → q2_, set_cons_succ → q3_
attribute [local go_sem] max2_int min2_int max_two min_two max_three min_three max_four min_four   -- for this text's walks alone
set_option linter.unusedVariables false
set_option linter.unusedSimpArgs false
set_option linter.unnecessarySimpa false

/-! ### modillionlaw09_SeqRuns: function 4 -/
def modillionlaw09_SeqRuns.j0 : Nat → Bool → Int → List (S48) → ByteArray → Int → Int → Option (Bool)
 | 0, _, _, _, _, _, _ => none
 | k + 1, x25, x326000, x326001, x327000, x327001, x327002 => if x25 = true then ((modillionlaw09_awake.f k).bind fun t328 => (some t328)) else ((modillionlaw09_Own.f x326000 x326001).bind fun bt329 => ((seq_Start.f k bt329.1 bt329.2 x327000 x327001 x327002).bind fun bt333 => ((modillionlaw09_Own.f x326000 x326001).bind fun bt337 => ((seq_Run.f k bt337.1 bt337.2 x327000 x327001 x327002).bind fun bt341 => ((modillionref09_Run.f k x326000 x326001 x327000 x327001 x327002).bind fun bt346 => ((modillionref07_Right.f k x326000 x326001 x327000 x327001 x327002).bind fun t351 => (if t351 = true then (if bt333.2 = 0 then ((modillionref09_Start.f k x326000 x326001 x327000 x327001 x327002).bind fun t352 => ((modillionref09_Same.f k bt333.1 t352).bind fun t355 => (if t355 = true then ((modillionref09_Row.f k bt341.1 bt346.1).bind fun t356 => (if t356 = true then (if bt341.2.1 = bt346.2.1 then (some (bt341.2.2 == bt346.2.2)) else (none)) else (none))) else (none)))) else (none)) else (if (bt333.1.length : Int) = 0 then (if bt333.2 = 70 then (if (bt341.1.length : Int) = 0 then (if bt341.2.1 = 0 then (some (bt341.2.2 == 70)) else (none)) else (none)) else (none)) else (none)))))))))
def modillionlaw09_SeqRuns.f (k : Nat) (a0_0 : Int) (l0_1 : List (S48)) (a1_0 : ByteArray) (a1_1 : Int) (a1_2 : Int) : Option (Bool) := (modillionlaw09_awake.f k).bind fun t327 => (if t327 = true then (if (l0_1.length : Int) > 60 then (modillionlaw09_SeqRuns.j0 k true a0_0 l0_1 a1_0 a1_1 a1_2) else (modillionlaw09_SeqRuns.j0 k (decide (a1_2 > 20)) a0_0 l0_1 a1_0 a1_1 a1_2)) else (modillionlaw09_SeqRuns.j0 k true a0_0 l0_1 a1_0 a1_1 a1_2))
theorem modillionlaw09_SeqRuns.mono_l : ∀ k, (∀ y0 y1 y2 y3 y4 y5, LeO (modillionlaw09_SeqRuns.j0 k y0 y1 y2 y3 y4 y5) (modillionlaw09_SeqRuns.j0 (k + 1) y0 y1 y2 y3 y4 y5))
 | 0 => fun _ _ _ _ _ _ r h => by simp [modillionlaw09_SeqRuns.j0] at h
 | k + 1 => by
  have ih0 := modillionlaw09_SeqRuns.mono_l k
  ·intro y0 y1 y2 y3 y4 y5
   unfold modillionlaw09_SeqRuns.j0
   repeat' first
   | (with_reducible exact ih0 _ _ _ _ _ _)
   | (with_reducible exact modillionlaw09_awake.mono _)
   | (with_reducible exact modillionref07_Right.mono _ _ _ _ _ _)
   | (with_reducible exact modillionref09_Row.mono _ _ _)
   | (with_reducible exact modillionref09_Run.mono _ _ _ _ _ _)
   | (with_reducible exact modillionref09_Same.mono _ _ _)
   | (with_reducible exact modillionref09_Start.mono _ _ _ _ _ _)
   | (with_reducible exact seq_Run.mono _ _ _ _ _ _)
   | (with_reducible exact seq_Start.mono _ _ _ _ _ _)
   | (with_reducible exact LeO.refl _)
   | (with_reducible exact LeO.none _)
   | (with_reducible refine LeO.ite ?_ ?_)
   | (with_reducible refine LeO.bind ?_ (fun _ => ?_))
   | exact ih0 _ _ _ _ _ _
   | exact modillionlaw09_awake.mono _
   | exact modillionref07_Right.mono _ _ _ _ _ _
   | exact modillionref09_Row.mono _ _ _
   | exact modillionref09_Run.mono _ _ _ _ _ _
   | exact modillionref09_Same.mono _ _ _
   | exact modillionref09_Start.mono _ _ _ _ _ _
   | exact seq_Run.mono _ _ _ _ _ _
   | exact seq_Start.mono _ _ _ _ _ _
   | exact LeO.none _
   | refine LeO.ite ?_ ?_
   | refine LeO.bind ?_ (fun _ => ?_)
theorem modillionlaw09_SeqRuns.mono : ∀ a0 a1 a2 a3 a4 k, LeO (modillionlaw09_SeqRuns.f k a0 a1 a2 a3 a4) (modillionlaw09_SeqRuns.f (k + 1) a0 a1 a2 a3 a4) := by
 intro a0 a1 a2 a3 a4 k
 have ih0 := modillionlaw09_SeqRuns.mono_l k
 unfold modillionlaw09_SeqRuns.f
 repeat' first
   | (with_reducible exact ih0 _ _ _ _ _ _)
   | (with_reducible exact modillionlaw09_awake.mono _)
   | (with_reducible exact modillionref07_Right.mono _ _ _ _ _ _)
   | (with_reducible exact modillionref09_Row.mono _ _ _)
   | (with_reducible exact modillionref09_Run.mono _ _ _ _ _ _)
   | (with_reducible exact modillionref09_Same.mono _ _ _)
   | (with_reducible exact modillionref09_Start.mono _ _ _ _ _ _)
   | (with_reducible exact seq_Run.mono _ _ _ _ _ _)
   | (with_reducible exact seq_Start.mono _ _ _ _ _ _)
   | (with_reducible exact LeO.refl _)
   | (with_reducible exact LeO.none _)
   | (with_reducible refine LeO.ite ?_ ?_)
   | (with_reducible refine LeO.bind ?_ (fun _ => ?_))
   | exact ih0 _ _ _ _ _ _
   | exact modillionlaw09_awake.mono _
   | exact modillionref07_Right.mono _ _ _ _ _ _
   | exact modillionref09_Row.mono _ _ _
   | exact modillionref09_Run.mono _ _ _ _ _ _
   | exact modillionref09_Same.mono _ _ _
   | exact modillionref09_Start.mono _ _ _ _ _ _
   | exact seq_Run.mono _ _ _ _ _ _
   | exact seq_Start.mono _ _ _ _ _ _
   | exact LeO.none _
   | refine LeO.ite ?_ ?_
   | refine LeO.bind ?_ (fun _ => ?_)
def modillionlaw09_SeqRuns.T3 : Bool × List (List Nat × List Nat) := (true, [([], []), ([0], [0]), ([], []), ([1, 2, 1], [1, 2]), ([3], [3]), ([4], [4]), ([4], [4]), ([5, 3, 0, 1, 2, 3, 4, 5], [5]), ([6, 7, 0, 1, 2, 3, 4, 5, 6, 7], [6])])
def modillionlaw09_SeqRuns.B3 : List Nat := [0, 1, 0, 7, 15, 31, 31, 63, 255]
theorem modillionlaw09_SeqRuns.tab3 : rtab .any (opsOf Tryz.f4 3) = modillionlaw09_SeqRuns.T3 := by kernel_rfl
theorem modillionlaw09_SeqRuns.bits3 : waitsOk modillionlaw09_SeqRuns.T3.2 modillionlaw09_SeqRuns.B3 = true := by kernel_rfl
def modillionlaw09_SeqRuns.T4 : Bool × List (List Nat × List Nat) := (true, [([], []), ([0], [0]), ([], []), ([1, 2, 1], [1, 2]), ([3], [3]), ([4], [4]), ([4], [4]), ([4], [4]), ([5, 3, 0, 1, 2, 3, 4, 5], [5]), ([6, 8, 0, 1, 2, 3, 4, 5, 6, 8], [6]), ([7, 9, 0, 1, 2, 3, 4, 5, 6, 7, 8, 9], [7])])
def modillionlaw09_SeqRuns.B4 : List Nat := [0, 1, 0, 7, 15, 31, 31, 31, 63, 383, 1023]
theorem modillionlaw09_SeqRuns.tab4 : rtab .any (opsOf Tryz.f4 4) = modillionlaw09_SeqRuns.T4 := by kernel_rfl
theorem modillionlaw09_SeqRuns.bits4 : waitsOk modillionlaw09_SeqRuns.T4.2 modillionlaw09_SeqRuns.B4 = true := by kernel_rfl
set_option maxHeartbeats 8000000 in
set_option maxRecDepth 100000 in
theorem modillionlaw09_SeqRuns.calls (k : Nat) (a0_0 : Int) (A0_1 : Option Addr) (c0_1 : Nat) (l0_1 : List (S48)) (a1_0 : ByteArray) (a1_1 : Int) (a1_2 : Int) (r : Bool) (w : World) (hr0_1 : Kd.C k48 w A0_1 l0_1.length l0_1) (hc0_1 : l0_1.length ≤ c0_1) (h : modillionlaw09_SeqRuns.f k a0_0 l0_1 a1_0 a1_1 a1_2 = some r) :
  Calls Tryz.prog 4 #[.agg #[.int .i64 a0_0, .slice A0_1 l0_1.length c0_1], .agg #[.string a1_0, .int .i64 a1_1, .int .i64 a1_2]] w fun e w' => e = .returned (.bool r) ∧ Below w.heap.size w w' := by
 have hu24 := Tryz.underlying24
 have hu26 := Tryz.underlying26
 have HR0_1 := Aside0.mk hr0_1
 have HC0_1 := Aside0.mk hc0_1
 clear hr0_1 hc0_1
 have HB := Aside0.mk (Below.refl w.heap.size w)
 have H : ((modillionlaw09_awake.f k).bind fun t327 => (if t327 = true then (if (l0_1.length : Int) > 60 then (modillionlaw09_SeqRuns.j0 k true a0_0 l0_1 a1_0 a1_1 a1_2) else (modillionlaw09_SeqRuns.j0 k (decide (a1_2 > 20)) a0_0 l0_1 a1_0 a1_1 a1_2)) else (modillionlaw09_SeqRuns.j0 k true a0_0 l0_1 a1_0 a1_1 a1_2))) = some r := h
 clear h
 have HC3 := Aside0.mk H
 clear H
 go_enter Tryz.func4, Tryz.ntmps4
 go_upto_region 1 with (first | ((with_reducible refine gate_dst (N := 2) rfl ?_); (try (refine gate_guard (by rfl) ?_; dsimp only)); refine bE_ #[.int .i64 a0_0, .slice A0_1 l0_1.length c0_1] 24 ?_; intro gb325 hg w4 hbox hb; have BK325 := Aside0.mk hbox; have GW325 := gS hg HB; have GE325 := gS hg HB; replace HB := bS HB hb; clear hb hbox hg) | ((with_reducible refine gate_dst (N := 3) rfl ?_); (try (refine gate_guard (by rfl) ?_; dsimp only)); refine bE_ #[.string a1_0, .int .i64 a1_1, .int .i64 a1_2] 26 ?_; intro gb326 hg w5 hbox hb; have BK326 := Aside0.mk hbox; have GW326 := gS hg HB; have GE326 := gS hg HB; have NB325_326 := nL hg BK325; have NB326_325 := nG hg BK325; replace BK325 := aS BK325 hb; replace HB := bS HB hb; clear hb hbox hg))
 (try simp only [Act.put, q1_, q2_, q3_])
 go_cut [25] (fun v25 wc => ∃ (kq : Nat) (x25_2 : Bool), v25 = .bool x25_2 ∧ Aside0 (modillionlaw09_SeqRuns.j0 kq x25_2 a0_0 l0_1 a1_0 a1_1 a1_2 = some r) ∧ Aside0 (kq ≤ k) ∧ Aside0 (wc.heap[gb325]? = some (.cells #[.int .i64 a0_0, (.slice A0_1 l0_1.length c0_1)] 24 (0, 0))) ∧ Aside0 (wc.heap[gb326]? = some (.cells #[.string a1_0, .int .i64 a1_1, .int .i64 a1_2] 26 (0, 0))) ∧ Aside0 (Below w.heap.size w wc))
 case first =>
  have H := HC3.out
  clear HC3
  replace H := Option.bind_eq_some_iff.mp H
  obtain ⟨t327, A60, H⟩ := H
  replace H : (if t327 = true then (if (l0_1.length : Int) > 60 then (modillionlaw09_SeqRuns.j0 k true a0_0 l0_1 a1_0 a1_1 a1_2) else (modillionlaw09_SeqRuns.j0 k (decide (a1_2 > 20)) a0_0 l0_1 a1_0 a1_1 a1_2)) else (modillionlaw09_SeqRuns.j0 k true a0_0 l0_1 a1_0 a1_1 a1_2)) = some r := H
  have A6 := Aside0.mk A60
  clear A60
  by_cases c7 : t327 = true
  ·subst c7
   have H1 : (if (l0_1.length : Int) > 60 then (modillionlaw09_SeqRuns.j0 k true a0_0 l0_1 a1_0 a1_1 a1_2) else (modillionlaw09_SeqRuns.j0 k (decide (a1_2 > 20)) a0_0 l0_1 a1_0 a1_1 a1_2)) = some r := by rw [if_pos rfl] at H; exact H
   clear H
   have H := H1
   clear H1
   by_cases c8 : (l0_1.length : Int) > 60
   ·rw [if_pos c8] at H
    have c8b0 : decide (60 < (l0_1.length : Int)) = true := decide_eq_true c8
    have c8b1 : decide (60 < l0_1.length) = true := decide_eq_true (by omega)
    clear c8
    (first | rw [c8b0] | (simp only [i64_w, i32_w]; rw [c8b0]) | skip)
    have H' := Aside0.mk H
    clear H
    go_wp2_with (first | ((with_reducible refine gate_callee (f := 5) rfl ?_); refine gL_ (some 13) Tryz.func5 #[] ?_; (with_reducible refine (modillionlaw09_awake.calls k  true _ A6.out).mono ?_); rintro e w9 ⟨rfl, hb⟩; refine ⟨_, rfl, ?_⟩; replace BK325 := aS BK325 hb; replace BK326 := aS BK326 hb; replace HB := bS HB hb; clear hb; have := NB325_326.out; have := NB326_325.out; have hcz11_0 : w9.cell? ⟨gb325, 0, none⟩ = some (.int .i64 a0_0) := (blk_cell BK325.out 0).trans rfl; have hcz11_1 : w9.cell? ⟨gb325, 1, none⟩ = some (.slice A0_1 l0_1.length c0_1) := (blk_cell BK325.out 1).trans rfl; have hfz11_0 := blk_frozen BK325.out 0; have hfz11_1 := blk_frozen BK325.out 1))
    go_meet
    case rel => exact ⟨_, (true), (by first | rfl | (simp; done) | (simp [*]; done)), H', ⟨by first | omega | exact Nat.le_refl _⟩, ⟨kA BK325.out⟩, ⟨kA BK326.out⟩, ⟨kB HB.out⟩⟩
   ·rw [if_neg c8] at H
    have c8b0 : decide (60 < (l0_1.length : Int)) = false := decide_eq_false c8
    have c8b1 : decide (60 < l0_1.length) = false := decide_eq_false (by omega)
    clear c8
    (first | rw [c8b0] | (simp only [i64_w, i32_w]; rw [c8b0]) | skip)
    have H' := Aside0.mk H
    clear H
    go_wp2_with (first | ((with_reducible refine gate_callee (f := 5) rfl ?_); refine gL_ (some 13) Tryz.func5 #[] ?_; (with_reducible refine (modillionlaw09_awake.calls k  true _ A6.out).mono ?_); rintro e w12 ⟨rfl, hb⟩; refine ⟨_, rfl, ?_⟩; replace BK325 := aS BK325 hb; replace BK326 := aS BK326 hb; replace HB := bS HB hb; clear hb; have := NB325_326.out; have := NB326_325.out; have hcz14_0 : w12.cell? ⟨gb325, 0, none⟩ = some (.int .i64 a0_0) := (blk_cell BK325.out 0).trans rfl; have hcz14_1 : w12.cell? ⟨gb325, 1, none⟩ = some (.slice A0_1 l0_1.length c0_1) := (blk_cell BK325.out 1).trans rfl; have hfz14_0 := blk_frozen BK325.out 0; have hfz14_1 := blk_frozen BK325.out 1; have hcz15_0 : w12.cell? ⟨gb326, 0, none⟩ = some (.string a1_0) := (blk_cell BK326.out 0).trans rfl; have hcz15_1 : w12.cell? ⟨gb326, 1, none⟩ = some (.int .i64 a1_1) := (blk_cell BK326.out 1).trans rfl; have hcz15_2 : w12.cell? ⟨gb326, 2, none⟩ = some (.int .i64 a1_2) := (blk_cell BK326.out 2).trans rfl; have hfz15_0 := blk_frozen BK326.out 0; have hfz15_1 := blk_frozen BK326.out 1; have hfz15_2 := blk_frozen BK326.out 2))
    go_meet
    case rel => exact ⟨_, (decide (a1_2 > 20)), (by first | rfl | (simp; done) | (simp [*]; done)), H', ⟨by first | omega | exact Nat.le_refl _⟩, ⟨kA BK325.out⟩, ⟨kA BK326.out⟩, ⟨kB HB.out⟩⟩
  ·replace c7 := Bool.eq_false_iff.mpr c7
   subst c7
   have H1 : (modillionlaw09_SeqRuns.j0 k true a0_0 l0_1 a1_0 a1_1 a1_2) = some r := by rw [if_neg (show ¬ (false = true) by decide)] at H; exact H
   clear H
   have H := H1
   clear H1
   have H' := Aside0.mk H
   clear H
   go_wp2_with (first | ((with_reducible refine gate_callee (f := 5) rfl ?_); refine gL_ (some 13) Tryz.func5 #[] ?_; (with_reducible refine (modillionlaw09_awake.calls k  false _ A6.out).mono ?_); rintro e w16 ⟨rfl, hb⟩; refine ⟨_, rfl, ?_⟩; replace BK325 := aS BK325 hb; replace BK326 := aS BK326 hb; replace HB := bS HB hb; clear hb))
   go_meet
   case rel => exact ⟨_, (true), (by first | rfl | (simp; done) | (simp [*]; done)), H', ⟨by first | omega | exact Nat.le_refl _⟩, ⟨kA BK325.out⟩, ⟨kA BK326.out⟩, ⟨kB HB.out⟩⟩
 case rest =>
  clear HC3
  try clear c1
  try clear p2
  try clear c4
  try clear c5
  try clear c7
  try clear c8
  try clear c8b0
  try clear c8b1
  try clear c10
  try clear c13
  try clear hcz11_0
  try clear hcz11_1
  try clear hcz14_0
  try clear hcz14_1
  try clear hcz15_0
  try clear hcz15_1
  try clear hcz15_2
  try clear hfz11_0
  try clear hfz11_1
  try clear hfz14_0
  try clear hfz14_1
  try clear hfz15_0
  try clear hfz15_1
  try clear hfz15_2
  obtain ⟨kq, x25_2, rfl, HA, HJ2, BK325, BK326, HB⟩ := hcut
  cases kq with
  | zero => exact absurd HA.out (by simp [modillionlaw09_SeqRuns.j0])
  | succ kj2 =>
   have H := HA.out
   clear HA
   simp only [modillionlaw09_SeqRuns.j0] at H
   by_cases c17 : x25_2 = true
   ·subst c17
    have H1 : ((modillionlaw09_awake.f kj2).bind fun t328 => (some t328)) = some r := by rw [if_pos rfl] at H; exact H
    clear H
    have H := H1
    clear H1
    replace H := Option.bind_eq_some_iff.mp H
    obtain ⟨t328, A180, H⟩ := H
    replace H : (some t328) = some r := H
    have A18 := Aside0.mk A180
    clear A180
    obtain rfl := Option.some.inj H
    go_wp2_with (first | ((with_reducible refine gate_callee (f := 5) rfl ?_); refine gL_ (some 26) Tryz.func5 #[] ?_; (with_reducible refine (modillionlaw09_awake.calls kj2  t328 _ A18.out).mono ?_); rintro e w19 ⟨rfl, hb⟩; refine ⟨_, rfl, ?_⟩; replace BK325 := aS BK325 hb; replace BK326 := aS BK326 hb; replace HB := bS HB hb; clear hb))
    go_ret
    exact ⟨by first | rfl | (simp [errW_none, errW_some] <;> rfl) | (simp [*, errW_none, errW_some] <;> rfl), by exact kB HB.out⟩
   ·replace c17 := Bool.eq_false_iff.mpr c17
    subst c17
    have H1 : ((modillionlaw09_Own.f a0_0 l0_1).bind fun bt329 => ((seq_Start.f kj2 bt329.1 bt329.2 a1_0 a1_1 a1_2).bind fun bt333 => ((modillionlaw09_Own.f a0_0 l0_1).bind fun bt337 => ((seq_Run.f kj2 bt337.1 bt337.2 a1_0 a1_1 a1_2).bind fun bt341 => ((modillionref09_Run.f kj2 a0_0 l0_1 a1_0 a1_1 a1_2).bind fun bt346 => ((modillionref07_Right.f kj2 a0_0 l0_1 a1_0 a1_1 a1_2).bind fun t351 => (if t351 = true then (if bt333.2 = 0 then ((modillionref09_Start.f kj2 a0_0 l0_1 a1_0 a1_1 a1_2).bind fun t352 => ((modillionref09_Same.f kj2 bt333.1 t352).bind fun t355 => (if t355 = true then ((modillionref09_Row.f kj2 bt341.1 bt346.1).bind fun t356 => (if t356 = true then (if bt341.2.1 = bt346.2.1 then (some (bt341.2.2 == bt346.2.2)) else (none)) else (none))) else (none)))) else (none)) else (if (bt333.1.length : Int) = 0 then (if bt333.2 = 70 then (if (bt341.1.length : Int) = 0 then (if bt341.2.1 = 0 then (some (bt341.2.2 == 70)) else (none)) else (none)) else (none)) else (none))))))))) = some r := by rw [if_neg (show ¬ (false = true) by decide)] at H; exact H
    clear H
    have H := H1
    clear H1
    replace H := Option.bind_eq_some_iff.mp H
    obtain ⟨⟨t329, t330⟩, A200, H⟩ := H
    replace H : ((seq_Start.f kj2 t329 t330 a1_0 a1_1 a1_2).bind fun bt333 => ((modillionlaw09_Own.f a0_0 l0_1).bind fun bt337 => ((seq_Run.f kj2 bt337.1 bt337.2 a1_0 a1_1 a1_2).bind fun bt341 => ((modillionref09_Run.f kj2 a0_0 l0_1 a1_0 a1_1 a1_2).bind fun bt346 => ((modillionref07_Right.f kj2 a0_0 l0_1 a1_0 a1_1 a1_2).bind fun t351 => (if t351 = true then (if bt333.2 = 0 then ((modillionref09_Start.f kj2 a0_0 l0_1 a1_0 a1_1 a1_2).bind fun t352 => ((modillionref09_Same.f kj2 bt333.1 t352).bind fun t355 => (if t355 = true then ((modillionref09_Row.f kj2 bt341.1 bt346.1).bind fun t356 => (if t356 = true then (if bt341.2.1 = bt346.2.1 then (some (bt341.2.2 == bt346.2.2)) else (none)) else (none))) else (none)))) else (none)) else (if (bt333.1.length : Int) = 0 then (if bt333.2 = 70 then (if (bt341.1.length : Int) = 0 then (if bt341.2.1 = 0 then (some (bt341.2.2 == 70)) else (none)) else (none)) else (none)) else (none)))))))) = some r := H
    have A20 := Aside0.mk A200
    clear A200
    replace H := Option.bind_eq_some_iff.mp H
    obtain ⟨⟨t333, t336⟩, A210, H⟩ := H
    replace H : ((modillionlaw09_Own.f a0_0 l0_1).bind fun bt337 => ((seq_Run.f kj2 bt337.1 bt337.2 a1_0 a1_1 a1_2).bind fun bt341 => ((modillionref09_Run.f kj2 a0_0 l0_1 a1_0 a1_1 a1_2).bind fun bt346 => ((modillionref07_Right.f kj2 a0_0 l0_1 a1_0 a1_1 a1_2).bind fun t351 => (if t351 = true then (if t336 = 0 then ((modillionref09_Start.f kj2 a0_0 l0_1 a1_0 a1_1 a1_2).bind fun t352 => ((modillionref09_Same.f kj2 t333 t352).bind fun t355 => (if t355 = true then ((modillionref09_Row.f kj2 bt341.1 bt346.1).bind fun t356 => (if t356 = true then (if bt341.2.1 = bt346.2.1 then (some (bt341.2.2 == bt346.2.2)) else (none)) else (none))) else (none)))) else (none)) else (if (t333.length : Int) = 0 then (if t336 = 70 then (if (bt341.1.length : Int) = 0 then (if bt341.2.1 = 0 then (some (bt341.2.2 == 70)) else (none)) else (none)) else (none)) else (none))))))) = some r := H
    have A21 := Aside0.mk A210
    clear A210
    replace H := Option.bind_eq_some_iff.mp H
    obtain ⟨⟨t337, t338⟩, A220, H⟩ := H
    replace H : ((seq_Run.f kj2 t337 t338 a1_0 a1_1 a1_2).bind fun bt341 => ((modillionref09_Run.f kj2 a0_0 l0_1 a1_0 a1_1 a1_2).bind fun bt346 => ((modillionref07_Right.f kj2 a0_0 l0_1 a1_0 a1_1 a1_2).bind fun t351 => (if t351 = true then (if t336 = 0 then ((modillionref09_Start.f kj2 a0_0 l0_1 a1_0 a1_1 a1_2).bind fun t352 => ((modillionref09_Same.f kj2 t333 t352).bind fun t355 => (if t355 = true then ((modillionref09_Row.f kj2 bt341.1 bt346.1).bind fun t356 => (if t356 = true then (if bt341.2.1 = bt346.2.1 then (some (bt341.2.2 == bt346.2.2)) else (none)) else (none))) else (none)))) else (none)) else (if (t333.length : Int) = 0 then (if t336 = 70 then (if (bt341.1.length : Int) = 0 then (if bt341.2.1 = 0 then (some (bt341.2.2 == 70)) else (none)) else (none)) else (none)) else (none)))))) = some r := H
    have A22 := Aside0.mk A220
    clear A220
    replace H := Option.bind_eq_some_iff.mp H
    obtain ⟨⟨t341, t344, t345⟩, A230, H⟩ := H
    replace H : ((modillionref09_Run.f kj2 a0_0 l0_1 a1_0 a1_1 a1_2).bind fun bt346 => ((modillionref07_Right.f kj2 a0_0 l0_1 a1_0 a1_1 a1_2).bind fun t351 => (if t351 = true then (if t336 = 0 then ((modillionref09_Start.f kj2 a0_0 l0_1 a1_0 a1_1 a1_2).bind fun t352 => ((modillionref09_Same.f kj2 t333 t352).bind fun t355 => (if t355 = true then ((modillionref09_Row.f kj2 t341 bt346.1).bind fun t356 => (if t356 = true then (if t344 = bt346.2.1 then (some (t345 == bt346.2.2)) else (none)) else (none))) else (none)))) else (none)) else (if (t333.length : Int) = 0 then (if t336 = 70 then (if (t341.length : Int) = 0 then (if t344 = 0 then (some (t345 == 70)) else (none)) else (none)) else (none)) else (none))))) = some r := H
    have A23 := Aside0.mk A230
    clear A230
    replace H := Option.bind_eq_some_iff.mp H
    obtain ⟨⟨t346, t349, t350⟩, A240, H⟩ := H
    replace H : ((modillionref07_Right.f kj2 a0_0 l0_1 a1_0 a1_1 a1_2).bind fun t351 => (if t351 = true then (if t336 = 0 then ((modillionref09_Start.f kj2 a0_0 l0_1 a1_0 a1_1 a1_2).bind fun t352 => ((modillionref09_Same.f kj2 t333 t352).bind fun t355 => (if t355 = true then ((modillionref09_Row.f kj2 t341 t346).bind fun t356 => (if t356 = true then (if t344 = t349 then (some (t345 == t350)) else (none)) else (none))) else (none)))) else (none)) else (if (t333.length : Int) = 0 then (if t336 = 70 then (if (t341.length : Int) = 0 then (if t344 = 0 then (some (t345 == 70)) else (none)) else (none)) else (none)) else (none)))) = some r := H
    have A24 := Aside0.mk A240
    clear A240
    replace H := Option.bind_eq_some_iff.mp H
    obtain ⟨t351, A250, H⟩ := H
    replace H : (if t351 = true then (if t336 = 0 then ((modillionref09_Start.f kj2 a0_0 l0_1 a1_0 a1_1 a1_2).bind fun t352 => ((modillionref09_Same.f kj2 t333 t352).bind fun t355 => (if t355 = true then ((modillionref09_Row.f kj2 t341 t346).bind fun t356 => (if t356 = true then (if t344 = t349 then (some (t345 == t350)) else (none)) else (none))) else (none)))) else (none)) else (if (t333.length : Int) = 0 then (if t336 = 70 then (if (t341.length : Int) = 0 then (if t344 = 0 then (some (t345 == 70)) else (none)) else (none)) else (none)) else (none))) = some r := H
    have A25 := Aside0.mk A250
    clear A250
    by_cases c26 : t351 = true
    ·subst c26
     have H1 : (if t336 = 0 then ((modillionref09_Start.f kj2 a0_0 l0_1 a1_0 a1_1 a1_2).bind fun t352 => ((modillionref09_Same.f kj2 t333 t352).bind fun t355 => (if t355 = true then ((modillionref09_Row.f kj2 t341 t346).bind fun t356 => (if t356 = true then (if t344 = t349 then (some (t345 == t350)) else (none)) else (none))) else (none)))) else (none)) = some r := by rw [if_pos rfl] at H; exact H
     clear H
     have H := H1
     clear H1
     by_cases c27 : t336 = 0
     ·rw [if_pos c27] at H
      have c27b0 : (t336 == 0) = true := beq_iff_eq.mpr c27
      have c27b1 : (t336 != 0) = false := bne_eq_false_iff_eq.mpr c27
      clear c27
      replace H := Option.bind_eq_some_iff.mp H
      obtain ⟨t352, A280, H⟩ := H
      replace H : ((modillionref09_Same.f kj2 t333 t352).bind fun t355 => (if t355 = true then ((modillionref09_Row.f kj2 t341 t346).bind fun t356 => (if t356 = true then (if t344 = t349 then (some (t345 == t350)) else (none)) else (none))) else (none))) = some r := H
      have A28 := Aside0.mk A280
      clear A280
      replace H := Option.bind_eq_some_iff.mp H
      obtain ⟨t355, A290, H⟩ := H
      replace H : (if t355 = true then ((modillionref09_Row.f kj2 t341 t346).bind fun t356 => (if t356 = true then (if t344 = t349 then (some (t345 == t350)) else (none)) else (none))) else (none)) = some r := H
      have A29 := Aside0.mk A290
      clear A290
      by_cases c30 : t355 = true
      ·subst c30
       have H1 : ((modillionref09_Row.f kj2 t341 t346).bind fun t356 => (if t356 = true then (if t344 = t349 then (some (t345 == t350)) else (none)) else (none))) = some r := by rw [if_pos rfl] at H; exact H
       clear H
       have H := H1
       clear H1
       replace H := Option.bind_eq_some_iff.mp H
       obtain ⟨t356, A310, H⟩ := H
       replace H : (if t356 = true then (if t344 = t349 then (some (t345 == t350)) else (none)) else (none)) = some r := H
       have A31 := Aside0.mk A310
       clear A310
       by_cases c32 : t356 = true
       ·subst c32
        have H1 : (if t344 = t349 then (some (t345 == t350)) else (none)) = some r := by rw [if_pos rfl] at H; exact H
        clear H
        have H := H1
        clear H1
        by_cases c33 : t344 = t349
        ·rw [if_pos c33] at H
         have c33b0 : (t344 == t349) = true := beq_iff_eq.mpr c33
         have c33b1 : (t344 != t349) = false := bne_eq_false_iff_eq.mpr c33
         clear c33
         obtain rfl := Option.some.inj H
         try go_wp2
         replace BK325 := Aside0.mk (blk_drew BK325.out)
         replace BK326 := Aside0.mk (blk_drew BK326.out)
         replace HB := Aside0.mk (below_drew1 HB.out)
         refine start_ (n := 9) (S := fun w' => w'.cell? ⟨gb325, 0, none⟩ = some (.int .i64 a0_0) ∧ w'.cell? ⟨gb325, 1, none⟩ = some (.slice A0_1 l0_1.length c0_1) ∧ w'.cell? ⟨gb326, 0, none⟩ = some (.string a1_0) ∧ w'.cell? ⟨gb326, 1, none⟩ = some (.int .i64 a1_1) ∧ w'.cell? ⟨gb326, 2, none⟩ = some (.int .i64 a1_2)) (ds := []) #[Z,Z,Z,Z,Z,Z,Z,Z,Z] (by kernel_rfl) rfl rfl ⟨(blk_cell BK325.out 0).trans rfl, (blk_cell BK325.out 1).trans rfl, (blk_cell BK326.out 0).trans rfl, (blk_cell BK326.out 1).trans rfl, (blk_cell BK326.out 2).trans rfl⟩ (fun hHeld => ?_); refine with_tabW modillionlaw09_SeqRuns.tab3 modillionlaw09_SeqRuns.bits3 (fun HT_ HW_ => ?_)
         generalize wc.drew = w34 at BK325 BK326 HB hHeld ⊢
         refine take_ (i := 0) (N := some 28) (v := ?_) (a' := ?_) #[Y,Z,Z,Z,Z,Z,Z,Z,Z] rfl rfl (take_ofW HT_.out HW_.out (by kernel_rfl)) (fun _ _ _ h => h) (Or.inl ⟨by rfl, ?_⟩) hHeld ?_ ?_
         rotate_left
         ·rintro w' ⟨s0, s1, s2, s3, s4⟩;go_simp;with_reducible rfl
         rotate_left
         ·simp only [Act.put, q1_, q2_, q3_, i64_w, i32_w];rfl
         refine take_ (i := 2) (N := some 30) (v := ?_) (a' := ?_) #[Y,Z,Y,Z,Z,Z,Z,Z,Z] rfl rfl (take_ofW HT_.out HW_.out (by kernel_rfl)) (fun _ _ _ h => h) (Or.inl ⟨by rfl, ?_⟩) hHeld ?_ ?_
         rotate_left
         ·rintro w' ⟨s0, s1, s2, s3, s4⟩;go_simp;with_reducible rfl
         rotate_left
         ·simp only [Act.put, q1_, q2_, q3_, i64_w, i32_w];rfl
         refine one_ (i := 1) (N := some 29) #[Y,Y,Y,Z,Z,Z,Z,Z,Z] rfl rfl (one_of HT_.out (by kernel_rfl)) (by decide) (fun K hK => ?_)
         refine goes_ Tryz.func7 (by kernel_rfl) rfl #[.agg #[.int .i64 a0_0, .slice A0_1 l0_1.length c0_1]] (by rfl) rfl rfl (by (try simp only [List.map_toArray, List.map_cons, List.map_nil]); first | done | rfl | (simp only [List.length_drop, List.length_take]; rfl)) ?_
         with_reducible refine (modillionlaw09_Own.calls a0_0 _ _ l0_1 t329 t330 _ ?z1 ?z2 A20.out).mono ?_
         (case z1 => exact kC HR0_1.out HB.out)
         (case z2 => exact HC0_1.out)
         rintro e w35 ⟨v331, rfl, ho0, hb⟩
         refine ⟨_, rfl, ?_⟩
         have HO332 := lS ho0 HB
         replace BK325 := aS BK325 hb
         replace BK326 := aS BK326 hb
         replace HB := bS HB hb
         clear hb ho0
         obtain ⟨Ao36, co36, eo36⟩ := Kd.R_slice HO332.out
         (first | subst eo36 | (injection eo36 with f1_ f2_ f3_; have f4_ := f1_.symm; have f5_ := f3_.symm; clear f1_ f2_ f3_; subst f4_; subst f5_))
         refine hK.out _ _ ⟨(blk_cell BK325.out 0).trans rfl, (blk_cell BK325.out 1).trans rfl, (blk_cell BK326.out 0).trans rfl, (blk_cell BK326.out 1).trans rfl, (blk_cell BK326.out 2).trans rfl⟩ (fun hHeld => ?_)
         clear hK K
         refine norm_ (a' := ?_) ?_ ?_
         rotate_left
         ·show Act.put _ (some 29) _ = _
          simp only [Act.put, q1_, q2_, q3_, i64_w, i32_w]
          rfl
         refine one_ (i := 3) (N := some 31) #[Y,Y,Y,Y,Z,Z,Z,Z,Z] rfl rfl (one_of HT_.out (by kernel_rfl)) (by decide) (fun K hK => ?_)
         refine goes_ Tryz.func16 (by kernel_rfl) rfl #[.agg #[.int .i64 t329, .slice Ao36 t330.length co36], .agg #[.string a1_0, .int .i64 a1_1, .int .i64 a1_2]] (by rfl) rfl rfl (by (try simp only [List.map_toArray, List.map_cons, List.map_nil]); first | done | rfl | (simp only [List.length_drop, List.length_take]; rfl)) ?_
         with_reducible refine (seq_Start.calls kj2 t329 _ _ t330 a1_0 a1_1 a1_2 t333 t336 _ ?z1 ?z2 A21.out).mono ?_
         (case z1 => exact kD (Kd.R_reads' HO332.out).2.2)
         (case z2 => exact (Kd.R_reads' HO332.out).2.1)
         rintro e w37 ⟨v334, rfl, ho0, hb⟩
         refine ⟨_, rfl, ?_⟩
         have HO335 := lS ho0 HB
         replace HO332 := rS HO332 hb
         replace BK325 := aS BK325 hb
         replace BK326 := aS BK326 hb
         replace HB := bS HB hb
         clear hb ho0
         refine hK.out _ _ ⟨(blk_cell BK325.out 0).trans rfl, (blk_cell BK325.out 1).trans rfl, (blk_cell BK326.out 0).trans rfl, (blk_cell BK326.out 1).trans rfl, (blk_cell BK326.out 2).trans rfl⟩ (fun hHeld => ?_)
         clear hK K
         refine norm_ (a' := ?_) ?_ ?_
         rotate_left
         ·show Act.put _ (some 31) _ = _
          simp only [Act.put, q1_, q2_, q3_, i64_w, i32_w]
          rfl
         refine pure_ (i := 4) (N := some 27) (v := ?_) (a' := ?_) #[Y,Y,Y,Y,Y,Z,Z,Z,Z] rfl rfl (any_of HT_.out (by kernel_rfl)) (fun _ _ _ h => h) (Or.inl ⟨by rfl, ?_⟩) ?_ ?_
         rotate_left
         ·intro w';go_simp;with_reducible rfl
         rotate_left
         ·simp only [Act.put, q1_, q2_, q3_, i64_w, i32_w];rfl
         refine pure_ (i := 5) (N := some 32) (v := ?_) (a' := ?_) #[Y,Y,Y,Y,Y,Y,Z,Z,Z] rfl rfl (any_of HT_.out (by kernel_rfl)) (fun _ _ _ h => h) (Or.inl ⟨by rfl, ?_⟩) ?_ ?_
         rotate_left
         ·intro w';go_simp;with_reducible rfl
         rotate_left
         ·simp only [Act.put, q1_, q2_, q3_, i64_w, i32_w];rfl
         refine pure_ (i := 6) (N := some 33) (v := ?_) (a' := ?_) #[Y,Y,Y,Y,Y,Y,Y,Z,Z] rfl rfl (any_of HT_.out (by kernel_rfl)) (fun _ _ _ h => h) (Or.inl ⟨by rfl, ?_⟩) ?_ ?_
         rotate_left
         ·intro w';go_simp;with_reducible rfl
         rotate_left
         ·simp only [Act.put, q1_, q2_, q3_, i64_w, i32_w];rfl
         refine pure_ (i := 7) (N := some 5) (v := ?_) (a' := ?_) #[Y,Y,Y,Y,Y,Y,Y,Y,Z] rfl rfl (any_of HT_.out (by kernel_rfl)) (fun _ _ _ h => h) (Or.inl ⟨by rfl, ?_⟩) ?_ ?_
         rotate_left
         ·intro w';go_simp;with_reducible rfl
         rotate_left
         ·simp only [Act.put, q1_, q2_, q3_, i64_w, i32_w];rfl
         refine pure_ (i := 8) (N := some 6) (v := ?_) (a' := ?_) #[Y,Y,Y,Y,Y,Y,Y,Y,Y] rfl rfl (any_of HT_.out (by kernel_rfl)) (fun _ _ _ h => h) (Or.inl ⟨by rfl, ?_⟩) ?_ ?_
         rotate_left
         ·intro w';go_simp;with_reducible rfl
         rotate_left
         ·simp only [Act.put, q1_, q2_, q3_, i64_w, i32_w];rfl
         refine done_ (done_of HT_.out (by kernel_rfl)) ?_
         try go_wp2
         replace HO332 := Aside0.mk (Kd.R_drew HO332.out)
         replace HO335 := Aside0.mk (Kd.R_drew HO335.out)
         replace BK325 := Aside0.mk (blk_drew BK325.out)
         replace BK326 := Aside0.mk (blk_drew BK326.out)
         replace HB := Aside0.mk (below_drew1 HB.out)
         refine start_ (n := 11) (S := fun w' => w'.cell? ⟨gb325, 0, none⟩ = some (.int .i64 a0_0) ∧ w'.cell? ⟨gb325, 1, none⟩ = some (.slice A0_1 l0_1.length c0_1) ∧ w'.cell? ⟨gb326, 0, none⟩ = some (.string a1_0) ∧ w'.cell? ⟨gb326, 1, none⟩ = some (.int .i64 a1_1) ∧ w'.cell? ⟨gb326, 2, none⟩ = some (.int .i64 a1_2)) (ds := []) #[Z,Z,Z,Z,Z,Z,Z,Z,Z,Z,Z] (by kernel_rfl) rfl rfl ⟨(blk_cell BK325.out 0).trans rfl, (blk_cell BK325.out 1).trans rfl, (blk_cell BK326.out 0).trans rfl, (blk_cell BK326.out 1).trans rfl, (blk_cell BK326.out 2).trans rfl⟩ (fun hHeld => ?_); refine with_tabW modillionlaw09_SeqRuns.tab4 modillionlaw09_SeqRuns.bits4 (fun HT_ HW_ => ?_)
         generalize w37.drew = w38 at HO332 HO335 BK325 BK326 HB hHeld ⊢
         refine take_ (i := 0) (N := some 35) (v := ?_) (a' := ?_) #[Y,Z,Z,Z,Z,Z,Z,Z,Z,Z,Z] rfl rfl (take_ofW HT_.out HW_.out (by kernel_rfl)) (fun _ _ _ h => h) (Or.inl ⟨by rfl, ?_⟩) hHeld ?_ ?_
         rotate_left
         ·rintro w' ⟨s0, s1, s2, s3, s4⟩;go_simp;with_reducible rfl
         rotate_left
         ·simp only [Act.put, q1_, q2_, q3_, i64_w, i32_w];rfl
         refine take_ (i := 2) (N := some 37) (v := ?_) (a' := ?_) #[Y,Z,Y,Z,Z,Z,Z,Z,Z,Z,Z] rfl rfl (take_ofW HT_.out HW_.out (by kernel_rfl)) (fun _ _ _ h => h) (Or.inl ⟨by rfl, ?_⟩) hHeld ?_ ?_
         rotate_left
         ·rintro w' ⟨s0, s1, s2, s3, s4⟩;go_simp;with_reducible rfl
         rotate_left
         ·simp only [Act.put, q1_, q2_, q3_, i64_w, i32_w];rfl
         refine one_ (i := 1) (N := some 36) #[Y,Y,Y,Z,Z,Z,Z,Z,Z,Z,Z] rfl rfl (one_of HT_.out (by kernel_rfl)) (by decide) (fun K hK => ?_)
         refine goes_ Tryz.func7 (by kernel_rfl) rfl #[.agg #[.int .i64 a0_0, .slice A0_1 l0_1.length c0_1]] (by rfl) rfl rfl (by (try simp only [List.map_toArray, List.map_cons, List.map_nil]); first | done | rfl | (simp only [List.length_drop, List.length_take]; rfl)) ?_
         with_reducible refine (modillionlaw09_Own.calls a0_0 _ _ l0_1 t337 t338 _ ?z1 ?z2 A22.out).mono ?_
         (case z1 => exact kC HR0_1.out HB.out)
         (case z2 => exact HC0_1.out)
         rintro e w39 ⟨v339, rfl, ho0, hb⟩
         refine ⟨_, rfl, ?_⟩
         have HO340 := Aside0.mk (Kd.R_lower (Kd.R_new' ho0 (Kd.R_lt (kR HO332.out))) (below_size (kB HB.out)))
         replace HO332 := Aside0.mk (Kd.R_elder' (kR HO332.out) (Kd.R_base ho0) hb)
         replace HO335 := rS HO335 hb
         replace BK325 := aS BK325 hb
         replace BK326 := aS BK326 hb
         replace HB := bS HB hb
         clear hb ho0
         obtain ⟨Ao40, co40, eo40⟩ := Kd.R_slice HO340.out
         (first | subst eo40 | (injection eo40 with f1_ f2_ f3_; have f4_ := f1_.symm; have f5_ := f3_.symm; clear f1_ f2_ f3_; subst f4_; subst f5_))
         refine hK.out _ _ ⟨(blk_cell BK325.out 0).trans rfl, (blk_cell BK325.out 1).trans rfl, (blk_cell BK326.out 0).trans rfl, (blk_cell BK326.out 1).trans rfl, (blk_cell BK326.out 2).trans rfl⟩ (fun hHeld => ?_)
         clear hK K
         refine norm_ (a' := ?_) ?_ ?_
         rotate_left
         ·show Act.put _ (some 36) _ = _
          simp only [Act.put, q1_, q2_, q3_, i64_w, i32_w]
          rfl
         refine one_ (i := 3) (N := some 38) #[Y,Y,Y,Y,Z,Z,Z,Z,Z,Z,Z] rfl rfl (one_of HT_.out (by kernel_rfl)) (by decide) (fun K hK => ?_)
         refine goes_ Tryz.func17 (by kernel_rfl) rfl #[.agg #[.int .i64 t337, .slice Ao40 t338.length co40], .agg #[.string a1_0, .int .i64 a1_1, .int .i64 a1_2]] (by rfl) rfl rfl (by (try simp only [List.map_toArray, List.map_cons, List.map_nil]); first | done | rfl | (simp only [List.length_drop, List.length_take]; rfl)) ?_
         with_reducible refine (seq_Run.calls kj2 t337 _ _ t338 a1_0 a1_1 a1_2 t341 t344 t345 _ ?z1 ?z2 A23.out).mono ?_
         (case z1 => exact kD (Kd.R_reads' HO340.out).2.2)
         (case z2 => exact (Kd.R_reads' HO340.out).2.1)
         rintro e w41 ⟨v342, rfl, ho0, hb⟩
         refine ⟨_, rfl, ?_⟩
         have HO343 := lS ho0 HB
         replace HO332 := rS HO332 hb
         replace HO335 := rS HO335 hb
         replace HO340 := rS HO340 hb
         replace BK325 := aS BK325 hb
         replace BK326 := aS BK326 hb
         replace HB := bS HB hb
         clear hb ho0
         refine hK.out _ _ ⟨(blk_cell BK325.out 0).trans rfl, (blk_cell BK325.out 1).trans rfl, (blk_cell BK326.out 0).trans rfl, (blk_cell BK326.out 1).trans rfl, (blk_cell BK326.out 2).trans rfl⟩ (fun hHeld => ?_)
         clear hK K
         refine norm_ (a' := ?_) ?_ ?_
         rotate_left
         ·show Act.put _ (some 38) _ = _
          simp only [Act.put, q1_, q2_, q3_, i64_w, i32_w]
          rfl
         refine pure_ (i := 4) (N := some 34) (v := ?_) (a' := ?_) #[Y,Y,Y,Y,Y,Z,Z,Z,Z,Z,Z] rfl rfl (any_of HT_.out (by kernel_rfl)) (fun _ _ _ h => h) (Or.inl ⟨by rfl, ?_⟩) ?_ ?_
         rotate_left
         ·intro w';go_simp;with_reducible rfl
         rotate_left
         ·simp only [Act.put, q1_, q2_, q3_, i64_w, i32_w];rfl
         refine pure_ (i := 5) (N := some 39) (v := ?_) (a' := ?_) #[Y,Y,Y,Y,Y,Y,Z,Z,Z,Z,Z] rfl rfl (any_of HT_.out (by kernel_rfl)) (fun _ _ _ h => h) (Or.inl ⟨by rfl, ?_⟩) ?_ ?_
         rotate_left
         ·intro w';go_simp;with_reducible rfl
         rotate_left
         ·simp only [Act.put, q1_, q2_, q3_, i64_w, i32_w];rfl
         refine pure_ (i := 6) (N := some 40) (v := ?_) (a' := ?_) #[Y,Y,Y,Y,Y,Y,Y,Z,Z,Z,Z] rfl rfl (any_of HT_.out (by kernel_rfl)) (fun _ _ _ h => h) (Or.inl ⟨by rfl, ?_⟩) ?_ ?_
         rotate_left
         ·intro w';go_simp;with_reducible rfl
         rotate_left
         ·simp only [Act.put, q1_, q2_, q3_, i64_w, i32_w];rfl
         refine pure_ (i := 7) (N := some 41) (v := ?_) (a' := ?_) #[Y,Y,Y,Y,Y,Y,Y,Y,Z,Z,Z] rfl rfl (any_of HT_.out (by kernel_rfl)) (fun _ _ _ h => h) (Or.inl ⟨by rfl, ?_⟩) ?_ ?_
         rotate_left
         ·intro w';go_simp;with_reducible rfl
         rotate_left
         ·simp only [Act.put, q1_, q2_, q3_, i64_w, i32_w];rfl
         refine pure_ (i := 8) (N := some 7) (v := ?_) (a' := ?_) #[Y,Y,Y,Y,Y,Y,Y,Y,Y,Z,Z] rfl rfl (any_of HT_.out (by kernel_rfl)) (fun _ _ _ h => h) (Or.inl ⟨by rfl, ?_⟩) ?_ ?_
         rotate_left
         ·intro w';go_simp;with_reducible rfl
         rotate_left
         ·simp only [Act.put, q1_, q2_, q3_, i64_w, i32_w];rfl
         refine pure_ (i := 9) (N := some 8) (v := ?_) (a' := ?_) #[Y,Y,Y,Y,Y,Y,Y,Y,Y,Y,Z] rfl rfl (any_of HT_.out (by kernel_rfl)) (fun _ _ _ h => h) (Or.inl ⟨by rfl, ?_⟩) ?_ ?_
         rotate_left
         ·intro w';go_simp;with_reducible rfl
         rotate_left
         ·simp only [Act.put, q1_, q2_, q3_, i64_w, i32_w];rfl
         refine pure_ (i := 10) (N := some 9) (v := ?_) (a' := ?_) #[Y,Y,Y,Y,Y,Y,Y,Y,Y,Y,Y] rfl rfl (any_of HT_.out (by kernel_rfl)) (fun _ _ _ h => h) (Or.inl ⟨by rfl, ?_⟩) ?_ ?_
         rotate_left
         ·intro w';go_simp;with_reducible rfl
         rotate_left
         ·simp only [Act.put, q1_, q2_, q3_, i64_w, i32_w];rfl
         refine done_ (done_of HT_.out (by kernel_rfl)) ?_
         have := NB325_326.out
         have := NB326_325.out
         obtain ⟨_, _, _, _⟩ := q2z w41 BK325.out
         obtain ⟨_, _, _, _, _, _⟩ := q3z w41 BK326.out
         try go_wp2_with (first | ((with_reducible refine gate_callee (f := 18) rfl ?_); refine gL_ (some 45) Tryz.func18 #[.agg #[.int .i64 a0_0, .slice A0_1 l0_1.length c0_1], .agg #[.string a1_0, .int .i64 a1_1, .int .i64 a1_2]] ?_; (with_reducible refine (modillionref09_Run.calls kj2 a0_0 _ _ l0_1 a1_0 a1_1 a1_2 t346 t349 t350 _ ?z1 ?z2 A24.out).mono ?_); (case z1 => exact kC HR0_1.out HB.out); (case z2 => exact HC0_1.out); rintro e w45 ⟨v347, rfl, ho0, hb⟩; refine ⟨_, rfl, ?_⟩; have HO348 := Aside0.mk (Kd.R_lower (Kd.R_new' ho0 (Kd.R_lt (kR HO343.out))) (below_size (kB HB.out))); replace HO332 := rS HO332 hb; replace HO335 := rS HO335 hb; replace HO340 := rS HO340 hb; replace HO343 := Aside0.mk (Kd.R_elder' (kR HO343.out) (Kd.R_base ho0) hb); replace BK325 := aS BK325 hb; replace BK326 := aS BK326 hb; replace HB := bS HB hb; clear hb ho0; obtain ⟨_, _, _, _⟩ := q2z w45 BK325.out; obtain ⟨_, _, _, _, _, _⟩ := q3z w45 BK326.out) | ((with_reducible refine gate_callee (f := 19) rfl ?_); refine gL_ (some 51) Tryz.func19 #[.agg #[.int .i64 a0_0, .slice A0_1 l0_1.length c0_1], .agg #[.string a1_0, .int .i64 a1_1, .int .i64 a1_2]] ?_; (with_reducible refine (modillionref07_Right.calls kj2 a0_0 _ _ l0_1 a1_0 a1_1 a1_2 true _ ?z1 ?z2 A25.out).mono ?_); (case z1 => exact kC HR0_1.out HB.out); (case z2 => exact HC0_1.out); rintro e w48 ⟨rfl, hb⟩; refine ⟨_, rfl, ?_⟩; replace HO332 := rS HO332 hb; replace HO335 := rS HO335 hb; replace HO340 := rS HO340 hb; replace HO343 := rS HO343 hb; replace HO348 := rS HO348 hb; replace BK325 := aS BK325 hb; replace BK326 := aS BK326 hb; replace HB := bS HB hb; clear hb; obtain ⟨_, _, _, _⟩ := q2z w48 BK325.out; obtain ⟨_, _, _, _, _, _⟩ := q3z w48 BK326.out) | (go_at_call 20; (with_reducible refine (modillionref09_Start.calls kj2 a0_0 _ _ l0_1 a1_0 a1_1 a1_2 t352 _ ?z1 ?z2 A28.out).mono ?_); (case z1 => exact kC HR0_1.out HB.out); (case z2 => exact HC0_1.out); rintro e w51 ⟨v353, rfl, ho0, hb⟩; have HO354 := Aside0.mk (Kd.R_lower (Kd.R_new' ho0 (Kd.R_lt (kR HO335.out))) (below_size (kB HB.out))); replace HO332 := rS HO332 hb; replace HO335 := Aside0.mk (Kd.R_elder' (kR HO335.out) (Kd.R_base ho0) hb); replace HO340 := rS HO340 hb; replace HO343 := rS HO343 hb; replace HO348 := rS HO348 hb; replace BK325 := aS BK325 hb; replace BK326 := aS BK326 hb; replace HB := bS HB hb; clear hb ho0; obtain ⟨Ao52, co52, eo52⟩ := Kd.R_slice HO335.out; subst eo52; obtain ⟨Ao53, co53, eo53⟩ := Kd.R_slice HO354.out; subst eo53) | (go_at_call 9; (with_reducible refine (modillionref09_Same.calls kj2 _ _ t333 _ _ t352 true _ ?z1 ?z2 ?z3 ?z4 A29.out).mono ?_); (case z1 => exact kD (Kd.R_reads' HO335.out).2.2); (case z2 => exact (Kd.R_reads' HO335.out).2.1); (case z3 => exact kD (Kd.R_reads' HO354.out).2.2); (case z4 => exact (Kd.R_reads' HO354.out).2.1); rintro e w' ⟨rfl, ⟨nd, rfl⟩⟩; obtain ⟨Ao54, co54, eo54⟩ := Kd.R_slice HO343.out; subst eo54; obtain ⟨Ao55, co55, eo55⟩ := Kd.R_slice HO348.out; subst eo55) | (go_at_call 13; (with_reducible refine (modillionref09_Row.calls kj2 _ _ t341 _ _ t346 true _ ?z1 ?z2 ?z3 ?z4 A31.out).mono ?_); (case z1 => exact kD (Kd.R_reads' HO343.out).2.2); (case z2 => exact (Kd.R_reads' HO343.out).2.1); (case z3 => exact kD (Kd.R_reads' HO348.out).2.2); (case z4 => exact (Kd.R_reads' HO348.out).2.1); rintro e w' ⟨rfl, ⟨nd, rfl⟩⟩))
         go_ret
         exact ⟨by first | rfl | (simp [errW_none, errW_some] <;> rfl) | (simp [*, errW_none, errW_some] <;> rfl), by exact kB HB.out⟩
        ·rw [if_neg c33] at H; cases H
       ·rw [if_neg c32] at H; cases H
      ·rw [if_neg c30] at H; cases H
     ·rw [if_neg c27] at H; cases H
    ·replace c26 := Bool.eq_false_iff.mpr c26
     subst c26
     have H1 : (if (t333.length : Int) = 0 then (if t336 = 70 then (if (t341.length : Int) = 0 then (if t344 = 0 then (some (t345 == 70)) else (none)) else (none)) else (none)) else (none)) = some r := by rw [if_neg (show ¬ (false = true) by decide)] at H; exact H
     clear H
     have H := H1
     clear H1
     by_cases c135 : (t333.length : Int) = 0
     ·rw [if_pos c135] at H
      have c135b0 : ((t333.length : Int) == 0) = true := beq_iff_eq.mpr c135
      have c135b1 : ((t333.length : Int) != 0) = false := bne_eq_false_iff_eq.mpr c135
      clear c135
      by_cases c136 : t336 = 70
      ·rw [if_pos c136] at H
       have c136b0 : (t336 == 70) = true := beq_iff_eq.mpr c136
       have c136b1 : (t336 != 70) = false := bne_eq_false_iff_eq.mpr c136
       clear c136
       by_cases c137 : (t341.length : Int) = 0
       ·rw [if_pos c137] at H
        have c137b0 : ((t341.length : Int) == 0) = true := beq_iff_eq.mpr c137
        have c137b1 : ((t341.length : Int) != 0) = false := bne_eq_false_iff_eq.mpr c137
        clear c137
        by_cases c138 : t344 = 0
        ·rw [if_pos c138] at H
         have c138b0 : (t344 == 0) = true := beq_iff_eq.mpr c138
         have c138b1 : (t344 != 0) = false := bne_eq_false_iff_eq.mpr c138
         clear c138
         obtain rfl := Option.some.inj H
         try go_wp2
         replace BK325 := Aside0.mk (blk_drew BK325.out)
         replace BK326 := Aside0.mk (blk_drew BK326.out)
         replace HB := Aside0.mk (below_drew1 HB.out)
         refine start_ (n := 9) (S := fun w' => w'.cell? ⟨gb325, 0, none⟩ = some (.int .i64 a0_0) ∧ w'.cell? ⟨gb325, 1, none⟩ = some (.slice A0_1 l0_1.length c0_1) ∧ w'.cell? ⟨gb326, 0, none⟩ = some (.string a1_0) ∧ w'.cell? ⟨gb326, 1, none⟩ = some (.int .i64 a1_1) ∧ w'.cell? ⟨gb326, 2, none⟩ = some (.int .i64 a1_2)) (ds := []) #[Z,Z,Z,Z,Z,Z,Z,Z,Z] (by kernel_rfl) rfl rfl ⟨(blk_cell BK325.out 0).trans rfl, (blk_cell BK325.out 1).trans rfl, (blk_cell BK326.out 0).trans rfl, (blk_cell BK326.out 1).trans rfl, (blk_cell BK326.out 2).trans rfl⟩ (fun hHeld => ?_); refine with_tabW modillionlaw09_SeqRuns.tab3 modillionlaw09_SeqRuns.bits3 (fun HT_ HW_ => ?_)
         generalize wc.drew = w139 at BK325 BK326 HB hHeld ⊢
         refine take_ (i := 0) (N := some 28) (v := ?_) (a' := ?_) #[Y,Z,Z,Z,Z,Z,Z,Z,Z] rfl rfl (take_ofW HT_.out HW_.out (by kernel_rfl)) (fun _ _ _ h => h) (Or.inl ⟨by rfl, ?_⟩) hHeld ?_ ?_
         rotate_left
         ·rintro w' ⟨s0, s1, s2, s3, s4⟩;go_simp;with_reducible rfl
         rotate_left
         ·simp only [Act.put, q1_, q2_, q3_, i64_w, i32_w];rfl
         refine take_ (i := 2) (N := some 30) (v := ?_) (a' := ?_) #[Y,Z,Y,Z,Z,Z,Z,Z,Z] rfl rfl (take_ofW HT_.out HW_.out (by kernel_rfl)) (fun _ _ _ h => h) (Or.inl ⟨by rfl, ?_⟩) hHeld ?_ ?_
         rotate_left
         ·rintro w' ⟨s0, s1, s2, s3, s4⟩;go_simp;with_reducible rfl
         rotate_left
         ·simp only [Act.put, q1_, q2_, q3_, i64_w, i32_w];rfl
         refine one_ (i := 1) (N := some 29) #[Y,Y,Y,Z,Z,Z,Z,Z,Z] rfl rfl (one_of HT_.out (by kernel_rfl)) (by decide) (fun K hK => ?_)
         refine goes_ Tryz.func7 (by kernel_rfl) rfl #[.agg #[.int .i64 a0_0, .slice A0_1 l0_1.length c0_1]] (by rfl) rfl rfl (by (try simp only [List.map_toArray, List.map_cons, List.map_nil]); first | done | rfl | (simp only [List.length_drop, List.length_take]; rfl)) ?_
         with_reducible refine (modillionlaw09_Own.calls a0_0 _ _ l0_1 t329 t330 _ ?z1 ?z2 A20.out).mono ?_
         (case z1 => exact kC HR0_1.out HB.out)
         (case z2 => exact HC0_1.out)
         rintro e w140 ⟨v331, rfl, ho0, hb⟩
         refine ⟨_, rfl, ?_⟩
         have HO332 := lS ho0 HB
         replace BK325 := aS BK325 hb
         replace BK326 := aS BK326 hb
         replace HB := bS HB hb
         clear hb ho0
         obtain ⟨Ao141, co141, eo141⟩ := Kd.R_slice HO332.out
         (first | subst eo141 | (injection eo141 with f1_ f2_ f3_; have f4_ := f1_.symm; have f5_ := f3_.symm; clear f1_ f2_ f3_; subst f4_; subst f5_))
         refine hK.out _ _ ⟨(blk_cell BK325.out 0).trans rfl, (blk_cell BK325.out 1).trans rfl, (blk_cell BK326.out 0).trans rfl, (blk_cell BK326.out 1).trans rfl, (blk_cell BK326.out 2).trans rfl⟩ (fun hHeld => ?_)
         clear hK K
         refine norm_ (a' := ?_) ?_ ?_
         rotate_left
         ·show Act.put _ (some 29) _ = _
          simp only [Act.put, q1_, q2_, q3_, i64_w, i32_w]
          rfl
         refine one_ (i := 3) (N := some 31) #[Y,Y,Y,Y,Z,Z,Z,Z,Z] rfl rfl (one_of HT_.out (by kernel_rfl)) (by decide) (fun K hK => ?_)
         refine goes_ Tryz.func16 (by kernel_rfl) rfl #[.agg #[.int .i64 t329, .slice Ao141 t330.length co141], .agg #[.string a1_0, .int .i64 a1_1, .int .i64 a1_2]] (by rfl) rfl rfl (by (try simp only [List.map_toArray, List.map_cons, List.map_nil]); first | done | rfl | (simp only [List.length_drop, List.length_take]; rfl)) ?_
         with_reducible refine (seq_Start.calls kj2 t329 _ _ t330 a1_0 a1_1 a1_2 t333 t336 _ ?z1 ?z2 A21.out).mono ?_
         (case z1 => exact kD (Kd.R_reads' HO332.out).2.2)
         (case z2 => exact (Kd.R_reads' HO332.out).2.1)
         rintro e w142 ⟨v334, rfl, ho0, hb⟩
         refine ⟨_, rfl, ?_⟩
         have HO335 := lS ho0 HB
         replace HO332 := rS HO332 hb
         replace BK325 := aS BK325 hb
         replace BK326 := aS BK326 hb
         replace HB := bS HB hb
         clear hb ho0
         refine hK.out _ _ ⟨(blk_cell BK325.out 0).trans rfl, (blk_cell BK325.out 1).trans rfl, (blk_cell BK326.out 0).trans rfl, (blk_cell BK326.out 1).trans rfl, (blk_cell BK326.out 2).trans rfl⟩ (fun hHeld => ?_)
         clear hK K
         refine norm_ (a' := ?_) ?_ ?_
         rotate_left
         ·show Act.put _ (some 31) _ = _
          simp only [Act.put, q1_, q2_, q3_, i64_w, i32_w]
          rfl
         refine pure_ (i := 4) (N := some 27) (v := ?_) (a' := ?_) #[Y,Y,Y,Y,Y,Z,Z,Z,Z] rfl rfl (any_of HT_.out (by kernel_rfl)) (fun _ _ _ h => h) (Or.inl ⟨by rfl, ?_⟩) ?_ ?_
         rotate_left
         ·intro w';go_simp;with_reducible rfl
         rotate_left
         ·simp only [Act.put, q1_, q2_, q3_, i64_w, i32_w];rfl
         refine pure_ (i := 5) (N := some 32) (v := ?_) (a' := ?_) #[Y,Y,Y,Y,Y,Y,Z,Z,Z] rfl rfl (any_of HT_.out (by kernel_rfl)) (fun _ _ _ h => h) (Or.inl ⟨by rfl, ?_⟩) ?_ ?_
         rotate_left
         ·intro w';go_simp;with_reducible rfl
         rotate_left
         ·simp only [Act.put, q1_, q2_, q3_, i64_w, i32_w];rfl
         refine pure_ (i := 6) (N := some 33) (v := ?_) (a' := ?_) #[Y,Y,Y,Y,Y,Y,Y,Z,Z] rfl rfl (any_of HT_.out (by kernel_rfl)) (fun _ _ _ h => h) (Or.inl ⟨by rfl, ?_⟩) ?_ ?_
         rotate_left
         ·intro w';go_simp;with_reducible rfl
         rotate_left
         ·simp only [Act.put, q1_, q2_, q3_, i64_w, i32_w];rfl
         refine pure_ (i := 7) (N := some 5) (v := ?_) (a' := ?_) #[Y,Y,Y,Y,Y,Y,Y,Y,Z] rfl rfl (any_of HT_.out (by kernel_rfl)) (fun _ _ _ h => h) (Or.inl ⟨by rfl, ?_⟩) ?_ ?_
         rotate_left
         ·intro w';go_simp;with_reducible rfl
         rotate_left
         ·simp only [Act.put, q1_, q2_, q3_, i64_w, i32_w];rfl
         refine pure_ (i := 8) (N := some 6) (v := ?_) (a' := ?_) #[Y,Y,Y,Y,Y,Y,Y,Y,Y] rfl rfl (any_of HT_.out (by kernel_rfl)) (fun _ _ _ h => h) (Or.inl ⟨by rfl, ?_⟩) ?_ ?_
         rotate_left
         ·intro w';go_simp;with_reducible rfl
         rotate_left
         ·simp only [Act.put, q1_, q2_, q3_, i64_w, i32_w];rfl
         refine done_ (done_of HT_.out (by kernel_rfl)) ?_
         try go_wp2
         replace HO332 := Aside0.mk (Kd.R_drew HO332.out)
         replace HO335 := Aside0.mk (Kd.R_drew HO335.out)
         replace BK325 := Aside0.mk (blk_drew BK325.out)
         replace BK326 := Aside0.mk (blk_drew BK326.out)
         replace HB := Aside0.mk (below_drew1 HB.out)
         refine start_ (n := 11) (S := fun w' => w'.cell? ⟨gb325, 0, none⟩ = some (.int .i64 a0_0) ∧ w'.cell? ⟨gb325, 1, none⟩ = some (.slice A0_1 l0_1.length c0_1) ∧ w'.cell? ⟨gb326, 0, none⟩ = some (.string a1_0) ∧ w'.cell? ⟨gb326, 1, none⟩ = some (.int .i64 a1_1) ∧ w'.cell? ⟨gb326, 2, none⟩ = some (.int .i64 a1_2)) (ds := []) #[Z,Z,Z,Z,Z,Z,Z,Z,Z,Z,Z] (by kernel_rfl) rfl rfl ⟨(blk_cell BK325.out 0).trans rfl, (blk_cell BK325.out 1).trans rfl, (blk_cell BK326.out 0).trans rfl, (blk_cell BK326.out 1).trans rfl, (blk_cell BK326.out 2).trans rfl⟩ (fun hHeld => ?_); refine with_tabW modillionlaw09_SeqRuns.tab4 modillionlaw09_SeqRuns.bits4 (fun HT_ HW_ => ?_)
         generalize w142.drew = w143 at HO332 HO335 BK325 BK326 HB hHeld ⊢
         refine take_ (i := 0) (N := some 35) (v := ?_) (a' := ?_) #[Y,Z,Z,Z,Z,Z,Z,Z,Z,Z,Z] rfl rfl (take_ofW HT_.out HW_.out (by kernel_rfl)) (fun _ _ _ h => h) (Or.inl ⟨by rfl, ?_⟩) hHeld ?_ ?_
         rotate_left
         ·rintro w' ⟨s0, s1, s2, s3, s4⟩;go_simp;with_reducible rfl
         rotate_left
         ·simp only [Act.put, q1_, q2_, q3_, i64_w, i32_w];rfl
         refine take_ (i := 2) (N := some 37) (v := ?_) (a' := ?_) #[Y,Z,Y,Z,Z,Z,Z,Z,Z,Z,Z] rfl rfl (take_ofW HT_.out HW_.out (by kernel_rfl)) (fun _ _ _ h => h) (Or.inl ⟨by rfl, ?_⟩) hHeld ?_ ?_
         rotate_left
         ·rintro w' ⟨s0, s1, s2, s3, s4⟩;go_simp;with_reducible rfl
         rotate_left
         ·simp only [Act.put, q1_, q2_, q3_, i64_w, i32_w];rfl
         refine one_ (i := 1) (N := some 36) #[Y,Y,Y,Z,Z,Z,Z,Z,Z,Z,Z] rfl rfl (one_of HT_.out (by kernel_rfl)) (by decide) (fun K hK => ?_)
         refine goes_ Tryz.func7 (by kernel_rfl) rfl #[.agg #[.int .i64 a0_0, .slice A0_1 l0_1.length c0_1]] (by rfl) rfl rfl (by (try simp only [List.map_toArray, List.map_cons, List.map_nil]); first | done | rfl | (simp only [List.length_drop, List.length_take]; rfl)) ?_
         with_reducible refine (modillionlaw09_Own.calls a0_0 _ _ l0_1 t337 t338 _ ?z1 ?z2 A22.out).mono ?_
         (case z1 => exact kC HR0_1.out HB.out)
         (case z2 => exact HC0_1.out)
         rintro e w144 ⟨v339, rfl, ho0, hb⟩
         refine ⟨_, rfl, ?_⟩
         have HO340 := Aside0.mk (Kd.R_lower (Kd.R_new' ho0 (Kd.R_lt (kR HO332.out))) (below_size (kB HB.out)))
         replace HO332 := Aside0.mk (Kd.R_elder' (kR HO332.out) (Kd.R_base ho0) hb)
         replace HO335 := rS HO335 hb
         replace BK325 := aS BK325 hb
         replace BK326 := aS BK326 hb
         replace HB := bS HB hb
         clear hb ho0
         obtain ⟨Ao145, co145, eo145⟩ := Kd.R_slice HO340.out
         (first | subst eo145 | (injection eo145 with f1_ f2_ f3_; have f4_ := f1_.symm; have f5_ := f3_.symm; clear f1_ f2_ f3_; subst f4_; subst f5_))
         refine hK.out _ _ ⟨(blk_cell BK325.out 0).trans rfl, (blk_cell BK325.out 1).trans rfl, (blk_cell BK326.out 0).trans rfl, (blk_cell BK326.out 1).trans rfl, (blk_cell BK326.out 2).trans rfl⟩ (fun hHeld => ?_)
         clear hK K
         refine norm_ (a' := ?_) ?_ ?_
         rotate_left
         ·show Act.put _ (some 36) _ = _
          simp only [Act.put, q1_, q2_, q3_, i64_w, i32_w]
          rfl
         refine one_ (i := 3) (N := some 38) #[Y,Y,Y,Y,Z,Z,Z,Z,Z,Z,Z] rfl rfl (one_of HT_.out (by kernel_rfl)) (by decide) (fun K hK => ?_)
         refine goes_ Tryz.func17 (by kernel_rfl) rfl #[.agg #[.int .i64 t337, .slice Ao145 t338.length co145], .agg #[.string a1_0, .int .i64 a1_1, .int .i64 a1_2]] (by rfl) rfl rfl (by (try simp only [List.map_toArray, List.map_cons, List.map_nil]); first | done | rfl | (simp only [List.length_drop, List.length_take]; rfl)) ?_
         with_reducible refine (seq_Run.calls kj2 t337 _ _ t338 a1_0 a1_1 a1_2 t341 t344 t345 _ ?z1 ?z2 A23.out).mono ?_
         (case z1 => exact kD (Kd.R_reads' HO340.out).2.2)
         (case z2 => exact (Kd.R_reads' HO340.out).2.1)
         rintro e w146 ⟨v342, rfl, ho0, hb⟩
         refine ⟨_, rfl, ?_⟩
         have HO343 := lS ho0 HB
         replace HO332 := rS HO332 hb
         replace HO335 := rS HO335 hb
         replace HO340 := rS HO340 hb
         replace BK325 := aS BK325 hb
         replace BK326 := aS BK326 hb
         replace HB := bS HB hb
         clear hb ho0
         refine hK.out _ _ ⟨(blk_cell BK325.out 0).trans rfl, (blk_cell BK325.out 1).trans rfl, (blk_cell BK326.out 0).trans rfl, (blk_cell BK326.out 1).trans rfl, (blk_cell BK326.out 2).trans rfl⟩ (fun hHeld => ?_)
         clear hK K
         refine norm_ (a' := ?_) ?_ ?_
         rotate_left
         ·show Act.put _ (some 38) _ = _
          simp only [Act.put, q1_, q2_, q3_, i64_w, i32_w]
          rfl
         refine pure_ (i := 4) (N := some 34) (v := ?_) (a' := ?_) #[Y,Y,Y,Y,Y,Z,Z,Z,Z,Z,Z] rfl rfl (any_of HT_.out (by kernel_rfl)) (fun _ _ _ h => h) (Or.inl ⟨by rfl, ?_⟩) ?_ ?_
         rotate_left
         ·intro w';go_simp;with_reducible rfl
         rotate_left
         ·simp only [Act.put, q1_, q2_, q3_, i64_w, i32_w];rfl
         refine pure_ (i := 5) (N := some 39) (v := ?_) (a' := ?_) #[Y,Y,Y,Y,Y,Y,Z,Z,Z,Z,Z] rfl rfl (any_of HT_.out (by kernel_rfl)) (fun _ _ _ h => h) (Or.inl ⟨by rfl, ?_⟩) ?_ ?_
         rotate_left
         ·intro w';go_simp;with_reducible rfl
         rotate_left
         ·simp only [Act.put, q1_, q2_, q3_, i64_w, i32_w];rfl
         refine pure_ (i := 6) (N := some 40) (v := ?_) (a' := ?_) #[Y,Y,Y,Y,Y,Y,Y,Z,Z,Z,Z] rfl rfl (any_of HT_.out (by kernel_rfl)) (fun _ _ _ h => h) (Or.inl ⟨by rfl, ?_⟩) ?_ ?_
         rotate_left
         ·intro w';go_simp;with_reducible rfl
         rotate_left
         ·simp only [Act.put, q1_, q2_, q3_, i64_w, i32_w];rfl
         refine pure_ (i := 7) (N := some 41) (v := ?_) (a' := ?_) #[Y,Y,Y,Y,Y,Y,Y,Y,Z,Z,Z] rfl rfl (any_of HT_.out (by kernel_rfl)) (fun _ _ _ h => h) (Or.inl ⟨by rfl, ?_⟩) ?_ ?_
         rotate_left
         ·intro w';go_simp;with_reducible rfl
         rotate_left
         ·simp only [Act.put, q1_, q2_, q3_, i64_w, i32_w];rfl
         refine pure_ (i := 8) (N := some 7) (v := ?_) (a' := ?_) #[Y,Y,Y,Y,Y,Y,Y,Y,Y,Z,Z] rfl rfl (any_of HT_.out (by kernel_rfl)) (fun _ _ _ h => h) (Or.inl ⟨by rfl, ?_⟩) ?_ ?_
         rotate_left
         ·intro w';go_simp;with_reducible rfl
         rotate_left
         ·simp only [Act.put, q1_, q2_, q3_, i64_w, i32_w];rfl
         refine pure_ (i := 9) (N := some 8) (v := ?_) (a' := ?_) #[Y,Y,Y,Y,Y,Y,Y,Y,Y,Y,Z] rfl rfl (any_of HT_.out (by kernel_rfl)) (fun _ _ _ h => h) (Or.inl ⟨by rfl, ?_⟩) ?_ ?_
         rotate_left
         ·intro w';go_simp;with_reducible rfl
         rotate_left
         ·simp only [Act.put, q1_, q2_, q3_, i64_w, i32_w];rfl
         refine pure_ (i := 10) (N := some 9) (v := ?_) (a' := ?_) #[Y,Y,Y,Y,Y,Y,Y,Y,Y,Y,Y] rfl rfl (any_of HT_.out (by kernel_rfl)) (fun _ _ _ h => h) (Or.inl ⟨by rfl, ?_⟩) ?_ ?_
         rotate_left
         ·intro w';go_simp;with_reducible rfl
         rotate_left
         ·simp only [Act.put, q1_, q2_, q3_, i64_w, i32_w];rfl
         refine done_ (done_of HT_.out (by kernel_rfl)) ?_
         have := NB325_326.out
         have := NB326_325.out
         obtain ⟨_, _, _, _⟩ := q2z w146 BK325.out
         obtain ⟨_, _, _, _, _, _⟩ := q3z w146 BK326.out
         try go_wp2_with (first | ((with_reducible refine gate_callee (f := 18) rfl ?_); refine gL_ (some 45) Tryz.func18 #[.agg #[.int .i64 a0_0, .slice A0_1 l0_1.length c0_1], .agg #[.string a1_0, .int .i64 a1_1, .int .i64 a1_2]] ?_; (with_reducible refine (modillionref09_Run.calls kj2 a0_0 _ _ l0_1 a1_0 a1_1 a1_2 t346 t349 t350 _ ?z1 ?z2 A24.out).mono ?_); (case z1 => exact kC HR0_1.out HB.out); (case z2 => exact HC0_1.out); rintro e w150 ⟨v347, rfl, ho0, hb⟩; refine ⟨_, rfl, ?_⟩; have HO348 := Aside0.mk (Kd.R_lower (Kd.R_new' ho0 (Kd.R_lt (kR HO343.out))) (below_size (kB HB.out))); replace HO332 := rS HO332 hb; replace HO335 := rS HO335 hb; replace HO340 := rS HO340 hb; replace HO343 := Aside0.mk (Kd.R_elder' (kR HO343.out) (Kd.R_base ho0) hb); replace BK325 := aS BK325 hb; replace BK326 := aS BK326 hb; replace HB := bS HB hb; clear hb ho0; obtain ⟨_, _, _, _⟩ := q2z w150 BK325.out; obtain ⟨_, _, _, _, _, _⟩ := q3z w150 BK326.out) | ((with_reducible refine gate_callee (f := 19) rfl ?_); refine gL_ (some 51) Tryz.func19 #[.agg #[.int .i64 a0_0, .slice A0_1 l0_1.length c0_1], .agg #[.string a1_0, .int .i64 a1_1, .int .i64 a1_2]] ?_; (with_reducible refine (modillionref07_Right.calls kj2 a0_0 _ _ l0_1 a1_0 a1_1 a1_2 false _ ?z1 ?z2 A25.out).mono ?_); (case z1 => exact kC HR0_1.out HB.out); (case z2 => exact HC0_1.out); rintro e w153 ⟨rfl, hb⟩; refine ⟨_, rfl, ?_⟩; replace HO332 := rS HO332 hb; replace HO335 := rS HO335 hb; replace HO340 := rS HO340 hb; replace HO343 := rS HO343 hb; replace HO348 := rS HO348 hb; replace BK325 := aS BK325 hb; replace BK326 := aS BK326 hb; replace HB := bS HB hb; clear hb; obtain ⟨Ao154, co154, eo154⟩ := Kd.R_slice HO335.out; subst eo154; obtain ⟨Ao155, co155, eo155⟩ := Kd.R_slice HO343.out; subst eo155))
         go_ret
         exact ⟨by first | rfl | (simp [errW_none, errW_some] <;> rfl) | (simp [*, errW_none, errW_some] <;> rfl), by exact kB HB.out⟩
        ·rw [if_neg c138] at H; cases H
       ·rw [if_neg c137] at H; cases H
      ·rw [if_neg c136] at H; cases H
     ·rw [if_neg c135] at H; cases H
end Go.Proofs.YtpndhkeoljoapaaGreat.P
