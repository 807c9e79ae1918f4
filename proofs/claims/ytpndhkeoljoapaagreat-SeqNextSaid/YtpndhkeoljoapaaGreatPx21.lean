/- What these Go functions compute, as Lean functions, and that they do. No condition. -/
import Derived.Test.YtpndhkeoljoapaaGreatPx0
import Derived.Test.YtpndhkeoljoapaaGreatPx10
import Derived.Test.YtpndhkeoljoapaaGreatPx11
import Derived.Test.YtpndhkeoljoapaaGreatPx12
import Derived.Test.YtpndhkeoljoapaaGreatPx19
import Derived.Test.YtpndhkeoljoapaaGreatPx20
namespace Go.Proofs.YtpndhkeoljoapaaGreat.P
open Go.RowKit Go.Proofs.YtpndhkeoljoapaaGreatW.PrintWords Go.Proofs.YtpndhkeoljoapaaGreatW.PrintLast Go.Proofs.YtpndhkeoljoapaaGreatW.PrintMore
open List renaming setIfInBounds_toArray → q1_, set_cons_zero → q2_, set_cons_succ → q3_
attribute [local go_sem] max2_int min2_int max_two min_two max_three min_three max_four min_four   -- for this text's walks alone
set_option linter.unusedVariables false
set_option linter.unusedSimpArgs false
set_option linter.unnecessarySimpa false
theorem iteS21 {α : Type} {c : Prop} [Decidable c] {a : Option α} {r : α} (h : (if c then a else none) = some r) : c ∧ a = some r := by
 by_cases hc : c
 ·rw [if_pos hc] at h; exact ⟨hc, h⟩
 ·rw [if_neg hc] at h; cases h

/-! ### modillionlaw09_SeqNext: function 3 -/
def modillionlaw09_SeqNext.j0 : Nat → Int → List (S50) → Bool → Int → List (S48) → ByteArray → Int → Int → Option (Bool)
 | 0, _, _, _, _, _, _, _, _ => none
 | k + 1, x2, x3, x27, x242000, x242001, x243000, x243001, x243002 => if x27 = true then ((modillionlaw09_awake.f k).bind fun t244 => (some t244)) else ((modillionlaw09_Own.f x242000 x242001).bind fun bt245 => ((some (([] : List (S50)) : List (S50))).bind fun y249 => (if y249.length + x3.length < 4398046511104 then ((seq_Next.f bt245.1 bt245.2 x243000 x243001 x243002 x2 (y249 ++ x3)).bind fun bt255 => ((modillionref09_Next.f k x242000 x242001 x243000 x243001 x243002 x2 x3).bind fun bt262 => ((modillionref09_Same.f k bt255.1 bt262.1).bind fun t269 => (if t269 = true then ((modillionref07_Same.f k bt255.2.1 bt262.2.1).bind fun t270 => (if t270 = true then (if bt255.2.2 = bt262.2.2 then ((some (([] : List (S50)) : List (S50))).bind fun y271 => (if y271.length + x3.length < 4398046511104 then ((seq_Quiet.f (y271 ++ x3)).bind fun t277 => ((modillionref09_Quiet.f k x3).bind fun t278 => (if (t277 == t278) = true then ((some (([] : List (S50)) : List (S50))).bind fun y279 => (if y279.length + x3.length < 4398046511104 then ((seq_Values.f k (y279 ++ x3)).bind fun t285 => ((modillionref09_Values.f k x3).bind fun t288 => ((modillionref09_Row.f k t285 t288).bind fun t291 => (some t291)))) else (none))) else (none)))) else (none))) else (none)) else (none))) else (none))))) else (none))))
def modillionlaw09_SeqNext.f (k : Nat) (a0_0 : Int) (l0_1 : List (S48)) (a1_0 : ByteArray) (a1_1 : Int) (a1_2 : Int) (a2 : Int) (l3 : List (S50)) : Option (Bool) := (modillionlaw09_awake.f k).bind fun t243 => (if t243 = true then (if (l0_1.length : Int) > 60 then (modillionlaw09_SeqNext.j0 k a2 l3 true a0_0 l0_1 a1_0 a1_1 a1_2) else (modillionlaw09_SeqNext.j0 k a2 l3 (decide ((l3.length : Int) > 70)) a0_0 l0_1 a1_0 a1_1 a1_2)) else (modillionlaw09_SeqNext.j0 k a2 l3 true a0_0 l0_1 a1_0 a1_1 a1_2))
theorem modillionlaw09_SeqNext.mono_l : ∀ k, (∀ y0 y1 y2 y3 y4 y5 y6 y7, LeO (modillionlaw09_SeqNext.j0 k y0 y1 y2 y3 y4 y5 y6 y7) (modillionlaw09_SeqNext.j0 (k + 1) y0 y1 y2 y3 y4 y5 y6 y7))
 | 0 => fun _ _ _ _ _ _ _ _ r h => by simp [modillionlaw09_SeqNext.j0] at h
 | k + 1 => by
  have ih0 := modillionlaw09_SeqNext.mono_l k
  ·intro y0 y1 y2 y3 y4 y5 y6 y7
   unfold modillionlaw09_SeqNext.j0
   repeat' first
   | (with_reducible exact ih0 _ _ _ _ _ _ _ _)
   | (with_reducible exact modillionlaw09_awake.mono _)
   | (with_reducible exact modillionref07_Same.mono _ _ _)
   | (with_reducible exact modillionref09_Next.mono _ _ _ _ _ _ _ _)
   | (with_reducible exact modillionref09_Quiet.mono _ _)
   | (with_reducible exact modillionref09_Row.mono _ _ _)
   | (with_reducible exact modillionref09_Same.mono _ _ _)
   | (with_reducible exact modillionref09_Values.mono _ _)
   | (with_reducible exact seq_Values.mono _ _)
   | (with_reducible exact LeO.refl _)
   | (with_reducible exact LeO.none _)
   | (with_reducible refine LeO.ite ?_ ?_)
   | (with_reducible refine LeO.bind ?_ (fun _ => ?_))
   | exact ih0 _ _ _ _ _ _ _ _
   | exact modillionlaw09_awake.mono _
   | exact modillionref07_Same.mono _ _ _
   | exact modillionref09_Next.mono _ _ _ _ _ _ _ _
   | exact modillionref09_Quiet.mono _ _
   | exact modillionref09_Row.mono _ _ _
   | exact modillionref09_Same.mono _ _ _
   | exact modillionref09_Values.mono _ _
   | exact seq_Values.mono _ _
   | exact LeO.none _
   | refine LeO.ite ?_ ?_
   | refine LeO.bind ?_ (fun _ => ?_)
theorem modillionlaw09_SeqNext.mono : ∀ a0 a1 a2 a3 a4 a5 a6 k, LeO (modillionlaw09_SeqNext.f k a0 a1 a2 a3 a4 a5 a6) (modillionlaw09_SeqNext.f (k + 1) a0 a1 a2 a3 a4 a5 a6) := by
 intro a0 a1 a2 a3 a4 a5 a6 k
 have ih0 := modillionlaw09_SeqNext.mono_l k
 unfold modillionlaw09_SeqNext.f
 repeat' first
   | (with_reducible exact ih0 _ _ _ _ _ _ _ _)
   | (with_reducible exact modillionlaw09_awake.mono _)
   | (with_reducible exact modillionref07_Same.mono _ _ _)
   | (with_reducible exact modillionref09_Next.mono _ _ _ _ _ _ _ _)
   | (with_reducible exact modillionref09_Quiet.mono _ _)
   | (with_reducible exact modillionref09_Row.mono _ _ _)
   | (with_reducible exact modillionref09_Same.mono _ _ _)
   | (with_reducible exact modillionref09_Values.mono _ _)
   | (with_reducible exact seq_Values.mono _ _)
   | (with_reducible exact LeO.refl _)
   | (with_reducible exact LeO.none _)
   | (with_reducible refine LeO.ite ?_ ?_)
   | (with_reducible refine LeO.bind ?_ (fun _ => ?_))
   | exact ih0 _ _ _ _ _ _ _ _
   | exact modillionlaw09_awake.mono _
   | exact modillionref07_Same.mono _ _ _
   | exact modillionref09_Next.mono _ _ _ _ _ _ _ _
   | exact modillionref09_Quiet.mono _ _
   | exact modillionref09_Row.mono _ _ _
   | exact modillionref09_Same.mono _ _ _
   | exact modillionref09_Values.mono _ _
   | exact seq_Values.mono _ _
   | exact LeO.none _
   | refine LeO.ite ?_ ?_
   | refine LeO.bind ?_ (fun _ => ?_)
def modillionlaw09_SeqNext.T3 : Bool × List (List Nat × List Nat) := (true, [([], []), ([0], [0]), ([], []), ([], []), ([], []), ([], []), ([4, 5, 1], [4, 5]), ([1, 2, 3, 6, 6], [1, 2, 3, 6]), ([7], [7]), ([8], [8]), ([8], [8]), ([8], [8]), ([9, 7, 0, 1, 2, 3, 4, 5, 6, 7, 8, 9], [9]), ([10, 12, 0, 1, 2, 3, 4, 5, 6, 7, 8, 9, 10, 12], [10]), ([11, 13, 0, 1, 2, 3, 4, 5, 6, 7, 8, 9, 10, 11, 12, 13], [11])])
def modillionlaw09_SeqNext.B3 : List Nat := [0, 1, 0, 0, 0, 0, 51, 127, 255, 511, 511, 511, 1023, 6143, 16383]
theorem modillionlaw09_SeqNext.tab3 : rtab .any (opsOf Tryz.f3 3) = modillionlaw09_SeqNext.T3 := by kernel_rfl
theorem modillionlaw09_SeqNext.bits3 : waitsOk modillionlaw09_SeqNext.T3.2 modillionlaw09_SeqNext.B3 = true := by kernel_rfl
set_option maxHeartbeats 8000000 in
set_option maxRecDepth 100000 in
theorem modillionlaw09_SeqNext.calls (k : Nat) (a0_0 : Int) (A0_1 : Option Addr) (c0_1 : Nat) (l0_1 : List (S48)) (a1_0 : ByteArray) (a1_1 : Int) (a1_2 : Int) (a2 : Int) (A3 : Option Addr) (c3 : Nat) (l3 : List (S50)) (r : Bool) (w : World) (hr0_1 : Kd.C k48 w A0_1 l0_1.length l0_1) (hc0_1 : l0_1.length ≤ c0_1) (hr3 : Kd.C k50 w A3 l3.length l3) (hc3 : l3.length ≤ c3) (h : modillionlaw09_SeqNext.f k a0_0 l0_1 a1_0 a1_1 a1_2 a2 l3 = some r) :
  Calls Tryz.prog 3 #[.agg #[.int .i64 a0_0, .slice A0_1 l0_1.length c0_1], .agg #[.string a1_0, .int .i64 a1_1, .int .i64 a1_2], .int .i64 a2, .slice A3 l3.length c3] w fun e w' => e = .returned (.bool r) ∧ Below w.heap.size w w' := by
 have hu24 := Tryz.underlying24
 have hu26 := Tryz.underlying26
 have HR0_1 := Aside0.mk hr0_1
 have HC0_1 := Aside0.mk hc0_1
 clear hr0_1 hc0_1
 have HR3 := Aside0.mk hr3
 have HC3 := Aside0.mk hc3
 clear hr3 hc3
 have HB := Aside0.mk (Below.refl w.heap.size w)
 have H : ((modillionlaw09_awake.f k).bind fun t243 => (if t243 = true then (if (l0_1.length : Int) > 60 then (modillionlaw09_SeqNext.j0 k a2 l3 true a0_0 l0_1 a1_0 a1_1 a1_2) else (modillionlaw09_SeqNext.j0 k a2 l3 (decide ((l3.length : Int) > 70)) a0_0 l0_1 a1_0 a1_1 a1_2)) else (modillionlaw09_SeqNext.j0 k a2 l3 true a0_0 l0_1 a1_0 a1_1 a1_2))) = some r := h
 clear h
 have HC5 := Aside0.mk H
 clear H
 go_enter Tryz.func3, Tryz.ntmps3
 go_upto_region 1 with (first | ((with_reducible refine gate_dst (N := 4) rfl ?_); (try (refine gate_guard (by rfl) ?_; dsimp only)); refine bE_ #[.int .i64 a0_0, .slice A0_1 l0_1.length c0_1] 24 ?_; intro gb241 hg w6 hbox hb; have BK241 := Aside0.mk hbox; have GW241 := gS hg HB; have GE241 := gS hg HB; replace HB := bS HB hb; clear hb hbox hg) | ((with_reducible refine gate_dst (N := 5) rfl ?_); (try (refine gate_guard (by rfl) ?_; dsimp only)); refine bE_ #[.string a1_0, .int .i64 a1_1, .int .i64 a1_2] 26 ?_; intro gb242 hg w7 hbox hb; have BK242 := Aside0.mk hbox; have GW242 := gS hg HB; have GE242 := gS hg HB; have NB241_242 := nL hg BK241; have NB242_241 := nG hg BK241; replace BK241 := aS BK241 hb; replace HB := bS HB hb; clear hb hbox hg))
 (try simp only [Act.put, q1_, q2_, q3_])
 go_cut [27] (fun v27 wc => ∃ (kq : Nat) (x27_4 : Bool), v27 = .bool x27_4 ∧ Aside0 (modillionlaw09_SeqNext.j0 kq a2 l3 x27_4 a0_0 l0_1 a1_0 a1_1 a1_2 = some r) ∧ Aside0 (kq ≤ k) ∧ Aside0 (wc.heap[gb241]? = some (.cells #[.int .i64 a0_0, (.slice A0_1 l0_1.length c0_1)] 24 (0, 0))) ∧ Aside0 (wc.heap[gb242]? = some (.cells #[.string a1_0, .int .i64 a1_1, .int .i64 a1_2] 26 (0, 0))) ∧ Aside0 (Below w.heap.size w wc))
 case first =>
  have H := HC5.out
  clear HC5
  replace H := Option.bind_eq_some_iff.mp H
  obtain ⟨t243, A80, H⟩ := H
  replace H : (if t243 = true then (if (l0_1.length : Int) > 60 then (modillionlaw09_SeqNext.j0 k a2 l3 true a0_0 l0_1 a1_0 a1_1 a1_2) else (modillionlaw09_SeqNext.j0 k a2 l3 (decide ((l3.length : Int) > 70)) a0_0 l0_1 a1_0 a1_1 a1_2)) else (modillionlaw09_SeqNext.j0 k a2 l3 true a0_0 l0_1 a1_0 a1_1 a1_2)) = some r := H
  have A8 := Aside0.mk A80
  clear A80
  by_cases c9 : t243 = true
  ·subst c9
   have H1 : (if (l0_1.length : Int) > 60 then (modillionlaw09_SeqNext.j0 k a2 l3 true a0_0 l0_1 a1_0 a1_1 a1_2) else (modillionlaw09_SeqNext.j0 k a2 l3 (decide ((l3.length : Int) > 70)) a0_0 l0_1 a1_0 a1_1 a1_2)) = some r := by rw [if_pos rfl] at H; exact H
   clear H
   have H := H1
   clear H1
   by_cases c10 : (l0_1.length : Int) > 60
   ·rw [if_pos c10] at H
    have c10b0 : decide (60 < (l0_1.length : Int)) = true := decide_eq_true c10
    have c10b1 : decide (60 < l0_1.length) = true := decide_eq_true (by omega)
    clear c10
    (first | rw [c10b0] | (simp only [i64_w, i32_w]; rw [c10b0]) | skip)
    have H' := Aside0.mk H
    clear H
    go_wp2_with (first | ((with_reducible refine gate_callee (f := 5) rfl ?_); refine gL_ (some 15) Tryz.func5 #[] ?_; (with_reducible refine (modillionlaw09_awake.calls k  true _ A8.out).mono ?_); rintro e w11 ⟨rfl, hb⟩; refine ⟨_, rfl, ?_⟩; replace BK241 := aS BK241 hb; replace BK242 := aS BK242 hb; replace HB := bS HB hb; clear hb; have := NB241_242.out; have := NB242_241.out; have hcz13_0 : w11.cell? ⟨gb241, 0, none⟩ = some (.int .i64 a0_0) := (blk_cell BK241.out 0).trans rfl; have hcz13_1 : w11.cell? ⟨gb241, 1, none⟩ = some (.slice A0_1 l0_1.length c0_1) := (blk_cell BK241.out 1).trans rfl; have hfz13_0 := blk_frozen BK241.out 0; have hfz13_1 := blk_frozen BK241.out 1))
    go_meet
    case rel => exact ⟨_, (true), (by first | rfl | (simp; done) | (simp [*]; done)), H', ⟨by first | omega | exact Nat.le_refl _⟩, ⟨kA BK241.out⟩, ⟨kA BK242.out⟩, ⟨kB HB.out⟩⟩
   ·rw [if_neg c10] at H
    have c10b0 : decide (60 < (l0_1.length : Int)) = false := decide_eq_false c10
    have c10b1 : decide (60 < l0_1.length) = false := decide_eq_false (by omega)
    clear c10
    (first | rw [c10b0] | (simp only [i64_w, i32_w]; rw [c10b0]) | skip)
    have H' := Aside0.mk H
    clear H
    go_wp2_with (first | ((with_reducible refine gate_callee (f := 5) rfl ?_); refine gL_ (some 15) Tryz.func5 #[] ?_; (with_reducible refine (modillionlaw09_awake.calls k  true _ A8.out).mono ?_); rintro e w14 ⟨rfl, hb⟩; refine ⟨_, rfl, ?_⟩; replace BK241 := aS BK241 hb; replace BK242 := aS BK242 hb; replace HB := bS HB hb; clear hb; have := NB241_242.out; have := NB242_241.out; have hcz16_0 : w14.cell? ⟨gb241, 0, none⟩ = some (.int .i64 a0_0) := (blk_cell BK241.out 0).trans rfl; have hcz16_1 : w14.cell? ⟨gb241, 1, none⟩ = some (.slice A0_1 l0_1.length c0_1) := (blk_cell BK241.out 1).trans rfl; have hfz16_0 := blk_frozen BK241.out 0; have hfz16_1 := blk_frozen BK241.out 1))
    go_meet
    case rel => exact ⟨_, (decide ((l3.length : Int) > 70)), (by first | rfl | (simp; done) | (simp [*]; done)), H', ⟨by first | omega | exact Nat.le_refl _⟩, ⟨kA BK241.out⟩, ⟨kA BK242.out⟩, ⟨kB HB.out⟩⟩
  ·replace c9 := Bool.eq_false_iff.mpr c9
   subst c9
   have H1 : (modillionlaw09_SeqNext.j0 k a2 l3 true a0_0 l0_1 a1_0 a1_1 a1_2) = some r := by rw [if_neg (show ¬ (false = true) by decide)] at H; exact H
   clear H
   have H := H1
   clear H1
   have H' := Aside0.mk H
   clear H
   go_wp2_with (first | ((with_reducible refine gate_callee (f := 5) rfl ?_); refine gL_ (some 15) Tryz.func5 #[] ?_; (with_reducible refine (modillionlaw09_awake.calls k  false _ A8.out).mono ?_); rintro e w17 ⟨rfl, hb⟩; refine ⟨_, rfl, ?_⟩; replace BK241 := aS BK241 hb; replace BK242 := aS BK242 hb; replace HB := bS HB hb; clear hb))
   go_meet
   case rel => exact ⟨_, (true), (by first | rfl | (simp; done) | (simp [*]; done)), H', ⟨by first | omega | exact Nat.le_refl _⟩, ⟨kA BK241.out⟩, ⟨kA BK242.out⟩, ⟨kB HB.out⟩⟩
 case rest =>
  clear HC5
  try clear c1
  try clear p2
  try clear c3
  try clear c5
  try clear c9
  try clear c10
  try clear c10b0
  try clear c10b1
  try clear c12
  try clear c15
  try clear hcz13_0
  try clear hcz13_1
  try clear hcz16_0
  try clear hcz16_1
  try clear hfz13_0
  try clear hfz13_1
  try clear hfz16_0
  try clear hfz16_1
  obtain ⟨kq, x27_4, rfl, HA, HJ4, BK241, BK242, HB⟩ := hcut
  cases kq with
  | zero => exact absurd HA.out (by simp [modillionlaw09_SeqNext.j0])
  | succ kj4 =>
   have H := HA.out
   clear HA
   simp only [modillionlaw09_SeqNext.j0] at H
   by_cases c18 : x27_4 = true
   ·subst c18
    have H1 : ((modillionlaw09_awake.f kj4).bind fun t244 => (some t244)) = some r := by rw [if_pos rfl] at H; exact H
    clear H
    have H := H1
    clear H1
    replace H := Option.bind_eq_some_iff.mp H
    obtain ⟨t244, A190, H⟩ := H
    replace H : (some t244) = some r := H
    have A19 := Aside0.mk A190
    clear A190
    obtain rfl := Option.some.inj H
    go_wp2_with (first | ((with_reducible refine gate_callee (f := 5) rfl ?_); refine gL_ (some 28) Tryz.func5 #[] ?_; (with_reducible refine (modillionlaw09_awake.calls kj4  t244 _ A19.out).mono ?_); rintro e w20 ⟨rfl, hb⟩; refine ⟨_, rfl, ?_⟩; replace BK241 := aS BK241 hb; replace BK242 := aS BK242 hb; replace HB := bS HB hb; clear hb))
    go_ret
    exact ⟨by first | rfl | (simp [errW_none, errW_some] <;> rfl) | (simp [*, errW_none, errW_some] <;> rfl), by exact kB HB.out⟩
   ·replace c18 := Bool.eq_false_iff.mpr c18
    subst c18
    have H1 : ((modillionlaw09_Own.f a0_0 l0_1).bind fun bt245 => ((some (([] : List (S50)) : List (S50))).bind fun y249 => (if y249.length + l3.length < 4398046511104 then ((seq_Next.f bt245.1 bt245.2 a1_0 a1_1 a1_2 a2 (y249 ++ l3)).bind fun bt255 => ((modillionref09_Next.f kj4 a0_0 l0_1 a1_0 a1_1 a1_2 a2 l3).bind fun bt262 => ((modillionref09_Same.f kj4 bt255.1 bt262.1).bind fun t269 => (if t269 = true then ((modillionref07_Same.f kj4 bt255.2.1 bt262.2.1).bind fun t270 => (if t270 = true then (if bt255.2.2 = bt262.2.2 then ((some (([] : List (S50)) : List (S50))).bind fun y271 => (if y271.length + l3.length < 4398046511104 then ((seq_Quiet.f (y271 ++ l3)).bind fun t277 => ((modillionref09_Quiet.f kj4 l3).bind fun t278 => (if (t277 == t278) = true then ((some (([] : List (S50)) : List (S50))).bind fun y279 => (if y279.length + l3.length < 4398046511104 then ((seq_Values.f kj4 (y279 ++ l3)).bind fun t285 => ((modillionref09_Values.f kj4 l3).bind fun t288 => ((modillionref09_Row.f kj4 t285 t288).bind fun t291 => (some t291)))) else (none))) else (none)))) else (none))) else (none)) else (none))) else (none))))) else (none)))) = some r := by rw [if_neg (show ¬ (false = true) by decide)] at H; exact H
    clear H
    have H := H1
    clear H1
    replace H := Option.bind_eq_some_iff.mp H
    obtain ⟨⟨t245, t246⟩, A210, H⟩ := H
    replace H : ((some (([] : List (S50)) : List (S50))).bind fun y249 => (if y249.length + l3.length < 4398046511104 then ((seq_Next.f t245 t246 a1_0 a1_1 a1_2 a2 (y249 ++ l3)).bind fun bt255 => ((modillionref09_Next.f kj4 a0_0 l0_1 a1_0 a1_1 a1_2 a2 l3).bind fun bt262 => ((modillionref09_Same.f kj4 bt255.1 bt262.1).bind fun t269 => (if t269 = true then ((modillionref07_Same.f kj4 bt255.2.1 bt262.2.1).bind fun t270 => (if t270 = true then (if bt255.2.2 = bt262.2.2 then ((some (([] : List (S50)) : List (S50))).bind fun y271 => (if y271.length + l3.length < 4398046511104 then ((seq_Quiet.f (y271 ++ l3)).bind fun t277 => ((modillionref09_Quiet.f kj4 l3).bind fun t278 => (if (t277 == t278) = true then ((some (([] : List (S50)) : List (S50))).bind fun y279 => (if y279.length + l3.length < 4398046511104 then ((seq_Values.f kj4 (y279 ++ l3)).bind fun t285 => ((modillionref09_Values.f kj4 l3).bind fun t288 => ((modillionref09_Row.f kj4 t285 t288).bind fun t291 => (some t291)))) else (none))) else (none)))) else (none))) else (none)) else (none))) else (none))))) else (none))) = some r := H
    have A21 := Aside0.mk A210
    clear A210
    obtain ⟨y249, hy249⟩ : ∃ y_ : List (S50), y_ = (([] : List (S50))) := ⟨_, rfl⟩
    replace H : (if y249.length + l3.length < 4398046511104 then ((seq_Next.f t245 t246 a1_0 a1_1 a1_2 a2 (y249 ++ l3)).bind fun bt255 => ((modillionref09_Next.f kj4 a0_0 l0_1 a1_0 a1_1 a1_2 a2 l3).bind fun bt262 => ((modillionref09_Same.f kj4 bt255.1 bt262.1).bind fun t269 => (if t269 = true then ((modillionref07_Same.f kj4 bt255.2.1 bt262.2.1).bind fun t270 => (if t270 = true then (if bt255.2.2 = bt262.2.2 then ((some (([] : List (S50)) : List (S50))).bind fun y271 => (if y271.length + l3.length < 4398046511104 then ((seq_Quiet.f (y271 ++ l3)).bind fun t277 => ((modillionref09_Quiet.f kj4 l3).bind fun t278 => (if (t277 == t278) = true then ((some (([] : List (S50)) : List (S50))).bind fun y279 => (if y279.length + l3.length < 4398046511104 then ((seq_Values.f kj4 (y279 ++ l3)).bind fun t285 => ((modillionref09_Values.f kj4 l3).bind fun t288 => ((modillionref09_Row.f kj4 t285 t288).bind fun t291 => (some t291)))) else (none))) else (none)))) else (none))) else (none)) else (none))) else (none))))) else (none)) = some r := by first | (rw [hy249]; with_reducible exact H) | (have H2_ := (Option.bind_some _ _).symm.trans H; rw [hy249]; with_reducible exact H2_) | (have H2_ := (Option.bind_some _ _).symm.trans H; with_reducible exact H2_) | with_reducible exact H | (rw [hy249]; exact H) | exact H
    have Ny249 := Aside0.mk hy249
    clear hy249
    obtain ⟨c22, H⟩ := iteS21 H
    have LMc22 := Aside0.mk c22
    clear c22
    obtain ⟨y252, hy252⟩ : ∃ y_ : List (S50), y_ = (y249 ++ l3) := ⟨_, rfl⟩
    replace H : ((seq_Next.f t245 t246 a1_0 a1_1 a1_2 a2 y252).bind fun bt255 => ((modillionref09_Next.f kj4 a0_0 l0_1 a1_0 a1_1 a1_2 a2 l3).bind fun bt262 => ((modillionref09_Same.f kj4 bt255.1 bt262.1).bind fun t269 => (if t269 = true then ((modillionref07_Same.f kj4 bt255.2.1 bt262.2.1).bind fun t270 => (if t270 = true then (if bt255.2.2 = bt262.2.2 then ((some (([] : List (S50)) : List (S50))).bind fun y271 => (if y271.length + l3.length < 4398046511104 then ((seq_Quiet.f (y271 ++ l3)).bind fun t277 => ((modillionref09_Quiet.f kj4 l3).bind fun t278 => (if (t277 == t278) = true then ((some (([] : List (S50)) : List (S50))).bind fun y279 => (if y279.length + l3.length < 4398046511104 then ((seq_Values.f kj4 (y279 ++ l3)).bind fun t285 => ((modillionref09_Values.f kj4 l3).bind fun t288 => ((modillionref09_Row.f kj4 t285 t288).bind fun t291 => (some t291)))) else (none))) else (none)))) else (none))) else (none)) else (none))) else (none))))) = some r := by first | (rw [hy252]; with_reducible exact H) | (have H2_ := (Option.bind_some _ _).symm.trans H; rw [hy252]; with_reducible exact H2_) | (have H2_ := (Option.bind_some _ _).symm.trans H; with_reducible exact H2_) | with_reducible exact H | (rw [hy252]; exact H) | exact H
    have Ny252 := Aside0.mk hy252
    clear hy252
    replace H := Option.bind_eq_some_iff.mp H
    obtain ⟨⟨t255, t258, t261⟩, A230, H⟩ := H
    replace H : ((modillionref09_Next.f kj4 a0_0 l0_1 a1_0 a1_1 a1_2 a2 l3).bind fun bt262 => ((modillionref09_Same.f kj4 t255 bt262.1).bind fun t269 => (if t269 = true then ((modillionref07_Same.f kj4 t258 bt262.2.1).bind fun t270 => (if t270 = true then (if t261 = bt262.2.2 then ((some (([] : List (S50)) : List (S50))).bind fun y271 => (if y271.length + l3.length < 4398046511104 then ((seq_Quiet.f (y271 ++ l3)).bind fun t277 => ((modillionref09_Quiet.f kj4 l3).bind fun t278 => (if (t277 == t278) = true then ((some (([] : List (S50)) : List (S50))).bind fun y279 => (if y279.length + l3.length < 4398046511104 then ((seq_Values.f kj4 (y279 ++ l3)).bind fun t285 => ((modillionref09_Values.f kj4 l3).bind fun t288 => ((modillionref09_Row.f kj4 t285 t288).bind fun t291 => (some t291)))) else (none))) else (none)))) else (none))) else (none)) else (none))) else (none)))) = some r := H
    have A23 := Aside0.mk A230
    clear A230
    replace H := Option.bind_eq_some_iff.mp H
    obtain ⟨⟨t262, t265, t268⟩, A240, H⟩ := H
    replace H : ((modillionref09_Same.f kj4 t255 t262).bind fun t269 => (if t269 = true then ((modillionref07_Same.f kj4 t258 t265).bind fun t270 => (if t270 = true then (if t261 = t268 then ((some (([] : List (S50)) : List (S50))).bind fun y271 => (if y271.length + l3.length < 4398046511104 then ((seq_Quiet.f (y271 ++ l3)).bind fun t277 => ((modillionref09_Quiet.f kj4 l3).bind fun t278 => (if (t277 == t278) = true then ((some (([] : List (S50)) : List (S50))).bind fun y279 => (if y279.length + l3.length < 4398046511104 then ((seq_Values.f kj4 (y279 ++ l3)).bind fun t285 => ((modillionref09_Values.f kj4 l3).bind fun t288 => ((modillionref09_Row.f kj4 t285 t288).bind fun t291 => (some t291)))) else (none))) else (none)))) else (none))) else (none)) else (none))) else (none))) = some r := H
    have A24 := Aside0.mk A240
    clear A240
    replace H := Option.bind_eq_some_iff.mp H
    obtain ⟨t269, A250, H⟩ := H
    replace H : (if t269 = true then ((modillionref07_Same.f kj4 t258 t265).bind fun t270 => (if t270 = true then (if t261 = t268 then ((some (([] : List (S50)) : List (S50))).bind fun y271 => (if y271.length + l3.length < 4398046511104 then ((seq_Quiet.f (y271 ++ l3)).bind fun t277 => ((modillionref09_Quiet.f kj4 l3).bind fun t278 => (if (t277 == t278) = true then ((some (([] : List (S50)) : List (S50))).bind fun y279 => (if y279.length + l3.length < 4398046511104 then ((seq_Values.f kj4 (y279 ++ l3)).bind fun t285 => ((modillionref09_Values.f kj4 l3).bind fun t288 => ((modillionref09_Row.f kj4 t285 t288).bind fun t291 => (some t291)))) else (none))) else (none)))) else (none))) else (none)) else (none))) else (none)) = some r := H
    have A25 := Aside0.mk A250
    clear A250
    by_cases c26 : t269 = true
    ·subst c26
     have H1 : ((modillionref07_Same.f kj4 t258 t265).bind fun t270 => (if t270 = true then (if t261 = t268 then ((some (([] : List (S50)) : List (S50))).bind fun y271 => (if y271.length + l3.length < 4398046511104 then ((seq_Quiet.f (y271 ++ l3)).bind fun t277 => ((modillionref09_Quiet.f kj4 l3).bind fun t278 => (if (t277 == t278) = true then ((some (([] : List (S50)) : List (S50))).bind fun y279 => (if y279.length + l3.length < 4398046511104 then ((seq_Values.f kj4 (y279 ++ l3)).bind fun t285 => ((modillionref09_Values.f kj4 l3).bind fun t288 => ((modillionref09_Row.f kj4 t285 t288).bind fun t291 => (some t291)))) else (none))) else (none)))) else (none))) else (none)) else (none))) = some r := by rw [if_pos rfl] at H; exact H
     clear H
     have H := H1
     clear H1
     replace H := Option.bind_eq_some_iff.mp H
     obtain ⟨t270, A270, H⟩ := H
     replace H : (if t270 = true then (if t261 = t268 then ((some (([] : List (S50)) : List (S50))).bind fun y271 => (if y271.length + l3.length < 4398046511104 then ((seq_Quiet.f (y271 ++ l3)).bind fun t277 => ((modillionref09_Quiet.f kj4 l3).bind fun t278 => (if (t277 == t278) = true then ((some (([] : List (S50)) : List (S50))).bind fun y279 => (if y279.length + l3.length < 4398046511104 then ((seq_Values.f kj4 (y279 ++ l3)).bind fun t285 => ((modillionref09_Values.f kj4 l3).bind fun t288 => ((modillionref09_Row.f kj4 t285 t288).bind fun t291 => (some t291)))) else (none))) else (none)))) else (none))) else (none)) else (none)) = some r := H
     have A27 := Aside0.mk A270
     clear A270
     by_cases c28 : t270 = true
     ·subst c28
      have H1 : (if t261 = t268 then ((some (([] : List (S50)) : List (S50))).bind fun y271 => (if y271.length + l3.length < 4398046511104 then ((seq_Quiet.f (y271 ++ l3)).bind fun t277 => ((modillionref09_Quiet.f kj4 l3).bind fun t278 => (if (t277 == t278) = true then ((some (([] : List (S50)) : List (S50))).bind fun y279 => (if y279.length + l3.length < 4398046511104 then ((seq_Values.f kj4 (y279 ++ l3)).bind fun t285 => ((modillionref09_Values.f kj4 l3).bind fun t288 => ((modillionref09_Row.f kj4 t285 t288).bind fun t291 => (some t291)))) else (none))) else (none)))) else (none))) else (none)) = some r := by rw [if_pos rfl] at H; exact H
      clear H
      have H := H1
      clear H1
      by_cases c29 : t261 = t268
      ·rw [if_pos c29] at H
       have c29b0 : (t261 == t268) = true := beq_iff_eq.mpr c29
       have c29b1 : (t261 != t268) = false := bne_eq_false_iff_eq.mpr c29
       clear c29
       obtain ⟨y271, hy271⟩ : ∃ y_ : List (S50), y_ = (([] : List (S50))) := ⟨_, rfl⟩
       replace H : (if y271.length + l3.length < 4398046511104 then ((seq_Quiet.f (y271 ++ l3)).bind fun t277 => ((modillionref09_Quiet.f kj4 l3).bind fun t278 => (if (t277 == t278) = true then ((some (([] : List (S50)) : List (S50))).bind fun y279 => (if y279.length + l3.length < 4398046511104 then ((seq_Values.f kj4 (y279 ++ l3)).bind fun t285 => ((modillionref09_Values.f kj4 l3).bind fun t288 => ((modillionref09_Row.f kj4 t285 t288).bind fun t291 => (some t291)))) else (none))) else (none)))) else (none)) = some r := by first | (rw [hy271]; with_reducible exact H) | (have H2_ := (Option.bind_some _ _).symm.trans H; rw [hy271]; with_reducible exact H2_) | (have H2_ := (Option.bind_some _ _).symm.trans H; with_reducible exact H2_) | with_reducible exact H | (rw [hy271]; exact H) | exact H
       have Ny271 := Aside0.mk hy271
       clear hy271
       obtain ⟨c30, H⟩ := iteS21 H
       have LMc30 := Aside0.mk c30
       clear c30
       obtain ⟨y274, hy274⟩ : ∃ y_ : List (S50), y_ = (y271 ++ l3) := ⟨_, rfl⟩
       replace H : ((seq_Quiet.f y274).bind fun t277 => ((modillionref09_Quiet.f kj4 l3).bind fun t278 => (if (t277 == t278) = true then ((some (([] : List (S50)) : List (S50))).bind fun y279 => (if y279.length + l3.length < 4398046511104 then ((seq_Values.f kj4 (y279 ++ l3)).bind fun t285 => ((modillionref09_Values.f kj4 l3).bind fun t288 => ((modillionref09_Row.f kj4 t285 t288).bind fun t291 => (some t291)))) else (none))) else (none)))) = some r := by first | (rw [hy274]; with_reducible exact H) | (have H2_ := (Option.bind_some _ _).symm.trans H; rw [hy274]; with_reducible exact H2_) | (have H2_ := (Option.bind_some _ _).symm.trans H; with_reducible exact H2_) | with_reducible exact H | (rw [hy274]; exact H) | exact H
       have Ny274 := Aside0.mk hy274
       clear hy274
       replace H := Option.bind_eq_some_iff.mp H
       obtain ⟨t277, A310, H⟩ := H
       replace H : ((modillionref09_Quiet.f kj4 l3).bind fun t278 => (if (t277 == t278) = true then ((some (([] : List (S50)) : List (S50))).bind fun y279 => (if y279.length + l3.length < 4398046511104 then ((seq_Values.f kj4 (y279 ++ l3)).bind fun t285 => ((modillionref09_Values.f kj4 l3).bind fun t288 => ((modillionref09_Row.f kj4 t285 t288).bind fun t291 => (some t291)))) else (none))) else (none))) = some r := H
       have A31 := Aside0.mk A310
       clear A310
       replace H := Option.bind_eq_some_iff.mp H
       obtain ⟨t278, A320, H⟩ := H
       replace H : (if (t277 == t278) = true then ((some (([] : List (S50)) : List (S50))).bind fun y279 => (if y279.length + l3.length < 4398046511104 then ((seq_Values.f kj4 (y279 ++ l3)).bind fun t285 => ((modillionref09_Values.f kj4 l3).bind fun t288 => ((modillionref09_Row.f kj4 t285 t288).bind fun t291 => (some t291)))) else (none))) else (none)) = some r := H
       have A32 := Aside0.mk A320
       clear A320
       by_cases c33 : (t277 == t278) = true
       ·rw [if_pos c33] at H
        have c33b0 : (t277 == t278) = true := c33
        (try (have c33b1 : decide (t277 = t278) = true := by simpa using c33))
        (try (have c33b2 : (t277 == t278) = true := by simpa using c33))
        clear c33
        obtain ⟨y279, hy279⟩ : ∃ y_ : List (S50), y_ = (([] : List (S50))) := ⟨_, rfl⟩
        replace H : (if y279.length + l3.length < 4398046511104 then ((seq_Values.f kj4 (y279 ++ l3)).bind fun t285 => ((modillionref09_Values.f kj4 l3).bind fun t288 => ((modillionref09_Row.f kj4 t285 t288).bind fun t291 => (some t291)))) else (none)) = some r := by first | (rw [hy279]; with_reducible exact H) | (have H2_ := (Option.bind_some _ _).symm.trans H; rw [hy279]; with_reducible exact H2_) | (have H2_ := (Option.bind_some _ _).symm.trans H; with_reducible exact H2_) | with_reducible exact H | (rw [hy279]; exact H) | exact H
        have Ny279 := Aside0.mk hy279
        clear hy279
        obtain ⟨c34, H⟩ := iteS21 H
        have LMc34 := Aside0.mk c34
        clear c34
        obtain ⟨y282, hy282⟩ : ∃ y_ : List (S50), y_ = (y279 ++ l3) := ⟨_, rfl⟩
        replace H : ((seq_Values.f kj4 y282).bind fun t285 => ((modillionref09_Values.f kj4 l3).bind fun t288 => ((modillionref09_Row.f kj4 t285 t288).bind fun t291 => (some t291)))) = some r := by first | (rw [hy282]; with_reducible exact H) | (have H2_ := (Option.bind_some _ _).symm.trans H; rw [hy282]; with_reducible exact H2_) | (have H2_ := (Option.bind_some _ _).symm.trans H; with_reducible exact H2_) | with_reducible exact H | (rw [hy282]; exact H) | exact H
        have Ny282 := Aside0.mk hy282
        clear hy282
        replace H := Option.bind_eq_some_iff.mp H
        obtain ⟨t285, A350, H⟩ := H
        replace H : ((modillionref09_Values.f kj4 l3).bind fun t288 => ((modillionref09_Row.f kj4 t285 t288).bind fun t291 => (some t291))) = some r := H
        have A35 := Aside0.mk A350
        clear A350
        replace H := Option.bind_eq_some_iff.mp H
        obtain ⟨t288, A360, H⟩ := H
        replace H : ((modillionref09_Row.f kj4 t285 t288).bind fun t291 => (some t291)) = some r := H
        have A36 := Aside0.mk A360
        clear A360
        replace H := Option.bind_eq_some_iff.mp H
        obtain ⟨t291, A370, H⟩ := H
        replace H : (some t291) = some r := H
        have A37 := Aside0.mk A370
        clear A370
        obtain rfl := Option.some.inj H
        try go_wp2
        replace BK241 := Aside0.mk (blk_drew BK241.out)
        replace BK242 := Aside0.mk (blk_drew BK242.out)
        replace HB := Aside0.mk (below_drew1 HB.out)
        refine start_ (n := 15) (S := fun w' => w'.cell? ⟨gb241, 0, none⟩ = some (.int .i64 a0_0) ∧ w'.cell? ⟨gb241, 1, none⟩ = some (.slice A0_1 l0_1.length c0_1) ∧ w'.cell? ⟨gb242, 0, none⟩ = some (.string a1_0) ∧ w'.cell? ⟨gb242, 1, none⟩ = some (.int .i64 a1_1) ∧ w'.cell? ⟨gb242, 2, none⟩ = some (.int .i64 a1_2)) (ds := []) #[false, false, false, false, false, false, false, false, false, false, false, false, false, false, false] (by kernel_rfl) rfl rfl ⟨(blk_cell BK241.out 0).trans rfl, (blk_cell BK241.out 1).trans rfl, (blk_cell BK242.out 0).trans rfl, (blk_cell BK242.out 1).trans rfl, (blk_cell BK242.out 2).trans rfl⟩ (fun hHeld => ?_); refine with_tabW modillionlaw09_SeqNext.tab3 modillionlaw09_SeqNext.bits3 (fun HT_ HW_ => ?_)
        generalize wc.drew = w38 at BK241 BK242 HB hHeld ⊢
        refine pure_ (i := 3) (N := some 33) (v := ?_) (a' := ?_) #[false, false, false, true, false, false, false, false, false, false, false, false, false, false, false] rfl rfl (any_of HT_.out (by kernel_rfl)) (fun _ _ _ h => h) (Or.inl ⟨by rfl, ?_⟩) ?_ ?_
        rotate_left
        ·intro w'
         go_simp
         with_reducible rfl
        rotate_left
        ·simp only [Act.put, q1_, q2_, q3_, i64_w, i32_w]
         rfl
        refine pure_ (i := 5) (N := some 35) (v := ?_) (a' := ?_) #[false, false, false, true, false, true, false, false, false, false, false, false, false, false, false] rfl rfl (any_of HT_.out (by kernel_rfl)) (fun _ _ _ h => h) (Or.inl ⟨by rfl, ?_⟩) ?_ ?_
        rotate_left
        ·intro w'
         go_simp
         with_reducible rfl
        rotate_left
        ·simp only [Act.put, q1_, q2_, q3_, i64_w, i32_w]
         rfl
        refine take_ (i := 0) (N := some 30) (v := ?_) (a' := ?_) #[true, false, false, true, false, true, false, false, false, false, false, false, false, false, false] rfl rfl (take_ofW HT_.out HW_.out (by kernel_rfl)) (fun _ _ _ h => h) (Or.inl ⟨by rfl, ?_⟩) hHeld ?_ ?_
        rotate_left
        ·rintro w' ⟨s0, s1, s2, s3, s4⟩
         go_simp
         with_reducible rfl
        rotate_left
        ·simp only [Act.put, q1_, q2_, q3_, i64_w, i32_w]
         rfl
        refine take_ (i := 2) (N := some 32) (v := ?_) (a' := ?_) #[true, false, true, true, false, true, false, false, false, false, false, false, false, false, false] rfl rfl (take_ofW HT_.out HW_.out (by kernel_rfl)) (fun _ _ _ h => h) (Or.inl ⟨by rfl, ?_⟩) hHeld ?_ ?_
        rotate_left
        ·rintro w' ⟨s0, s1, s2, s3, s4⟩
         go_simp
         with_reducible rfl
        rotate_left
        ·simp only [Act.put, q1_, q2_, q3_, i64_w, i32_w]
         rfl
        refine join_ (σ := Value × Value) 9 #[true, true, true, true, true, true, false, false, false, false, false, false, false, false, false] (fun s_ => [(31, .agg #[.int .i64 t245, s_.1]), (34, s_.2)]) (fun s_ w' => (w'.cell? ⟨gb241, 0, none⟩ = some (.int .i64 a0_0) ∧ w'.cell? ⟨gb241, 1, none⟩ = some (.slice A0_1 l0_1.length c0_1) ∧ w'.cell? ⟨gb242, 0, none⟩ = some (.string a1_0) ∧ w'.cell? ⟨gb242, 1, none⟩ = some (.int .i64 a1_1) ∧ w'.cell? ⟨gb242, 2, none⟩ = some (.int .i64 a1_2)) ∧ (Kd.R k48 48 w' w.heap.size (fun _ => True) s_.1 t246) ∧ (Kd.R k50 50 w' w.heap.size (fun _ => True) s_.2 y249) ∧ (w'.heap[gb241]? = some (.cells #[.int .i64 a0_0, .slice A0_1 l0_1.length c0_1] 24 (0, 0))) ∧ (w'.heap[gb242]? = some (.cells #[.string a1_0, .int .i64 a1_1, .int .i64 a1_2] 26 (0, 0))) ∧ (Below w.heap.size w w')) ?_ ?_
        rotate_left
        ·intro hCont
         refine two_ (i := 1) (j := 4) (Ni := some 31) (Nj := some 34) #[true, true, true, true, false, true, false, false, false, false, false, false, false, false, false] #[true, false, true, true, true, true, false, false, false, false, false, false, false, false, false] rfl rfl rfl rfl (two_of HT_.out (by kernel_rfl)) (by decide) (by decide) (fun K hK => ?_) (fun K hK => ?_)
         ·skip
          refine goes_ Tryz.func7 (by kernel_rfl) rfl #[.agg #[.int .i64 a0_0, .slice A0_1 l0_1.length c0_1]] (by rfl) rfl rfl (by (try simp only [List.map_toArray, List.map_cons, List.map_nil]); first | done | rfl | (simp only [List.length_drop, List.length_take]; rfl)) ?_
          with_reducible refine (modillionlaw09_Own.calls a0_0 _ _ l0_1 t245 t246 _ ?z1 ?z2 A21.out).mono ?_
          (case z1 => exact kC HR0_1.out HB.out)
          (case z2 => exact HC0_1.out)
          rintro e w39 ⟨v247, rfl, ho0, hb⟩
          refine ⟨_, rfl, ?_⟩
          have HO248 := lS ho0 HB
          replace BK241 := aS BK241 hb
          replace BK242 := aS BK242 hb
          replace HB := bS HB hb
          clear hb ho0
          refine hK.out _ _ ⟨(blk_cell BK241.out 0).trans rfl, (blk_cell BK241.out 1).trans rfl, (blk_cell BK242.out 0).trans rfl, (blk_cell BK242.out 1).trans rfl, (blk_cell BK242.out 2).trans rfl⟩ (fun hHeld => ?_)
          clear hK K
          refine norm_ (a' := ?_) ?_ ?_
          rotate_left
          ·show Act.put _ (some 31) _ = _
           simp only [Act.put, q1_, q2_, q3_, i64_w, i32_w]
           rfl
          refine one_ (i := 4) (N := some 34) #[true, true, true, true, true, true, false, false, false, false, false, false, false, false, false] rfl rfl (one_of HT_.out (by kernel_rfl)) (by decide) (fun K hK => ?_)
          refine Kd.R_lit_step k50 _ 50 ?hg (N := 34) ?hd (xs := ([] : List (S50))) (inner := []) (ok := fun _ => True) (okp := fun _ => True) ?hr ?hp (fun _ hk => hk) trivial (Below.refl _ _) (Nat.le_refl _) (by simp) ?_; (case hd => rfl); (case hg => rfl); (case hr => first | (go_simp; done) | (go_simp; rfl)); (case hp => exact (Reps.none _ _))
          intro v250 w40 ho41 hb hg_ hnew_
          clear hg_ hnew_
          (first | rw [← Ny249.out] at ho41 | (simp only [Int.reduceToNat] at ho41; rw [← Ny249.out] at ho41))
          have HO251 := lS ho41 HB
          replace HO248 := rS HO248 hb
          replace BK241 := aS BK241 hb
          replace BK242 := aS BK242 hb
          replace HB := bS HB hb
          clear hb ho41
          refine hK.out _ _ ⟨(blk_cell BK241.out 0).trans rfl, (blk_cell BK241.out 1).trans rfl, (blk_cell BK242.out 0).trans rfl, (blk_cell BK242.out 1).trans rfl, (blk_cell BK242.out 2).trans rfl⟩ (fun hHeld => ?_)
          clear hK K
          refine norm_ (a' := ?_) ?_ ?_
          rotate_left
          ·show Act.put _ (some 34) _ = _
           simp only [Act.put, q1_, q2_, q3_, i64_w, i32_w]
           rfl
          exact norm_ (by simp only [putAll, Act.put, q1_, q2_, q3_]) (hCont (v247, v250) _ ⟨hHeld, (kR HO248.out), (kR HO251.out), (kA BK241.out), (kA BK242.out), (kB HB.out)⟩)
         ·skip
          refine Kd.R_lit_step k50 _ 50 ?hg (N := 34) ?hd (xs := ([] : List (S50))) (inner := []) (ok := fun _ => True) (okp := fun _ => True) ?hr ?hp (fun _ hk => hk) trivial (Below.refl _ _) (Nat.le_refl _) (by simp) ?_; (case hd => rfl); (case hg => rfl); (case hr => first | (go_simp; done) | (go_simp; rfl)); (case hp => exact (Reps.none _ _))
          intro v250 w39 ho40 hb hg_ hnew_
          clear hg_ hnew_
          (first | rw [← Ny249.out] at ho40 | (simp only [Int.reduceToNat] at ho40; rw [← Ny249.out] at ho40))
          have HO251 := lS ho40 HB
          replace BK241 := aS BK241 hb
          replace BK242 := aS BK242 hb
          replace HB := bS HB hb
          clear hb ho40
          refine hK.out _ _ ⟨(blk_cell BK241.out 0).trans rfl, (blk_cell BK241.out 1).trans rfl, (blk_cell BK242.out 0).trans rfl, (blk_cell BK242.out 1).trans rfl, (blk_cell BK242.out 2).trans rfl⟩ (fun hHeld => ?_)
          clear hK K
          refine norm_ (a' := ?_) ?_ ?_
          rotate_left
          ·show Act.put _ (some 34) _ = _
           simp only [Act.put, q1_, q2_, q3_, i64_w, i32_w]
           rfl
          refine one_ (i := 1) (N := some 31) #[true, true, true, true, true, true, false, false, false, false, false, false, false, false, false] rfl rfl (one_of HT_.out (by kernel_rfl)) (by decide) (fun K hK => ?_)
          refine goes_ Tryz.func7 (by kernel_rfl) rfl #[.agg #[.int .i64 a0_0, .slice A0_1 l0_1.length c0_1]] (by rfl) rfl rfl (by (try simp only [List.map_toArray, List.map_cons, List.map_nil]); first | done | rfl | (simp only [List.length_drop, List.length_take]; rfl)) ?_
          with_reducible refine (modillionlaw09_Own.calls a0_0 _ _ l0_1 t245 t246 _ ?z1 ?z2 A21.out).mono ?_
          (case z1 => exact kC HR0_1.out HB.out)
          (case z2 => exact HC0_1.out)
          rintro e w41 ⟨v247, rfl, ho0, hb⟩
          refine ⟨_, rfl, ?_⟩
          have HO248 := lS ho0 HB
          replace HO251 := rS HO251 hb
          replace BK241 := aS BK241 hb
          replace BK242 := aS BK242 hb
          replace HB := bS HB hb
          clear hb ho0
          refine hK.out _ _ ⟨(blk_cell BK241.out 0).trans rfl, (blk_cell BK241.out 1).trans rfl, (blk_cell BK242.out 0).trans rfl, (blk_cell BK242.out 1).trans rfl, (blk_cell BK242.out 2).trans rfl⟩ (fun hHeld => ?_)
          clear hK K
          refine norm_ (a' := ?_) ?_ ?_
          rotate_left
          ·show Act.put _ (some 31) _ = _
           simp only [Act.put, q1_, q2_, q3_, i64_w, i32_w]
           rfl
          exact norm_ (by simp only [putAll, Act.put, q1_, q2_, q3_]) (hCont (v247, v250) _ ⟨hHeld, (kR HO248.out), (kR HO251.out), (kA BK241.out), (kA BK242.out), (kB HB.out)⟩)
        rintro ⟨v247, v250⟩ w42 ⟨hS_, h0_, h1_, h2_, h3_, h4_⟩
        have n0_ : Aside0 (Kd.R k48 48 w42 w.heap.size (fun _ => True) v247 t246) := ⟨h0_⟩
        have n1_ : Aside0 (Kd.R k50 50 w42 w.heap.size (fun _ => True) v250 y249) := ⟨h1_⟩
        have n2_ : Aside0 (w42.heap[gb241]? = some (.cells #[.int .i64 a0_0, .slice A0_1 l0_1.length c0_1] 24 (0, 0))) := ⟨h2_⟩
        have n3_ : Aside0 (w42.heap[gb242]? = some (.cells #[.string a1_0, .int .i64 a1_1, .int .i64 a1_2] 26 (0, 0))) := ⟨h3_⟩
        have n4_ : Aside0 (Below w.heap.size w w42) := ⟨h4_⟩
        clear BK241
        clear BK242
        clear HB
        clear h0_ h1_ h2_ h3_ h4_
        have HO248 := n0_
        have HO251 := n1_
        have BK241 := n2_
        have BK242 := n3_
        have HB := n4_
        clear n0_ n1_ n2_ n3_ n4_
        have hHeld : w42.cell? ⟨gb241, 0, none⟩ = some (.int .i64 a0_0) ∧ w42.cell? ⟨gb241, 1, none⟩ = some (.slice A0_1 l0_1.length c0_1) ∧ w42.cell? ⟨gb242, 0, none⟩ = some (.string a1_0) ∧ w42.cell? ⟨gb242, 1, none⟩ = some (.int .i64 a1_1) ∧ w42.cell? ⟨gb242, 2, none⟩ = some (.int .i64 a1_2) := hS_
        refine norm_ (a' := ?_) ?_ ?_
        rotate_left
        ·simp only [putAll, Act.put, q1_, q2_, q3_]
         rfl
        refine one_ (i := 6) (N := some 36) #[true, true, true, true, true, true, true, false, false, false, false, false, false, false, false] rfl rfl (one_of HT_.out (by kernel_rfl)) (by decide) (fun K hK => ?_)
        refine Kd.R_append_rows_step k50 (w0 := w) w.heap.size (by rfl) (.tmp 34) (.tmp 35) 27 50 (.agg #[(.int .i64 0), (.int .i64 0), (.bool false), (.bool false), (.int .i64 0)]) 32 rfl Tryz.underlying27 info50 rfl (by decide) (by omega) v250 y249 l3 _ _ _ (fun _ => True) (fun _ => False) rfl rfl ?aO ?aR (fun _ _ h => h) (fun _ h => h.elim) ?aF ?aB ?aS ?aL ?_
        (case aR => exact kC HR3.out HB.out)
        (case aB => exact (kB HB.out))
        (case aF => exact (fun _ _ => trivial))
        (case aO => exact (kR HO251.out))
        (case aS => exact (below_size (kB HB.out)))
        (case aL => have := LMc22.out; omega)
        intro v253 w43 ho hb hg hat
        rw [← Ny252.out] at ho
        have n0_ := Aside0.mk (blk_grown (g := gb241) (o := .cells #[.int .i64 a0_0, .slice A0_1 l0_1.length c0_1] 24 (0, 0)) (kA BK241.out) hg (Kd.R_ne HO251.out BK241.out (by decide)))
        have n1_ := Aside0.mk (blk_grown (g := gb242) (o := .cells #[.string a1_0, .int .i64 a1_1, .int .i64 a1_2] 26 (0, 0)) (kA BK242.out) hg (Kd.R_ne HO251.out BK242.out (by decide)))
        have n2_ := Aside0.mk (Kd.R_over' (kR HO248.out) (Kd.R_typed (kR HO251.out)) (by decide) hg)
        have n3_ := Aside0.mk (hb)
        have n4_ := Aside0.mk (ho)
        clear BK241
        clear BK242
        clear HO248
        clear HB
        clear HO251
        have BK241 := n0_
        have BK242 := n1_
        have HO248 := n2_
        have HB := n3_
        have HO254 := n4_
        clear n0_ n1_ n2_ n3_ n4_
        clear ho hb hg hat
        obtain ⟨Ao44, co44, eo44⟩ := Kd.R_slice HO248.out
        (first | subst eo44 | (injection eo44 with f1_ f2_ f3_; have f4_ := f1_.symm; have f5_ := f3_.symm; clear f1_ f2_ f3_; subst f4_; subst f5_))
        obtain ⟨Ao45, co45, eo45⟩ := Kd.R_slice HO254.out
        (first | subst eo45 | (injection eo45 with f1_ f2_ f3_; have f4_ := f1_.symm; have f5_ := f3_.symm; clear f1_ f2_ f3_; subst f4_; subst f5_))
        refine hK.out _ _ ⟨(blk_cell BK241.out 0).trans rfl, (blk_cell BK241.out 1).trans rfl, (blk_cell BK242.out 0).trans rfl, (blk_cell BK242.out 1).trans rfl, (blk_cell BK242.out 2).trans rfl⟩ (fun hHeld => ?_)
        clear hK K
        refine norm_ (a' := ?_) ?_ ?_
        rotate_left
        ·show Act.put _ (some 36) _ = _
         simp only [Act.put, q1_, q2_, q3_, i64_w, i32_w]
         rfl
        refine one_ (i := 7) (N := some 37) #[true, true, true, true, true, true, true, true, false, false, false, false, false, false, false] rfl rfl (one_of HT_.out (by kernel_rfl)) (by decide) (fun K hK => ?_)
        refine goes_ Tryz.func6 (by kernel_rfl) rfl #[.agg #[.int .i64 t245, .slice Ao44 t246.length co44], .agg #[.string a1_0, .int .i64 a1_1, .int .i64 a1_2], .int .i64 a2, .slice Ao45 y252.length co45] (by rfl) rfl rfl (by (try simp only [List.map_toArray, List.map_cons, List.map_nil]); first | done | rfl | (simp only [List.length_drop, List.length_take]; rfl)) ?_
        with_reducible refine (seq_Next.calls t245 _ _ t246 a1_0 a1_1 a1_2 a2 _ _ y252 t255 t258 t261 _ ?z1 ?z2 ?z3 ?z4 A23.out).mono ?_
        (case z1 => exact kD (Kd.R_reads' HO248.out).2.2)
        (case z2 => exact (Kd.R_reads' HO248.out).2.1)
        (case z3 => exact kD (Kd.R_reads' HO254.out).2.2)
        (case z4 => exact (Kd.R_reads' HO254.out).2.1)
        rintro e w46 ⟨v256, v259, rfl, ho0, ho1, hb⟩
        refine ⟨_, rfl, ?_⟩
        have HO257 := Aside0.mk (Kd.R_lower (Kd.R_new' ho0 (Kd.R_lt (kR HO254.out))) (below_size (kB HB.out)))
        have HO260 := lS ho1 HB
        replace HO248 := rS HO248 hb
        replace HO254 := Aside0.mk (Kd.R_elder' (kR HO254.out) (Kd.R_base ho0) hb)
        replace BK241 := aS BK241 hb
        replace BK242 := aS BK242 hb
        replace HB := bS HB hb
        clear hb ho0 ho1
        refine hK.out _ _ ⟨(blk_cell BK241.out 0).trans rfl, (blk_cell BK241.out 1).trans rfl, (blk_cell BK242.out 0).trans rfl, (blk_cell BK242.out 1).trans rfl, (blk_cell BK242.out 2).trans rfl⟩ (fun hHeld => ?_)
        clear hK K
        refine norm_ (a' := ?_) ?_ ?_
        rotate_left
        ·show Act.put _ (some 37) _ = _
         simp only [Act.put, q1_, q2_, q3_, i64_w, i32_w]
         rfl
        refine pure_ (i := 8) (N := some 29) (v := ?_) (a' := ?_) #[true, true, true, true, true, true, true, true, true, false, false, false, false, false, false] rfl rfl (any_of HT_.out (by kernel_rfl)) (fun _ _ _ h => h) (Or.inl ⟨by rfl, ?_⟩) ?_ ?_
        rotate_left
        ·intro w'
         go_simp
         with_reducible rfl
        rotate_left
        ·simp only [Act.put, q1_, q2_, q3_, i64_w, i32_w]
         rfl
        refine pure_ (i := 9) (N := some 38) (v := ?_) (a' := ?_) #[true, true, true, true, true, true, true, true, true, true, false, false, false, false, false] rfl rfl (any_of HT_.out (by kernel_rfl)) (fun _ _ _ h => h) (Or.inl ⟨by rfl, ?_⟩) ?_ ?_
        rotate_left
        ·intro w'
         go_simp
         with_reducible rfl
        rotate_left
        ·simp only [Act.put, q1_, q2_, q3_, i64_w, i32_w]
         rfl
        refine pure_ (i := 10) (N := some 39) (v := ?_) (a' := ?_) #[true, true, true, true, true, true, true, true, true, true, true, false, false, false, false] rfl rfl (any_of HT_.out (by kernel_rfl)) (fun _ _ _ h => h) (Or.inl ⟨by rfl, ?_⟩) ?_ ?_
        rotate_left
        ·intro w'
         go_simp
         with_reducible rfl
        rotate_left
        ·simp only [Act.put, q1_, q2_, q3_, i64_w, i32_w]
         rfl
        refine pure_ (i := 11) (N := some 40) (v := ?_) (a' := ?_) #[true, true, true, true, true, true, true, true, true, true, true, true, false, false, false] rfl rfl (any_of HT_.out (by kernel_rfl)) (fun _ _ _ h => h) (Or.inl ⟨by rfl, ?_⟩) ?_ ?_
        rotate_left
        ·intro w'
         go_simp
         with_reducible rfl
        rotate_left
        ·simp only [Act.put, q1_, q2_, q3_, i64_w, i32_w]
         rfl
        refine pure_ (i := 12) (N := some 9) (v := ?_) (a' := ?_) #[true, true, true, true, true, true, true, true, true, true, true, true, true, false, false] rfl rfl (any_of HT_.out (by kernel_rfl)) (fun _ _ _ h => h) (Or.inl ⟨by rfl, ?_⟩) ?_ ?_
        rotate_left
        ·intro w'
         go_simp
         with_reducible rfl
        rotate_left
        ·simp only [Act.put, q1_, q2_, q3_, i64_w, i32_w]
         rfl
        refine pure_ (i := 13) (N := some 10) (v := ?_) (a' := ?_) #[true, true, true, true, true, true, true, true, true, true, true, true, true, true, false] rfl rfl (any_of HT_.out (by kernel_rfl)) (fun _ _ _ h => h) (Or.inl ⟨by rfl, ?_⟩) ?_ ?_
        rotate_left
        ·intro w'
         go_simp
         with_reducible rfl
        rotate_left
        ·simp only [Act.put, q1_, q2_, q3_, i64_w, i32_w]
         rfl
        refine pure_ (i := 14) (N := some 11) (v := ?_) (a' := ?_) #[true, true, true, true, true, true, true, true, true, true, true, true, true, true, true] rfl rfl (any_of HT_.out (by kernel_rfl)) (fun _ _ _ h => h) (Or.inl ⟨by rfl, ?_⟩) ?_ ?_
        rotate_left
        ·intro w'
         go_simp
         with_reducible rfl
        rotate_left
        ·simp only [Act.put, q1_, q2_, q3_, i64_w, i32_w]
         rfl
        refine done_ (done_of HT_.out (by kernel_rfl)) ?_
        have := NB241_242.out
        have := NB242_241.out
        obtain ⟨_, _, _, _⟩ := q2z w46 BK241.out
        obtain ⟨_, _, _, _, _, _⟩ := q3z w46 BK242.out
        try go_wp2_with (first | ((with_reducible refine gate_callee (f := 8) rfl ?_); refine gL_ (some 46) Tryz.func8 #[.agg #[.int .i64 a0_0, .slice A0_1 l0_1.length c0_1], .agg #[.string a1_0, .int .i64 a1_1, .int .i64 a1_2], .int .i64 a2, .slice A3 l3.length c3] ?_; (with_reducible refine (modillionref09_Next.calls kj4 a0_0 _ _ l0_1 a1_0 a1_1 a1_2 a2 _ _ l3 t262 t265 t268 _ ?z1 ?z2 ?z3 ?z4 A24.out).mono ?_); (case z1 => exact kC HR0_1.out HB.out); (case z2 => exact HC0_1.out); (case z3 => exact kC HR3.out HB.out); (case z4 => exact HC3.out); rintro e w50 ⟨v263, v266, rfl, ho0, ho1, hb⟩; refine ⟨_, rfl, ?_⟩; have HO264 := Aside0.mk (Kd.R_lower (Kd.R_new' (Kd.R_new' ho0 (Kd.R_lt (kR HO254.out))) (Kd.R_lt (kR HO257.out))) (below_size (kB HB.out))); have HO267 := Aside0.mk (Kd.R_lower (Kd.R_new' ho1 (Kd.R_lt (kR HO260.out))) (below_size (kB HB.out))); replace HO248 := rS HO248 hb; replace HO254 := Aside0.mk (Kd.R_elder' (kR HO254.out) (Kd.R_base ho0) hb); replace HO257 := Aside0.mk (Kd.R_elder' (kR HO257.out) (Kd.R_base ho0) hb); replace HO260 := Aside0.mk (Kd.R_elder' (kR HO260.out) (Kd.R_base ho1) hb); replace BK241 := aS BK241 hb; replace BK242 := aS BK242 hb; replace HB := bS HB hb; clear hb ho0 ho1; obtain ⟨Ao51, co51, eo51⟩ := Kd.R_slice HO257.out; subst eo51; obtain ⟨Ao52, co52, eo52⟩ := Kd.R_slice HO264.out; subst eo52) | ((with_reducible refine gate_callee (f := 9) rfl ?_); refine gL_ (some 52) Tryz.func9 #[.slice Ao51 t255.length co51, .slice Ao52 t262.length co52] ?_; (with_reducible refine (modillionref09_Same.calls kj4 _ _ t255 _ _ t262 true _ ?z1 ?z2 ?z3 ?z4 A25.out).mono ?_); (case z1 => exact kD (Kd.R_reads' HO257.out).2.2); (case z2 => exact (Kd.R_reads' HO257.out).2.1); (case z3 => exact kD (Kd.R_reads' HO264.out).2.2); (case z4 => exact (Kd.R_reads' HO264.out).2.1); rintro e w' ⟨rfl, ⟨nd, rfl⟩⟩; refine ⟨_, rfl, ?_⟩; obtain ⟨Ao53, co53, eo53⟩ := Kd.R_slice HO260.out; subst eo53; obtain ⟨Ao54, co54, eo54⟩ := Kd.R_slice HO267.out; subst eo54) | (go_at_call 10; (with_reducible refine (modillionref07_Same.calls kj4 _ _ t258 _ _ t265 true _ ?z1 ?z2 ?z3 ?z4 A27.out).mono ?_); (case z1 => exact kD (Kd.R_reads' HO260.out).2.2); (case z2 => exact (Kd.R_reads' HO260.out).2.1); (case z3 => exact kD (Kd.R_reads' HO267.out).2.2); (case z4 => exact (Kd.R_reads' HO267.out).2.1); rintro e w' ⟨rfl, ⟨nd, rfl⟩⟩) | ((with_reducible refine gate_dst (N := 64) rfl ?_); (try (refine gate_guard (by rfl) ?_; dsimp only)); refine Kd.R_lit k50 _ 50 ?hg (N := 64) ?hd (xs := ([] : List (S50))) (inner := []) (ok := fun _ => True) (okp := fun _ => True) ?hr ?hp (fun _ hk => hk) trivial (Below.refl _ _) (Nat.le_refl _) (by simp) ?_; (case hd => rfl); (case hg => rfl); (case hr => first | (go_simp; done) | (go_simp; rfl)); (case hp => exact (Reps.none _ _)); intro v272 w55 ho56 hb hg_ hnew_; clear hg_ hnew_; (first | rw [← Ny271.out] at ho56 | (simp only [Int.reduceToNat] at ho56; rw [← Ny271.out] at ho56)); have HO273 := Aside0.mk (Kd.R_lower (Kd.R_new' (Kd.R_new' (Kd.R_new' ho56 (Kd.R_lt (kR HO254.out))) (Kd.R_lt (kR HO257.out))) (Kd.R_lt (kR HO264.out))) (below_size (kB HB.out))); replace HO248 := rS HO248 hb; replace HO254 := Aside0.mk (Kd.R_elder' (kR HO254.out) (Kd.R_base ho56) hb); replace HO257 := Aside0.mk (Kd.R_elder' (kR HO257.out) (Kd.R_base ho56) hb); replace HO260 := rS HO260 hb; replace HO264 := Aside0.mk (Kd.R_elder' (kR HO264.out) (Kd.R_base ho56) hb); replace HO267 := rS HO267 hb; replace BK241 := aS BK241 hb; replace BK242 := aS BK242 hb; replace HB := bS HB hb; clear hb ho56) | ((with_reducible refine gate_builtin (b := .append) (xs := #[.tmp 64, .tmp 65]) rfl ?_); (try (refine gate_guard (by rfl) ?_; dsimp only)); at_builtin; refine Kd.R_append_rows k50 (w0 := w) w.heap.size rfl (.tmp 64) (.tmp 65) 27 50 (.agg #[(.int .i64 0), (.int .i64 0), (.bool false), (.bool false), (.int .i64 0)]) 32 rfl Tryz.underlying27 info50 rfl (by decide) (by omega) v272 y271 l3 _ _ _ (fun k_ => some k_ ≠ (.slice Ao45 y252.length co45 : Value).ownBlock ∧ some k_ ≠ (.slice Ao51 t255.length co51 : Value).ownBlock ∧ some k_ ≠ (.slice Ao52 t262.length co52 : Value).ownBlock) (fun _ => False) rfl rfl ?aO ?aR (fun _ _ h => h) (fun _ h => h.elim) ?aF ?aB ?aS ?aL ?_; (case aR => exact kC HR3.out HB.out); (case aB => exact (kB HB.out)); (case aF => exact (fun k_ hk => ⟨Kd.fresh' (Kd.R_lt (kR HO254.out)) k_ hk, Kd.fresh' (Kd.R_lt (kR HO257.out)) k_ hk, Kd.fresh' (Kd.R_lt (kR HO264.out)) k_ hk⟩)); (case aO => exact (by (with_reducible repeat (first | apply Kd.R_alloc | apply Kd.R_drewN | apply Kd.R_drew)); exact Kd.R_mono HO273.out (fun _ hk => ⟨hk.1.1.2, ⟨hk.1.2, hk.2⟩⟩))); (case aS => exact (below_size (kB HB.out))); (case aL => have := LMc30.out; omega); intro v275 w57 ho hb hg hat; rw [← Ny274.out] at ho; have n0_ := Aside0.mk (blk_grown (g := gb241) (o := .cells #[.int .i64 a0_0, .slice A0_1 l0_1.length c0_1] 24 (0, 0)) (kA BK241.out) hg (Kd.R_ne HO273.out BK241.out (by decide))); have n1_ := Aside0.mk (blk_grown (g := gb242) (o := .cells #[.string a1_0, .int .i64 a1_1, .int .i64 a1_2] 26 (0, 0)) (kA BK242.out) hg (Kd.R_ne HO273.out BK242.out (by decide))); have n2_ := Aside0.mk (Kd.R_over' (kR HO248.out) (Kd.R_typed (kR HO273.out)) (by decide) hg); have n3_ := Aside0.mk (Kd.R_after (ok := (fun k_ => some k_ ≠ (.slice Ao51 t255.length co51 : Value).ownBlock ∧ some k_ ≠ (.slice Ao52 t262.length co52 : Value).ownBlock)) (by (with_reducible repeat (first | apply Kd.R_alloc | apply Kd.R_drewN | apply Kd.R_drew)); exact Kd.R_mono HO254.out (fun _ hk => ⟨⟨hk.1.1.2, hk.1.2⟩, hk.2⟩)) hg hat); have n4_ := Aside0.mk (Kd.R_after (ok := (fun k_ => some k_ ≠ (.slice Ao45 y252.length co45 : Value).ownBlock ∧ some k_ ≠ (.slice Ao52 t262.length co52 : Value).ownBlock)) (by (with_reducible repeat (first | apply Kd.R_alloc | apply Kd.R_drewN | apply Kd.R_drew)); exact Kd.R_mono HO257.out (fun _ hk => ⟨⟨hk.1.1.2, hk.1.2⟩, hk.2⟩)) hg hat); have n5_ := Aside0.mk (Kd.R_over' (kR HO260.out) (Kd.R_typed (kR HO273.out)) (by decide) hg); have n6_ := Aside0.mk (Kd.R_after (ok := (fun k_ => some k_ ≠ (.slice Ao45 y252.length co45 : Value).ownBlock ∧ some k_ ≠ (.slice Ao51 t255.length co51 : Value).ownBlock)) (by (with_reducible repeat (first | apply Kd.R_alloc | apply Kd.R_drewN | apply Kd.R_drew)); exact Kd.R_mono HO264.out (fun _ hk => ⟨⟨hk.1.1.2, hk.1.2⟩, hk.2⟩)) hg hat); have n7_ := Aside0.mk (Kd.R_over' (kR HO267.out) (Kd.R_typed (kR HO273.out)) (by decide) hg); have n8_ := Aside0.mk (hb); have n9_ := Aside0.mk (ho); clear BK241; clear BK242; clear HO248; clear HO254; clear HO257; clear HO260; clear HO264; clear HO267; clear HB; clear HO273; have BK241 := n0_; have BK242 := n1_; have HO248 := n2_; have HO254 := n3_; have HO257 := n4_; have HO260 := n5_; have HO264 := n6_; have HO267 := n7_; have HB := n8_; have HO276 := n9_; clear n0_ n1_ n2_ n3_ n4_ n5_ n6_ n7_ n8_ n9_; clear ho hb hg hat; obtain ⟨Ao58, co58, eo58⟩ := Kd.R_slice HO276.out; subst eo58) | (go_at_call 11; (with_reducible refine (seq_Quiet.calls _ _ y274 t277 _ ?z1 ?z2 A31.out).mono ?_); (case z1 => exact kD (Kd.R_reads' HO276.out).2.2); (case z2 => exact (Kd.R_reads' HO276.out).2.1); rintro e w59 ⟨rfl, hb⟩; replace HO248 := rS HO248 hb; replace HO254 := rS HO254 hb; replace HO257 := rS HO257 hb; replace HO260 := rS HO260 hb; replace HO264 := rS HO264 hb; replace HO267 := rS HO267 hb; replace HO276 := rS HO276 hb; replace BK241 := aS BK241 hb; replace BK242 := aS BK242 hb; replace HB := bS HB hb; clear hb) | (go_at_call 12; (with_reducible refine (modillionref09_Quiet.calls kj4 _ _ l3 t278 _ ?z1 ?z2 A32.out).mono ?_); (case z1 => exact kC HR3.out HB.out); (case z2 => exact HC3.out); rintro e w' ⟨rfl, ⟨nd, rfl⟩⟩) | ((with_reducible refine gate_dst (N := 73) rfl ?_); (try (refine gate_guard (by rfl) ?_; dsimp only)); refine Kd.R_lit k50 _ 50 ?hg (N := 73) ?hd (xs := ([] : List (S50))) (inner := []) (ok := fun _ => True) (okp := fun _ => True) ?hr ?hp (fun _ hk => hk) trivial (Below.refl _ _) (Nat.le_refl _) (by simp) ?_; (case hd => rfl); (case hg => rfl); (case hr => first | (go_simp; done) | (go_simp; rfl)); (case hp => exact (Reps.none _ _)); intro v280 w60 ho61 hb hg_ hnew_; clear hg_ hnew_; (first | rw [← Ny279.out] at ho61 | (simp only [Int.reduceToNat] at ho61; rw [← Ny279.out] at ho61)); have HO281 := Aside0.mk (Kd.R_lower (Kd.R_new' (Kd.R_new' (Kd.R_new' (Kd.R_new' ho61 (Kd.R_lt (kR HO254.out))) (Kd.R_lt (kR HO257.out))) (Kd.R_lt (kR HO264.out))) (Kd.R_lt (kR HO276.out))) (below_size (kB HB.out))); replace HO248 := rS HO248 hb; replace HO254 := Aside0.mk (Kd.R_elder' (kR HO254.out) (Kd.R_base ho61) hb); replace HO257 := Aside0.mk (Kd.R_elder' (kR HO257.out) (Kd.R_base ho61) hb); replace HO260 := rS HO260 hb; replace HO264 := Aside0.mk (Kd.R_elder' (kR HO264.out) (Kd.R_base ho61) hb); replace HO267 := rS HO267 hb; replace HO276 := Aside0.mk (Kd.R_elder' (kR HO276.out) (Kd.R_base ho61) hb); replace BK241 := aS BK241 hb; replace BK242 := aS BK242 hb; replace HB := bS HB hb; clear hb ho61) | ((with_reducible refine gate_builtin (b := .append) (xs := #[.tmp 73, .tmp 74]) rfl ?_); (try (refine gate_guard (by rfl) ?_; dsimp only)); at_builtin; refine Kd.R_append_rows k50 (w0 := w) w.heap.size rfl (.tmp 73) (.tmp 74) 27 50 (.agg #[(.int .i64 0), (.int .i64 0), (.bool false), (.bool false), (.int .i64 0)]) 32 rfl Tryz.underlying27 info50 rfl (by decide) (by omega) v280 y279 l3 _ _ _ (fun k_ => some k_ ≠ (.slice Ao45 y252.length co45 : Value).ownBlock ∧ some k_ ≠ (.slice Ao51 t255.length co51 : Value).ownBlock ∧ some k_ ≠ (.slice Ao52 t262.length co52 : Value).ownBlock ∧ some k_ ≠ (.slice Ao58 y274.length co58 : Value).ownBlock) (fun _ => False) rfl rfl ?aO ?aR (fun _ _ h => h) (fun _ h => h.elim) ?aF ?aB ?aS ?aL ?_; (case aR => exact kC HR3.out HB.out); (case aB => exact (kB HB.out)); (case aF => exact (fun k_ hk => ⟨Kd.fresh' (Kd.R_lt (kR HO254.out)) k_ hk, Kd.fresh' (Kd.R_lt (kR HO257.out)) k_ hk, Kd.fresh' (Kd.R_lt (kR HO264.out)) k_ hk, Kd.fresh' (Kd.R_lt (kR HO276.out)) k_ hk⟩)); (case aO => exact (by (with_reducible repeat (first | apply Kd.R_alloc | apply Kd.R_drewN | apply Kd.R_drew)); exact Kd.R_mono HO281.out (fun _ hk => ⟨hk.1.1.1.2, ⟨hk.1.1.2, ⟨hk.1.2, hk.2⟩⟩⟩))); (case aS => exact (below_size (kB HB.out))); (case aL => have := LMc34.out; omega); intro v283 w62 ho hb hg hat; rw [← Ny282.out] at ho; have n0_ := Aside0.mk (blk_grown (g := gb241) (o := .cells #[.int .i64 a0_0, .slice A0_1 l0_1.length c0_1] 24 (0, 0)) (kA BK241.out) hg (Kd.R_ne HO281.out BK241.out (by decide))); have n1_ := Aside0.mk (blk_grown (g := gb242) (o := .cells #[.string a1_0, .int .i64 a1_1, .int .i64 a1_2] 26 (0, 0)) (kA BK242.out) hg (Kd.R_ne HO281.out BK242.out (by decide))); have n2_ := Aside0.mk (Kd.R_over' (kR HO248.out) (Kd.R_typed (kR HO281.out)) (by decide) hg); have n3_ := Aside0.mk (Kd.R_after (ok := (fun k_ => some k_ ≠ (.slice Ao51 t255.length co51 : Value).ownBlock ∧ some k_ ≠ (.slice Ao52 t262.length co52 : Value).ownBlock ∧ some k_ ≠ (.slice Ao58 y274.length co58 : Value).ownBlock)) (by (with_reducible repeat (first | apply Kd.R_alloc | apply Kd.R_drewN | apply Kd.R_drew)); exact Kd.R_mono HO254.out (fun _ hk => ⟨⟨hk.1.1.1, ⟨hk.1.1.2, hk.1.2⟩⟩, hk.2⟩)) hg hat); have n4_ := Aside0.mk (Kd.R_after (ok := (fun k_ => some k_ ≠ (.slice Ao45 y252.length co45 : Value).ownBlock ∧ some k_ ≠ (.slice Ao52 t262.length co52 : Value).ownBlock ∧ some k_ ≠ (.slice Ao58 y274.length co58 : Value).ownBlock)) (by (with_reducible repeat (first | apply Kd.R_alloc | apply Kd.R_drewN | apply Kd.R_drew)); exact Kd.R_mono HO257.out (fun _ hk => ⟨⟨hk.1.1.1, ⟨hk.1.1.2, hk.1.2⟩⟩, hk.2⟩)) hg hat); have n5_ := Aside0.mk (Kd.R_over' (kR HO260.out) (Kd.R_typed (kR HO281.out)) (by decide) hg); have n6_ := Aside0.mk (Kd.R_after (ok := (fun k_ => some k_ ≠ (.slice Ao45 y252.length co45 : Value).ownBlock ∧ some k_ ≠ (.slice Ao51 t255.length co51 : Value).ownBlock ∧ some k_ ≠ (.slice Ao58 y274.length co58 : Value).ownBlock)) (by (with_reducible repeat (first | apply Kd.R_alloc | apply Kd.R_drewN | apply Kd.R_drew)); exact Kd.R_mono HO264.out (fun _ hk => ⟨⟨hk.1.1.1, ⟨hk.1.1.2, hk.1.2⟩⟩, hk.2⟩)) hg hat); have n7_ := Aside0.mk (Kd.R_over' (kR HO267.out) (Kd.R_typed (kR HO281.out)) (by decide) hg); have n8_ := Aside0.mk (Kd.R_after (ok := (fun k_ => some k_ ≠ (.slice Ao45 y252.length co45 : Value).ownBlock ∧ some k_ ≠ (.slice Ao51 t255.length co51 : Value).ownBlock ∧ some k_ ≠ (.slice Ao52 t262.length co52 : Value).ownBlock)) (kR HO276.out) hg hat); have n9_ := Aside0.mk (hb); have n10_ := Aside0.mk (ho); clear BK241; clear BK242; clear HO248; clear HO254; clear HO257; clear HO260; clear HO264; clear HO267; clear HO276; clear HB; clear HO281; have BK241 := n0_; have BK242 := n1_; have HO248 := n2_; have HO254 := n3_; have HO257 := n4_; have HO260 := n5_; have HO264 := n6_; have HO267 := n7_; have HO276 := n8_; have HB := n9_; have HO284 := n10_; clear n0_ n1_ n2_ n3_ n4_ n5_ n6_ n7_ n8_ n9_ n10_; clear ho hb hg hat; obtain ⟨Ao63, co63, eo63⟩ := Kd.R_slice HO284.out; subst eo63) | (go_at_call 14; (with_reducible refine (seq_Values.calls kj4 _ _ y282 t285 _ ?z1 ?z2 A35.out).mono ?_); (case z1 => exact kD (Kd.R_reads' HO284.out).2.2); (case z2 => exact (Kd.R_reads' HO284.out).2.1); rintro e w64 ⟨v286, rfl, ho0, hb⟩; have HO287 := lS ho0 HB; replace HO248 := rS HO248 hb; replace HO254 := rS HO254 hb; replace HO257 := rS HO257 hb; replace HO260 := rS HO260 hb; replace HO264 := rS HO264 hb; replace HO267 := rS HO267 hb; replace HO276 := rS HO276 hb; replace HO284 := rS HO284 hb; replace BK241 := aS BK241 hb; replace BK242 := aS BK242 hb; replace HB := bS HB hb; clear hb ho0) | (go_at_call 15; (with_reducible refine (modillionref09_Values.calls kj4 _ _ l3 t288 _ ?z1 ?z2 A36.out).mono ?_); (case z1 => exact kC HR3.out HB.out); (case z2 => exact HC3.out); rintro e w65 ⟨v289, rfl, ho0, hb⟩; have HO290 := Aside0.mk (Kd.R_lower (Kd.R_new' ho0 (Kd.R_lt (kR HO287.out))) (below_size (kB HB.out))); replace HO248 := rS HO248 hb; replace HO254 := rS HO254 hb; replace HO257 := rS HO257 hb; replace HO260 := rS HO260 hb; replace HO264 := rS HO264 hb; replace HO267 := rS HO267 hb; replace HO276 := rS HO276 hb; replace HO284 := rS HO284 hb; replace HO287 := Aside0.mk (Kd.R_elder' (kR HO287.out) (Kd.R_base ho0) hb); replace BK241 := aS BK241 hb; replace BK242 := aS BK242 hb; replace HB := bS HB hb; clear hb ho0; obtain ⟨Ao66, co66, eo66⟩ := Kd.R_slice HO287.out; subst eo66; obtain ⟨Ao67, co67, eo67⟩ := Kd.R_slice HO290.out; subst eo67) | (go_at_call 13; (with_reducible refine (modillionref09_Row.calls kj4 _ _ t285 _ _ t288 t291 _ ?z1 ?z2 ?z3 ?z4 A37.out).mono ?_); (case z1 => exact kD (Kd.R_reads' HO287.out).2.2); (case z2 => exact (Kd.R_reads' HO287.out).2.1); (case z3 => exact kD (Kd.R_reads' HO290.out).2.2); (case z4 => exact (Kd.R_reads' HO290.out).2.1); rintro e w' ⟨rfl, ⟨nd, rfl⟩⟩))
        go_ret
        exact ⟨by first | rfl | (simp [errW_none, errW_some] <;> rfl) | (simp [*, errW_none, errW_some] <;> rfl), by exact kB HB.out⟩
       ·rw [if_neg c33] at H; cases H
      ·rw [if_neg c29] at H; cases H
     ·rw [if_neg c28] at H; cases H
    ·rw [if_neg c26] at H; cases H

end Go.Proofs.YtpndhkeoljoapaaGreat.P
